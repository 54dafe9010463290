/- Lemmas -/
import Derived.Test.YtkpojedpcabojaaGreatDoorAb17
import Derived.OrdersIn
import Derived.TacticsIn
import Derived.RangeFuncIn
import Derived.RangeFuncLeaves
import Derived.Sort.LoopGhostIn
set_option linter.unusedVariables false
set_option linter.unusedSimpArgs false
namespace Go.Ab
def Lo(N:Nat):List Operand→List Bh→Bool
 | [],[]=>true
 |x::xs,y::ys=>Bu N x y&&Lo N xs ys
 |_,_=>false
def Ahs(G:Mem)(σ:Lab)(Fr:Mem)(w:World)(st:St)(vv:Nat→Value):SV→Value→Prop
 | .v x,c=>Bb G x c
 | .F4 fs,c=>∃(us:List I) (cs:Array Value),fs=us.map F.i∧c= .tuple cs∧F3 G σ w 0 0 (us.map F.i) cs.toList
 | .pd s ver p,c=>Fa G σ w st vv 0 (.pd s ver p) c
 | .bd s ver p,c=>Fa G σ w st vv 0 (.bd s ver p) c
 | .Qg f s ver p,c=>∃g c0 ty,c= .func (.func f) #[] #[.pointer (some ⟨g,0,none⟩)]∧(G g=none∧Fr g=none∧σ g=none∧g<w.heap.size)∧w.heap[g]?=some (.cells #[c0] ty (0,0))∧∃cur,st[s]?=some cur∧ver≤cur.1∧∀inv d,cur.2= .own inv d→Hv ver inv p=true→R7 w d (vv s) p c0
 | .Lv s ver p b,c=>Fa G σ w st vv 0 (.Lv s ver p b) c
 | .Mp l,c=>match l with
   | [u,.it (.bool b)]=>∃c0,c= .tuple #[c0,.bool b]∧T6 G σ Fr w u c0
   |_=>False
 | .Px f x s ver p,c=>∃g1 xs ty1,(G g1=none∧Fr g1=none∧σ g1=none∧g1<w.heap.size)∧w.heap[g1]?=some (.cells xs ty1 (0,0))∧Bi G x xs.toList∧∃g c0 ty,(c= .func (.func f) #[] #[.pointer (some ⟨g1,0,none⟩),.pointer (some ⟨g,0,none⟩)]∧g1≠g)∧(G g=none∧Fr g=none∧σ g=none∧g<w.heap.size)∧w.heap[g]?=some (.cells #[c0] ty (0,0))∧∃cur,st[s]?=some cur∧ver≤cur.1∧∀inv d,cur.2= .own inv d→p≠[]→alive ver inv p=true→Qc w d (vv s) p c0
 |_,_=>False
def A0s(P:Program)(f:FuncId)(N:Nat)(az:List Bh)(st:St)(K:SV→St→Prop):Prop:=
 ∀(G:Mem) (σ:Lab) (Fr:Mem) (w0:Base) (a:Act) (w:World) (xs:List Operand),w0.n=N→Rel G σ Fr w0 st a w→Lo N xs az=true→
  Calls P f (xs.map a.eval).toArray w fun e w'=>∃r c G' σ' st',e= .returned c∧K r st'∧G.le G'∧Rel G' σ' Fr w0 st' a w'∧Ahs G' σ' Fr w' st' (val a w0) r c
structure Ky(P:Program)(f:FuncId)(N:Nat)(az:List Bh)(st:St)(K:SV→St→Prop):Prop where
 out:A0s P f N az st K
theorem Ky.mono{P:Program}{f:FuncId}{N:Nat}{az:List Bh}{st:St}{K K':SV→St→Prop}(h:Ky P f N az st K)(hk:∀r st,K r st→K' r st):Ky P f N az st K':=
 ⟨fun G σ Fr w0 a w xs h1 h2 h3=>(h.out G σ Fr w0 a w xs h1 h2 h3).mono fun _ _ ⟨r,c,G',σ',st',e,k,x⟩=>⟨r,c,G',σ',st',e,hk _ _ k,x⟩⟩
def Aew(d:Option Nat)(r:SV):M:=match r with
 | .v x=>A4s d (.v x)
 | .F4 fs=>A4s d (.F4 fs)
 | .pd s ver p=>.Co (d≠some s) fun _=>Ab.Ci d (.pd s ver p) .done
 | .bd s ver p=>.Co (d≠some s) fun _=>Ab.Ci d (.bd s ver p) .done
 | .Lv s ver p b=>.Co (d≠some s) fun _=>Ab.Ci d (.Lv s ver p b) .done
 | .Mp l=>match d with
   |some d=>Eo d (.Mp l)
   |none=>.done
 | .Qg f s ver p=>match d with
   |some d=>.Co (d≠s) fun _=>Eo d (.Qg f s ver p)
   |none=>.done
 | .Px f x s ver p=>match d with
   |some d=>.Co (d≠s) fun _=>Eo d (.Px f x s ver p)
   |none=>.done
 |_=>.fail
section
variable{P:Program}{N:Nat}{G:Mem}{σ:Lab}{Fr:Mem}{w0:Base}{w:World}{st:St}{a:Act}
theorem Ajf{σ':Lab}{w':World}{s:Nat}:∀(l:List I) (j j':Nat) (cs:List Value),F3 G σ w 0 j (l.map F.i) cs→F3 G σ' w' s j' (l.map F.i) cs
 | [],_,_,_,h=>h
 |_::l,_,_,_,⟨c,d,e,h1,h2⟩=>⟨c,d,e,h1,Ajf l _ _ _ h2⟩
theorem Ayp{Q:St→Prop}{d:Option Nat}{r:SV}{c:Value}(h:Rel G σ Fr w0 st a w)(hb:∀d',d=some d'→d'<w0.n)(hc:Ahs G σ Fr w st (val a w0) r c)(hq:(Aew d r).wp P Q st):
 ∃σ' st',Rel G σ' Fr w0 st' (a.put d c) w∧Q st':=by
 cases r with
 |v x=>
  cases d with
  |none=>exact⟨σ,st,h,hq⟩
  |some d=>exact h.Xo (hb d rfl) hc hq
 |F4 fs=>
  obtain⟨us,cs,rfl,rfl,h1⟩:=hc;cases d with
  |none=>exact⟨σ,st,h,hq⟩
  |some d=>exact h.Ci (sv:=.F4 (us.map F.i)) hb (fun d' _ ver _=>⟨cs,rfl,Ajf us _ _ _ h1⟩) (Ui hq)
 |pd s ver p=>
  obtain⟨A2,hq⟩:=hq;obtain⟨cur,g1,g2,g3⟩:=hc;refine h.Ci (sv:=.pd s ver p) hb (fun d' Pu v _=>⟨cur,?_,g2,fun inv t e hp ha=>?_⟩) hq
  ·rw[Az (fun e=>A2 (by rw[Pu,e]))];exact g1
  ·rw[Db (fun e=>A2 (by rw[Pu,e]))];exact g3 inv t e hp ha
 |bd s ver p=>
  obtain⟨A2,hq⟩:=hq;obtain⟨cur,g1,g2,g3⟩:=hc;refine h.Ci (sv:=.bd s ver p) hb (fun d' Pu v _=>⟨cur,?_,g2,fun inv t e ha=>?_⟩) hq
  ·rw[Az (fun e=>A2 (by rw[Pu,e]))];exact g1
  ·rw[Db (fun e=>A2 (by rw[Pu,e]))];exact g3 inv t e ha
 |Lv s ver p b=>
  obtain⟨A2,hq⟩:=hq;obtain⟨c0,Gq,cur,g1,g2,g3⟩:=hc;refine h.Ci (sv:=.Lv s ver p b) hb (fun d' Pu v _=>⟨c0,Gq,cur,?_,g2,fun inv t e hp ha=>?_⟩) hq
  ·rw[Az (fun e=>A2 (by rw[Pu,e]))];exact g1
  ·rw[Db (fun e=>A2 (by rw[Pu,e]))];exact g3 inv t e hp ha
 |Mp l=>
  cases d with
  |none=>exact⟨σ,st,h,hq⟩
  |some d=>
   simp only[Ahs]at hc;split at hc
   case h_2=>exact hc.elim
   rename_i u b;obtain⟨c0,rfl,bs,g1,g2,g3,g4⟩:=hc;simp only[Aew,Eo,M.wp]at hq;cases hd:st[d]? with
   |none=>simp[hd]at hq
   |some cur=>
    simp only[hd]at hq;have hK:∀b k,σ.drop d b=some (d,k)→k<0:=fun b k hb=>absurd rfl (Lab.D1.1 hb).1
    have Dj:Gc G ((σ.drop d).H3 d 0 bs) Fr w0 w:=(h.Bz.drop d).H3 hK fun b hb=>⟨(g4 b hb).1,(g4 b hb).2.1,(g4 b hb).2.2.2⟩
    refine⟨_,_,h.put (hb d rfl) Dj (Mem.le.refl G) hd (Bk _) ?_ ?_ (fun h e=>by cases e) (by intro _ _ e;cases e),hq⟩
    ·intro s' Hf b k hb;refine⟨?_,rfl⟩;rw[Lab.Mf]
     ·exact Lab.D1.2 ⟨Hf,hb⟩
     ·intro hm;rw[(g4 b hm).2.2.1]at hb;cases hb
    ·refine⟨_,bs,rfl,?_,g3,fun b hb=>⟨_,Lab.Me hb⟩⟩
     simp only[Ff];exact⟨c0,_,bs,[],rfl,by simp,g2,g1,_,_,[],[],rfl,rfl,rfl,by simp[Bp,Bi,Value.cells],rfl,rfl⟩
 |Qg f s ver p=>
  cases d with
  |none=>exact⟨σ,st,h,hq⟩
  |some d=>
   obtain⟨A2,hq⟩:=hq;obtain⟨g,c0,ty,Gq,⟨k1,k2,k3,k4⟩,Kh,cur,g1,g2,g3⟩:=hc;simp only[Eo,M.wp]at hq;cases hd:st[d]? with
   |none=>simp[hd]at hq
   |some old=>
    simp only[hd]at hq;have hK:∀b k,σ.drop d b=some (d,k)→k<0:=fun b k hb=>absurd rfl (Lab.D1.1 hb).1
    have Dj:Gc G ((σ.drop d).H3 d 0 [g]) Fr w0 w:=(h.Bz.drop d).H3 hK fun b hb=>by
     simp only[Cx]at hb;subst hb;exact⟨k1,k2,k4⟩
    refine⟨_,_,h.put (hb d rfl) Dj (Mem.le.refl G) hd (Bk _) ?_ ?_ (fun h e=>by cases e) (by intro _ _ e;cases e),hq⟩
    ·intro s' Hf b k hb;refine⟨?_,rfl⟩;rw[Lab.Mf]
     ·exact Lab.D1.2 ⟨Hf,hb⟩
     ·intro hm;simp only[Cx]at hm;rw[hm,k3]at hb;cases hb
    ·refine⟨g,c0,ty,_,Gq,Lab.Me (by simp),Kh,cur,by rw[Az A2];exact g1,g2,fun inv t e ha=>?_⟩
     rw[Db (Ne.symm A2)];exact g3 inv t e ha
 |Px f x s ver p=>
  cases d with
  |none=>exact⟨σ,st,h,hq⟩
  |some d=>
   obtain⟨A2,hq⟩:=hq;obtain⟨g',xs,ty1,⟨j1,j2,j3,j4⟩,Ku,Nq,g,c0,ty,⟨Gq,hgg⟩,⟨k1,k2,k3,k4⟩,Kh,cur,g1,g2,g3⟩:=hc;simp only[Eo,M.wp]at hq;cases hd:st[d]? with
   |none=>simp[hd]at hq
   |some old=>
    simp only[hd]at hq;have hK:∀b k,σ.drop d b=some (d,k)→k<0:=fun b k hb=>absurd rfl (Lab.D1.1 hb).1
    have Dj:Gc G ((σ.drop d).H3 d 0 [g',g]) Fr w0 w:=(h.Bz.drop d).H3 hK fun b hb=>by
     simp only[Ah,Ax,or_false]at hb;rcases hb with rfl|rfl
     ·exact⟨j1,j2,j4⟩
     ·exact⟨k1,k2,k4⟩
    refine⟨_,_,h.put (hb d rfl) Dj (Mem.le.refl G) hd (Bk _) ?_ ?_ (fun h e=>by cases e) (by intro _ _ e;cases e),hq⟩
    ·intro s' Hf b k hb;refine⟨?_,rfl⟩;rw[Lab.Mf]
     ·exact Lab.D1.2 ⟨Hf,hb⟩
     ·intro hm;simp only[Ah,Ax,or_false]at hm;rcases hm with hm|hm
      ·rw[hm,j3]at hb;cases hb
      ·rw[hm,k3]at hb;cases hb
    ·refine⟨g',xs,ty1,_,Lab.Me (by simp),Ku,Nq,g,c0,ty,_,⟨Gq,hgg⟩,Lab.Me (by simp),Kh,cur,by rw[Az A2];exact g1,g2,fun inv t e hp ha=>?_⟩
     rw[Db (Ne.symm A2)];exact g3 inv t e hp ha
 |_=>exact hc.elim
theorem Bfg{o:Oper}{f:FuncId}{args:Array Operand}{ts:Array TypeId}{az:List Bh}{Q:St→Prop}{next:Act→World→Prop}{E:Exit→Act→World→Prop}(ho:o.op= .call {callee:=.value (.func f),args,argTypes:=ts})(hf:Ke P f=true)
 (ha:Lo w0.n args.toList az=true) (hr:Rel G σ Fr w0 st a w) (hw:Ky P f w0.n az st fun r st'=>(Aew o.dst r).wp P Q st')
 (hn:∀G' σ' st' a' w',G.le G'→Rel G' σ' Fr w0 st' a' w'→Q st'→next a' w') (A9:∀d,o.dst=some d→d<w0.n):o.wp P a w next E:=by
 have hc:=hw.out G σ Fr w0 a w args.toList rfl hr ha;unfold Oper.wp;rw[Aq0 ho hf,Oper.upon_enter];have he:(args.toList.map a.eval).toArray=args.map a.eval:=by
  apply Array.ext';simp only[Array.toList_map]
 rw[he]at hc;refine hc.mono ?_;rintro e w' ⟨r,c,G',σ',st',rfl,hk,hG,D2,Uv⟩;obtain⟨σ2,st2,h1,h2⟩:=Ayp D2 A9 Uv hk;exact hn G' σ2 st2 _ w' hG h1 h2
def clB(st:St)(x:Nat)(f:FuncId)(cs:List Nat):Bool:=match st[x]? with
 |some (_,.cl f' fs refs)=>f'==f&&fs.isEmpty&&decide (refs.map (·.1)=cs)&&refs.all fun e=>match st[e.1]? with
  |some cur=>Nat.beq cur.1 e.2
  |none=>false
 |_=>false
theorem Aut{vv:Nat→Value}:∀{refs:List (Nat × Nat)} {cs:List Value},Hu st vv refs cs→(refs.all fun e=>match st[e.1]? with
 |some cur=>Nat.beq cur.1 e.2
 |none=>false)=true→cs=refs.map fun e=>vv e.1
 | [],[],_,_=>rfl
 |(h,v)::r,c::cs,⟨⟨cur,h1,h2,h3⟩,h4⟩,ha=>by
  simp only[List.all_cons,Ad,h1]at ha;have hv:v=cur.1:=(Nat.eq_of_beq_eq_true ha.1).symm;rw[h3 hv,Aut h4 ha.2];rfl
 | [],_::_,h,_=>h.elim
 |_::_,[],h,_=>by cases h
theorem Anb{N:Nat}:∀{xs:List Operand} {az:List Bh} {cs:List Nat},Lo N xs az=true→(cs.all fun c=>decide (c<N))=true→Lo N (xs++cs.map Operand.tmp) (az++cs.map Bh.t)=true
 | [],[],[],_,_=>rfl
 | [],[],c::cs,h,hc=>by
   simp only[List.all_cons,Ad,decide_eq_true_eq]at hc;have ih:=Anb (N:=N) (xs:=[]) (az:=[]) (cs:=cs) rfl hc.2;simp only[Cu,A0,Lo,Ad]at ih ⊢;exact⟨by simp[Bu,hc.1],ih⟩
 |x::xs,y::ys,cs,h,hc=>by
  simp only[Lo,Ad]at h;simp only[C4,Lo,Ad];exact⟨h.1,Anb h.2 hc⟩
 | [],_::_,_,h,_=>by cases h
 |_::_,[],_,h,_=>by cases h
theorem Bfe{o:Oper}{x:Nat}{f:FuncId}{args:Array Operand}{ts:Array TypeId}{cs:List Nat}{az:List Bh}{Q:St→Prop}{next:Act→World→Prop}{E:Exit→Act→World→Prop}(ho:o.op= .call {callee:=.value (.tmp x),args,argTypes:=ts})(hx:x<w0.n)(hf:Ke P f=true)
 (Kr:(cs.all fun c=>decide (c<w0.n))=true) (ha:Lo w0.n args.toList az=true) (hr:Rel G σ Fr w0 st a w) (Eh:clB st x f cs=true) (hw:Ky P f w0.n (az++cs.map Bh.t) st fun r st'=>(Aew o.dst r).wp P Q st')
 (hn:∀G' σ' st' a' w',G.le G'→Rel G' σ' Fr w0 st' a' w'→Q st'→next a' w') (A9:∀d,o.dst=some d→d<w0.n):o.wp P a w next E:=by
 unfold clB at Eh;split at Eh
 case h_2=>cases Eh
 rename_i ver f' fs refs hs;simp only[Ad,beq_iff_eq,List.isEmpty_iff,decide_eq_true_eq]at Eh;obtain⟨⟨⟨rfl,rfl⟩,rfl⟩,Jd⟩:=Eh;obtain⟨us,ws,hc,hus,hws⟩:=(show Y3 st (val a w0) f' [] refs (a.eval (.tmp x))from hr.slot hx hs);have hu0:us=[]:=by cases us with|nil=>rfl|cons _ _=>exact hus.elim
 subst hu0;have hwe:=Aut hws Jd;have W5:=hw.out G σ Fr w0 a w (args.toList++(refs.map (·.1)).map Operand.tmp) rfl hr (Anb ha Kr);unfold Oper.wp;rw[A7e ho hc hf,Oper.upon_enter];have he:((args.toList++(refs.map (·.1)).map Operand.tmp).map a.eval).toArray=args.map a.eval++ws.toArray:=by
  apply Array.ext';simp only[B5,Array.toList_append,Array.toList_map]
  congr 1
  rw[hwe];simp only[List.map_map];refine List.map_congr_left fun e he'=>?_
  have Di:e.1<w0.n:=by
   have:=Ew.1 Kr e.1 (Cs.2 ⟨e,he',rfl⟩);simpa using this
  simp only[Function.comp];exact(G9 (by rw[hr.n];exact Di)).symm
 rw[he]at W5;refine W5.mono ?_;rintro e w' ⟨r,c,G',σ',st',rfl,hk,hG,D2,Uv⟩;obtain⟨σ2,st2,h1,h2⟩:=Ayp D2 A9 Uv hk;exact hn G' σ2 st2 _ w' hG h1 h2
end

def Wd(ro:Option Nat):Fence:={Fence.wide with round:=ro}
section
variable{P:Program}{ro:Option Nat}{n:Nat}
theorem Bdu(m:Machine):m.fenced P (Wd ro):=fenced_wide P m
theorem Ahw{f:FuncId}{args:Array Value}{w:World}{R:Ending→World→Prop}:CallsIn (Wd ro) n P f args w R↔Calls P f args w R:=callsIn_wide (n:=n)
theorem Bga{row:String}{args:Array Value}{w:World}{R:Value→World→Prop}(h:Rows P row args w R):RowsIn (Wd ro) n P row args w R:=
 fun c cs _=>let⟨v,w',r,s⟩:=h c cs;⟨v,w',r,(StepsIn.of_steps s).mono fun m _=>Bdu m⟩
theorem Ajv{o:Oper}{a:Act}{w:World}{next:Act→World→Prop}{E:Exit→Act→World→Prop}(hd:∀c,o.op≠ .defer c)(h:o.wp P a w next E):o.wpIn (Wd ro) n P a w next E:=by
 refine⟨fun _ _=>trivial,?_⟩
 rw[Oper.semAt_eq _ _ _ hd];unfold Oper.wp at h;cases hr:(execOp a.eval o).run P w with
 |ok x w'=>
  rw[hr]at h;cases x<;>simp only[Oper.upon]at h<;>simp only[Oper.uponIn]<;>first
   |exact h
   |exact⟨fun k=>absurd k (by simp[Wd,Fence.wide]),Ahw.2 h⟩
   |exact⟨fun k=>absurd k (by simp[Wd,Fence.wide]),Bga h⟩
   |exact h.elim
 |halt x w'=>
  rw[hr]at h;cases x<;>simp only[Oper.upon]at h<;>simp only[Oper.uponIn]<;>first|exact h|exact h.elim
end

inductive Ao where
 |op (g:Option (Nat × Bool)) (i:Tc)
 |call (g:Option (Nat × Bool)) (d:Option Nat) (f:FuncId) (az:List (Bool × Bh))
 |Ac1 (g:Option (Nat × Bool)) (d:Option Nat) (f:FuncId) (az:List (Bool × Bh))
 |dyn (g:Option (Nat × Bool)) (d:Option Nat) (fs:List FuncId) (x:Bh) (az:List (Bool × Bh))
 |inl (g:Option (Nat × Bool)) (d:Option Nat) (N:Nat) (f:FuncId) (az:List Bh)
 |inc (g:Option (Nat × Bool)) (d:Option Nat) (N x:Nat) (f:FuncId) (cs:List Nat) (az:List Bh)
 |yld (g:Option (Nat × Bool)) (d:Option Nat) (y:Nat) (az:List Bh)
 |inv (g:Option (Nat × Bool)) (d:Option Nat) (tab:List (TypeId × FuncId)) (name:String) (x:Bh)
 deriving Inhabited
abbrev Hd:=Nat→Option Nat→List Bh→(St→Prop)→St→Prop
def Lu:Hd:=fun _ _ _ _ _=>False
def guarded(g:Option (Nat × Bool))(d:Option Nat)(m:M):M:=match g with
 |none=>m
 |some (t,want)=>.get t fun _ sv=>match sv with
  | .v (.bool b)=>match want with
    |true=>.ite b m (Ci d (.F4 []) .done)
    |false=>.ite b (Ci d (.F4 []) .done) m
  | .F4 []=>Ci d (.F4 []) .done
  |_=>.fail
def Tc.dst:Tc→Option Nat
 | .mv d _| .asg d _| .mov d _ _ _| .bin d _ _ _| .not d _| .pick d _ _ _| .load d _ _ _| .alloc d _| .box d _| .Ah2 d _ _ _| .At1 d _ _ _| .len d _ _| .slc d _ _ _ _ _| .b2s d _| .build d _ _
 | .Aua d| .Awn d _ _ _ _| .Ba3 d _| .Es d _| .Uy d _| .Bbh d _| .A0g d _| .Bbq d _ _ _| .Ac2 d _ _| .Td d _ _ _ _ _| .Aqy d _ _ _ _ _| .U7 d _ _| .Ame d _| .Zn d _| .At8 d _ _ _| .A0e d _ _ _| .bits d _ _ _| .conv d _ _| .empty d _ _| .ext d _ _| .app d _ _ _ _ _| .eqs d _ _ _ _| .At5 d _ _| .Y1 d _ _=>some d
 | .store _ _ _=>none
 | .A3i _ _ _=>none
 | .A0f _ _ _=>none
 | .dead d=>d
def Ao.sem:Ao→M
 | .op g i=>guarded g i.dst i.sem
 | .call g d f az=>guarded g d (Au0 d f az)
 | .Ac1 g d f az=>guarded g d (Apf d f az)
 | .dyn g d fs x az=>guarded g d (Aux d fs x az)
 | .inv g d tab _ x=>guarded g d (Auy d tab x)
 | .inl _ _ _ _ _=>.fail
 | .inc _ _ _ _ _ _ _=>.fail
 | .yld _ _ _ _=>.fail
def A0j(y:Nat)(K:Nat→St→Prop)(st:St):Prop:=match st[y]? with
 |some (_,.al s v)=>match st[s]? with
  |some cur=>v=cur.1∧K s st
  |none=>False
 |_=>K y st
def Ao.run(P:Program)(Y:Hd):Ao→(St→Prop)→St→Prop
 | .op g i,Q,st=>(guarded g i.dst i.sem).wp P Q st
 | .call g d f az,Q,st=>(guarded g d (Au0 d f az)).wp P Q st
 | .Ac1 g d f az,Q,st=>(guarded g d (Apf d f az)).wp P Q st
 | .dyn g d fs x az,Q,st=>(guarded g d (Aux d fs x az)).wp P Q st
 | .inv g d tab _ x,Q,st=>(guarded g d (Auy d tab x)).wp P Q st
 | .inl g d N f az,Q,st=>(guarded g d (.K8 fun st=>Ky P f N az st fun r st'=>(Aew d r).wp P Q st')).wp P Q st
 | .inc g d N x f cs az,Q,st=>(guarded g d (.K8 fun st=>clB st x f cs=true∧Ky P f N (az++cs.map Bh.t) st fun r st'=>(Aew d r).wp P Q st')).wp P Q st
 | .yld g d y az,Q,st=>(guarded g d (.K8 (A0j y fun y'=>Y y' d az Q))).wp P Q st
theorem Ao.Bgb{P:Program}{Y:Hd}{i:Ao}{Q:St→Prop}{st:St}(h:i.sem.wp P Q st):i.run P Y Q st:=by
 cases i with
 |inl=>exact h.elim
 |inc=>exact h.elim
 |yld=>exact h.elim
 |_=>exact h
def gOk(N:Nat)(ops:Array Oper):Option (Nat × Bool)→Option (Nat × Bool)→Bool
 |none,none=>true
 |some (j,b),some (t,b')=>b==b'&&En ((ops[j]?).bind (·.dst)) t&&t<N
 |_,_=>false
def dOk(N:Nat)(d:Option Nat):Bool:=match d with
 |none=>true
 |some d=>d<N
def Vn(P:Program)(N:Nat)(ops:Array Oper)(o:Oper):Ao→Bool
 | .op g i=>gOk N ops o.guard g&&dOk N o.dst&&decide (o.dst=i.dst)&&K8 P N o i
 | .call g d f az=>gOk N ops o.guard g&&dOk N o.dst&&decide (o.dst=d)&&match o.op with
   | .call {callee:=.value (.func f'),args,.. }=>f'==f&&Ke P f&&Kd N args.toList az
   |_=>false
 | .Ac1 g d f az=>gOk N ops o.guard g&&dOk N o.dst&&decide (o.dst=d)&&match o.op with
   | .call {callee:=.value (.func f'),args,.. }=>f'==f&&Ke P f&&Kd N args.toList az
   |_=>false
 | .dyn g d fs x az=>gOk N ops o.guard g&&dOk N o.dst&&decide (o.dst=d)&&match o.op with
   | .call {callee:=.value x',args,.. }=>Bu N x' x&&fs.all (Ke P)&&Kd N args.toList az
   |_=>false
 | .inv g d tab name x=>gOk N ops o.guard g&&dOk N o.dst&&decide (o.dst=d)&&match o.op with
   | .call {callee:=.invoke x' Bts,args,.. }=>Bu N x' x&&Bts==name&&args.isEmpty&&tab.all (At9 P name)
   |_=>false
 | .inl g d N' f az=>gOk N ops o.guard g&&dOk N o.dst&&decide (o.dst=d)&&N'==N&&match o.op with
   | .call {callee:=.value (.func f'),args,.. }=>f'==f&&Ke P f&&Lo N args.toList az
   |_=>false
 | .inc g d N' x f cs az=>gOk N ops o.guard g&&dOk N o.dst&&decide (o.dst=d)&&N'==N&&match o.op with
   | .call {callee:=.value (.tmp x'),args,.. }=>x'==x&&decide (x<N)&&Ke P f&&(cs.all fun c=>decide (c<N))&&Lo N args.toList az
   |_=>false
 | .yld g d y az=>gOk N ops o.guard g&&dOk N o.dst&&decide (o.dst=d)&&match o.op with
   | .call {callee:=.value (.tmp y'),args,.. }=>y'==y&&decide (y<N)&&Lo N args.toList az
   |_=>false
def Z8(P:Program)(N:Nat)(ops:Array Oper):List Oper→List Ao→Bool
 | [],[]=>true
 |o::l,i::m=>Vn P N ops o i&&Z8 P N ops l m
 |_,_=>false
def A0m(P:Program)(Y:Hd):List Ao→(St→Prop)→St→Prop
 | [],Q,st=>Q st
 |i::l,Q,st=>i.run P Y (A0m P Y l Q) st
theorem A5v{P:Program}{N:Nat}{o:Oper}{i:Tc}{Q:St→Prop}{st:St}(h:K8 P N o i=true)(hq:i.sem.wp P Q st)(c:Call):o.op≠ .defer c:=by
 intro e;unfold K8 at h;rw[e]at h;cases i<;>first|exact(show False from hq).elim|(cases h;done)
def Rs(P:Program)(Y:Hd)(Fr:Mem)(w0:Base):Prop:=
 ∀{ro:Option Nat} {o:Oper} {y y':Nat} {args:Array Operand} {ts:Array TypeId} {az:List Bh} {G:Mem} {σ:Lab} {H2:Mem} {st:St} {a:Act} {w:World} {Q:St→Prop} {next:Act→World→Prop} {E:Exit→Act→World→Prop},
  o.op= .call {callee:=.value (.tmp y'),args,argTypes:=ts}→a.eval (.tmp y')=val a w0 y→Lo w0.n args.toList az=true→Fr.le H2→Rel G σ H2 w0 st a w→Y y o.dst az Q st→
  (∀G' σ' st' a' w',G.le G'→Rel G' σ' H2 w0 st' a' w'→Q st'→next a' w')→(∀d,o.dst=some d→d<w0.n)→o.wpIn (Wd ro) 0 P a w next E
theorem Wm{P:Program}{Fr:Mem}{w0:Base}:Rs P Lu Fr w0:=fun _ _ _ _ _ h=>h.elim
theorem Rs.le{P:Program}{Y:Hd}{Fr H2:Mem}{w0:Base}(h:Rs P Y Fr w0)(hle:Fr.le H2):Rs P Y H2 w0:=fun h1 h2 h3 h4=>h h1 h2 h3 (hle.trans h4)
section
variable{P:Program}{N:Nat}{G:Mem}{σ:Lab}{Fr:Mem}{w0:Base}{w:World}{st:St}{a:Act}
theorem W2{ops:Array Oper}{o:Oper}{g:Option (Nat × Bool)}{m:M}{Q:St→Prop}{next:Act→World→Prop}(hr:Rel G σ Fr w0 st a w)(hg:gOk w0.n ops o.guard g=true)(hd:dOk w0.n o.dst=true)
 (hq:(guarded g o.dst m).wp P Q st) (hn:∀G' σ' st' a' w',G.le G'→Rel G' σ' Fr w0 st' a' w'→Q st'→next a' w'):
 (Region.wanted o (yielded ops a.tmps)=true∧m.wp P Q st)∨(Region.wanted o (yielded ops a.tmps)=false∧next (a.put o.dst undef) w):=by
 unfold gOk at hg;split at hg
 ·rename_i hog;exact .inl ⟨by simp[Region.wanted,hog],hq⟩
 ·rename_i j b t b' hog;simp only[Ad,beq_iff_eq,decide_eq_true_eq]at hg;obtain⟨⟨rfl,h1⟩,h2⟩:=hg;have h1:=C8 h1;simp only[guarded,M.wp]at hq;cases hs:st[t]? with
  |none=>simp[hs]at hq
  |some cur=>
   simp only[hs]at hq;have skip:(Ci o.dst (.F4 []) .done).wp P Q st→next (a.put o.dst undef) w:=by
    intro hq;obtain⟨σ',st',r1,r2⟩:=hr.Ci (sv:=.F4 []) (c:=undef) (fun d' Pu=>by
     unfold dOk at hd;rw[Pu]at hd;simpa using hd) (fun _ _ _ _=>⟨#[],rfl,rfl⟩) hq
    exact hn _ _ _ _ _ (Mem.le.refl G) r1 r2
   have ht:t<a.tmps.size:=by rw[hr.n];exact h2
   split at hq
   ·rename_i bb S9;obtain⟨cv,Hh⟩:=cur;simp only at S9;subst S9;have Ba:Bb G (.bool bb) (a.eval (.tmp t)):=hr.slot h2 hs;rw[Bb.bool]at Ba;have hy:yielded ops a.tmps j=some bb:=by
     unfold yielded;rw[h1];have:a.tmps[t]?=some (.bool bb):=by
      rw[Bg ht];simp[Act.eval,Bg ht]at Ba;rw[Ba]
     simp[this]
    have hw:Region.wanted o (yielded ops a.tmps)=(bb==b):=by
     unfold Region.wanted;rw[hog];simp[hy]
    rw[hw];cases b<;>cases bb
    ·exact .inl ⟨rfl,hq.2 rfl⟩
    ·exact .inr ⟨rfl,skip (hq.1 rfl)⟩
    ·exact .inr ⟨rfl,skip (hq.2 rfl)⟩
    ·exact .inl ⟨rfl,hq.1 rfl⟩
   ·rename_i S9;obtain⟨cv,Hh⟩:=cur;simp only at S9;subst S9;obtain⟨ta,ht1,ht2⟩:=(show Dx G σ w t (.F4 []) (a.eval (.tmp t))from hr.slot h2 hs);have ht2:ta.toList=[]:=ht2;have hta:ta= #[]:=by simpa using ht2
    have Ba:a.eval (.tmp t)=undef:=by rw[ht1,hta];rfl
    have hy:yielded ops a.tmps j=none:=by
     unfold yielded;rw[h1];have:a.tmps[t]?=some undef:=by
      rw[Bg ht];simp[Act.eval,Bg ht]at Ba;rw[Ba]
     simp[this,undef]
    have hw:Region.wanted o (yielded ops a.tmps)=false:=by
     unfold Region.wanted;rw[hog];simp[hy]
    exact .inr ⟨hw,skip hq⟩
   ·exact hq.elim
 ·cases hg
theorem A74{Y:Hd}{ro:Option Nat}{ops:Array Oper}{o:Oper}{i:Ao}{Q:St→Prop}{next:Act→World→Prop}{E:Exit→Act→World→Prop}(hY:Rs P Y Fr w0)(h1:Vn P w0.n ops o i=true)(hr:Rel G σ Fr w0 st a w)(hq:i.run P Y Q st)
 (hn:∀G' σ' st' a' w',G.le G'→Rel G' σ' Fr w0 st' a' w'→Q st'→next a' w'):
 if Region.wanted o (yielded ops a.tmps)then o.wpIn (Wd ro) 0 P a w next E else next (a.put o.dst undef) w:=by
 have A9:dOk w0.n o.dst=true→∀d,o.dst=some d→d<w0.n:=by
  intro h d hd;unfold dOk at h;rw[hd]at h;simpa using h
 have fin:∀{g:Option (Nat × Bool)} {mm:M},gOk w0.n ops o.guard g=true→dOk w0.n o.dst=true→(guarded g o.dst mm).wp P Q st→(mm.wp P Q st→∀c,o.op≠ .defer c)→Sound P w0.n o mm→
  if Region.wanted o (yielded ops a.tmps)then o.wpIn (Wd ro) 0 P a w next E else next (a.put o.dst undef) w:=by
  intro g mm hg hd Jb F5 hs;rcases W2 hr hg hd Jb hn with⟨k1,k2⟩|⟨k1,k2⟩
  ·rw[if_pos k1];exact Ajv (F5 k2) (hs G σ Fr w0 st a w _ _ _ rfl hr k2 hn (A9 hd))
  ·rw[if_neg (by rw[k1];decide)]
   exact k2
 cases i with
 |op g i=>
  simp only[Vn,Ad,decide_eq_true_eq]at h1;obtain⟨⟨⟨h3,h4⟩,h5⟩,h6⟩:=h1;simp only[Ao.run]at hq;rw[←h5]at hq;exact fin h3 h4 hq (A5v h6) (Bdc h6)
 |call g d f az=>
  simp only[Vn,Ad,decide_eq_true_eq]at h1;obtain⟨⟨⟨h3,h4⟩,h5⟩,h6⟩:=h1;simp only[Ao.run]at hq;rw[←h5]at hq;split at h6
  ·rename_i ho;simp only[Ad,beq_iff_eq]at h6;obtain⟨⟨rfl,h7⟩,h8⟩:=h6;exact fin h3 h4 hq (by rw[ho];intro _ c e;cases e) (Bgz ho h7 h8)
  ·cases h6
 |Ac1 g d f az=>
  simp only[Vn,Ad,decide_eq_true_eq]at h1;obtain⟨⟨⟨h3,h4⟩,h5⟩,h6⟩:=h1;simp only[Ao.run]at hq;rw[←h5]at hq;split at h6
  ·rename_i ho;simp only[Ad,beq_iff_eq]at h6;obtain⟨⟨rfl,h7⟩,h8⟩:=h6;exact fin h3 h4 hq (by rw[ho];intro _ c e;cases e) (Bb9 ho h7 h8)
  ·cases h6
 |dyn g d fs x az=>
  simp only[Vn,Ad,decide_eq_true_eq]at h1;obtain⟨⟨⟨h3,h4⟩,h5⟩,h6⟩:=h1;simp only[Ao.run]at hq;rw[←h5]at hq;split at h6
  ·rename_i ho;simp only[Ad]at h6;obtain⟨⟨h7,h8⟩,h9⟩:=h6;exact fin h3 h4 hq (by rw[ho];intro _ c e;cases e) (Bgu ho h7 h8 h9)
  ·cases h6
 |inv g d tab name x=>
  simp only[Vn,Ad,decide_eq_true_eq]at h1;obtain⟨⟨⟨h3,h4⟩,h5⟩,h6⟩:=h1;simp only[Ao.run]at hq;rw[←h5]at hq;split at h6
  ·rename_i ho;simp only[Ad,beq_iff_eq]at h6;obtain⟨⟨⟨h7,rfl⟩,h9⟩,h8⟩:=h6;obtain rfl:=Array.isEmpty_iff.1 h9;exact fin h3 h4 hq (by rw[ho];intro _ c e;cases e) (Bgw ho h7 h8)
  ·cases h6
 |inl g d N' f az=>
  simp only[Vn,Ad,decide_eq_true_eq,beq_iff_eq]at h1;obtain⟨⟨⟨⟨h3,h4⟩,h5⟩,rfl⟩,h6⟩:=h1;simp only[Ao.run]at hq;rw[←h5]at hq;split at h6
  ·rename_i ho;simp only[Ad,beq_iff_eq]at h6;obtain⟨⟨rfl,h7⟩,h8⟩:=h6;rcases W2 hr h3 h4 hq hn with⟨k1,k2⟩|⟨k1,k2⟩
   ·rw[if_pos k1];exact Ajv (by rw[ho];intro c e;cases e) (Bfg ho h7 h8 hr k2 hn (A9 h4))
   ·rw[if_neg (by rw[k1];decide)]
    exact k2
  ·cases h6
 |inc g d N' x f cs az=>
  simp only[Vn,Ad,decide_eq_true_eq,beq_iff_eq]at h1;obtain⟨⟨⟨⟨h3,h4⟩,h5⟩,rfl⟩,h6⟩:=h1;simp only[Ao.run]at hq;rw[←h5]at hq;split at h6
  ·rename_i ho;simp only[Ad,beq_iff_eq,decide_eq_true_eq]at h6;obtain⟨⟨⟨⟨rfl,h7⟩,h8⟩,h9⟩,h10⟩:=h6;rcases W2 hr h3 h4 hq hn with⟨k1,k2⟩|⟨k1,k2⟩
   ·rw[if_pos k1];exact Ajv (by rw[ho];intro c e;cases e) (Bfe ho h7 h8 h9 h10 hr k2.1 k2.2 hn (A9 h4))
   ·rw[if_neg (by rw[k1];decide)]
    exact k2
  ·cases h6
 |yld g d y az=>
  simp only[Vn,Ad,decide_eq_true_eq]at h1;obtain⟨⟨⟨h3,h4⟩,h5⟩,h6⟩:=h1;simp only[Ao.run]at hq;rw[←h5]at hq;split at h6
  ·rename_i ho;simp only[Ad,beq_iff_eq,decide_eq_true_eq]at h6;obtain⟨⟨rfl,h7⟩,h8⟩:=h6;rcases W2 hr h3 h4 hq hn with⟨k1,k2⟩|⟨k1,k2⟩
   ·rw[if_pos k1];have k3:=k2;simp only[M.wp]at k3;unfold A0j at k3;split at k3
    ·rename_i v0 s v hsy;split at k3
     ·rename_i Av2 hss;obtain⟨cur,q1,_,q2⟩:=(show ∃cur,st[s]?=some cur∧v≤cur.1∧(v=cur.1→a.eval (.tmp _)=val a w0 s)from hr.slot h7 hsy);rw[hss]at q1;cases q1;exact hY ho (q2 k3.1) h8 (Mem.le.refl _) hr k3.2 hn (A9 h4)
     ·exact k3.elim
    ·exact hY ho (G9 (by rw[hr.n];exact h7)).symm h8 (Mem.le.refl _) hr k3 hn (A9 h4)
   ·rw[if_neg (by rw[k1];decide)]
    exact k2
  ·cases h6
theorem Ban{Y:Hd}{ro:Option Nat}{ops:Array Oper}{i:Nat}{o:Oper}{x:Ao}{Q:St→Prop}{next:Act→World→Prop}{E:Exit→Act→World→Prop}(hY:Rs P Y Fr w0)(hi:ops[i]?=some o)(h1:Vn P w0.n ops o x=true)(hr:Rel G σ Fr w0 st a w)(hq:x.run P Y Q st)
 (hn:∀G' σ' st' a' w',G.le G'→Rel G' σ' Fr w0 st' a' w'→Q st'→next a' w'):wpOpIn (Wd ro) 0 P ops E i next a w:=by
 have:=A74 (ro:=ro) (E:=E) hY h1 hr hq hn;unfold wpOpIn;rw[hi];dsimp only;split at this
 ·rename_i hw;rw[if_pos hw];exact this
 ·rename_i hw;rw[if_neg hw];exact⟨fun _ _=>trivial,this⟩
theorem Ax5{Y:Hd}{ro:Option Nat}{ops:Array Oper}{Qx:Exit→Act→World→Prop}(hY:Rs P Y Fr w0):∀{l:List Oper} {m:List Ao} {Q:St→Prop} {G:Mem} {σ:Lab} {st:St} {a:Act} {w:World},
 Z8 P w0.n ops l m=true→Rel G σ Fr w0 st a w→A0m P Y m Q st→(∀G' σ' st' a' w',G.le G'→Rel G' σ' Fr w0 st' a' w'→Q st'→Qx .normal a' w')→wpListIn (Wd ro) 0 P ops Qx l a w
 | [],[],Q,G,σ,st,a,w,_,hr,hq,hn=>hn G σ st a w (Mem.le.refl G) hr hq
 |o::l,i::m,Q,G,σ,st,a,w,hc,hr,hq,hn=>by
  simp only[Z8,Ad]at hc;obtain⟨h1,h2⟩:=hc;have:=A74 (ro:=ro) (E:=Qx) hY h1 hr hq fun G' σ' st' a' w' hG D2 Jb=>Ax5 (ro:=ro) hY h2 D2 Jb fun X5 Qj Nx a'' w'' Wa=>hn X5 Qj Nx a'' w'' (hG.trans Wa)
  unfold wpListIn;split at this
  ·rename_i hw;rw[if_pos hw];exact this
  ·rename_i hw;rw[if_neg hw];exact⟨fun _ _=>trivial,this⟩
 | [],_::_,_,_,_,_,_,_,hc,_,_,_=>by cases hc
 |_::_,[],_,_,_,_,_,_,hc,_,_,_=>by simp[Z8]at hc
end
end Go.Ab
