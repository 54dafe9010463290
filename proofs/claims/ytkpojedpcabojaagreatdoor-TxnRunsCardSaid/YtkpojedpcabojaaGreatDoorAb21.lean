/- Lemmas -/
import Derived.Test.YtkpojedpcabojaaGreatDoorAb18e
import Derived.IntWalk
set_option linter.unusedVariables false
set_option linter.unusedSimpArgs false
namespace Go.Ab
inductive Ret where
 |t (n:Nat)
 |cell (n:Nat) (agg:Bool) (sz:Nat)
 deriving Inhabited
def M8(n:Nat):List F→Nat→M→M
 | [],_,k=>k
 | .i _::fs,j,k=>M8 n fs (j+1) k
 | .vec _ _ _::fs,j,k=>.get n fun ver sv=>match sv.Aka (j+1)with
   |some _=>.set n (ver+1) (sv.A08 (j+1)) (M8 n fs (j+1) k)
   |none=>.fail
def A1z:List Ret→(List I→M)→M
 | [],k=>k []
 | .t n::r,k=>Lw (.t n) fun u=>A1z r fun us=>k (u::us)
 | .cell n agg sz::r,k=>.get n fun _ sv=>match sv with
   | .box (.st fs)=>M8 n fs 0 (.get n fun _ sv=>match sv with
     | .box t=>match(SV.box t).hit 0 []with
       |some (0,.item u)=>.Hh (u.isAgg=agg∧u.size=sz) fun _=>A1z r fun us=>k (u::us)
       |_=>.fail
     |_=>.fail)
   | .box (.one f)=>match(SV.box (.one f)).hit 0 []with
     |some (0,.item u)=>.Hh (u.isAgg=agg∧u.size=sz) fun _=>A1z r fun us=>k (u::us)
     |_=>.fail
   |_=>.fail
def G7:List I→SV
 | [u]=>.v u
 |us=>.tup (us.map .i)
def Yj(N:Nat)(i:Nat):SV→SV
 | .v x=>.v x
 | .rp x=>.rp x
 | .box _| .vec _ _ _| .own _ _=>.par (N+i)
 |_=>.no
def Afy:SV→SV
 | .box t=>.box t
 | .vec e sz l=>.vec e sz l
 | .own _ t=>.own [] t
 |_=>.no
def Cg(N:Nat):Nat→List SV→St
 |_,[]=>[]
 |i,sv::r=>(0,Yj N i sv)::Cg N (i+1) r
def entry(N:Nat)(args:List SV):St:=Cg N 0 args++List.replicate (N - args.length) (0,.no)++args.map fun sv=>(0,Afy sv)
def SV.clean:SV→SV
 | .own _ t=>.own [] t
 |sv=>sv
theorem K2{sv:SV}:sv.clean.root=sv.root:=by cases sv<;>rfl
theorem My{G:Mem}{σ:Lab}{w:World}{s:Nat}{sv:SV}{c:Value}:Ab1 G σ w s sv.clean c=Ab1 G σ w s sv c:=by cases sv<;>rfl
def Bi(N:Nat)(st:St):Nat→List SV→List SV
 |_,[]=>[]
 |i,sv::r=>(if sv.Ay1 then(match st[N+i]? with
  |some cur=>cur.2.clean
  |none=>.no)else .no)::Bi N st (i+1) r
def Ni:List SV→Bool
 | []=>true
 |sv::r=>match sv.root with
  |none=>Ni r
  |some _=>false
theorem Gm:∀{l:List SV},Ni l=true→∀sv∈l,sv.root=none
 | [],_,_,h=>by cases h
 |x::r,h,sv,hm=>by
  unfold Ni at h;split at h
  ·rename_i hx;rcases List.mem_cons.mp hm with rfl|hm
   ·exact hx
   ·exact Gm h sv hm
  ·cases h
structure Am1(R:Prop)(outs:List SV):Prop where
 post:R
 own:Ni outs=true
def Fin(P:Program)(N:Nat)(rs:List Ret)(args:List SV)(R:SV→List SV→Prop)(st:St):Prop:=
 (A1z rs fun us=>.chk fun st'=>Am1 (R (G7 us) (Bi N st' 0 args)) (Bi N st' 0 args)).wp P (fun _=>False) st
def Atg(_:Nat)(_:St):Prop:=False
def wpF(P:Program)(N:Nat)(s:Stm)(rs:List Ret)(args:List SV)(R:SV→List SV→Prop):Prop:=
 wpS P s noY ⟨Fin P N rs args R,Atg,Fin P N rs args R⟩ (entry N args)
def B1(P:Program)(N:Nat):List ResultVar→List Ret→Bool
 | [],[]=>true
 | .tmp t::l,.t n::r=>t==n&&n<N&&B1 P N l r
 | .cell a t::l,.cell n agg sz::r=>a==n&&n<N&&Asu P t agg sz&&B1 P N l r
 |_,_=>false
def Ax0(tmps:Array Value):ResultVar→Sem Value
 | .tmp t=>pure (tmps.getD t undef)
 | .cell p t=>do loadVar t (←asAddr (tmps.getD p undef))
theorem Ft(fn:Func)(tmps:Array Value):results fn tmps=(do let vs ←fn.results.mapM (Ax0 tmps);pure (if h:vs.size=1 then vs[0]else .tuple vs)):=by
 unfold results
 congr 1
section
variable{P:Program}{N:Nat}{G:Mem}{σ:Lab}{Fr:Mem}{w0:Base}{w:World}{st:St}{a:Act}
theorem Lb{Q:St→Prop}{n:Nat}{k:M}:∀{fs:List F} {j:Nat} {G:Mem} {σ:Lab} {st:St},Rel G σ Fr w0 st a w→(M8 n fs j k).wp P Q st→
 ∃G' σ' st',G.le G'∧Rel G' σ' Fr w0 st' a w∧k.wp P Q st'
 | [],_,G,σ,st,hr,hq=>⟨G,σ,st,Mem.le.refl G,hr,hq⟩
 | .i _::fs,j,G,σ,st,hr,hq=>Lb (fs:=fs) hr hq
 | .vec _ _ _::fs,j,G,σ,st,hr,hq=>by
   simp only[M8,M.wp]at hq;cases hs:st[n]? with
   |none=>simp[hs]at hq
   |some cur=>
    obtain⟨ver,sv⟩:=cur;simp only[hs]at hq;split at hq
    ·rename_i p hp;obtain⟨e,sz,l⟩:=p;obtain⟨G',σ',h1,h2,_⟩:=hr.freeze hs hp (Ej ver);obtain⟨G'',σ'',As9,h3,h4,h5⟩:=Lb (fs:=fs) h2 hq;exact⟨G'',σ'',As9,h1.trans h3,h4,h5⟩
    ·exact hq.elim
theorem Adq{n:Nat}{sv:SV}{ver:Nat}{u:I}{t:TypeId}(hr:Rel G σ Fr w0 st a w)(hn:n<w0.n)(hs:st[n]?=some (ver,sv))(hb:∃t,sv= .box t)(hh:sv.hit 0 []=some (0,.item u))(ht:Asu P t u.isAgg u.size=true):
 ∃v,(do loadVar t (←asAddr (a.tmps.getD n undef)):Sem Value).run P w= .ok v w∧C7 G u v:=by
 obtain⟨tt,rfl⟩:=hb;have Dh:=hr.slot hn hs;obtain⟨b,cells,ty,h1,h2,h3,h4⟩:=Dh;obtain⟨bl,ty',fz,pre,cs,post,g1,_,g2,g3,g4,_⟩:=Qv hr.Fc (show Ab1 G σ w n (.box tt) (a.eval (.tmp n))from hr.slot hn hs) hh h2;obtain⟨v,hl,hv⟩:=Nk (P:=P) ht g1 g2 g3 g4;have he:a.tmps.getD n undef= .pointer (some ⟨b,0,none⟩):=h1;exact⟨v,by rw[he];simp[asAddr,hl],hv⟩
theorem Ly{Q:St→Prop}:∀{rs:List Ret} {rv:List ResultVar} {k:List I→M} {G:Mem} {σ:Lab} {st:St},Rel G σ Fr w0 st a w→B1 P w0.n rv rs=true→(A1z rs k).wp P Q st→
 ∃us cs G' σ' st',G.le G'∧Rel G' σ' Fr w0 st' a w∧(k us).wp P Q st'∧
  (rv.mapM (Ax0 a.tmps)).run P w= .ok cs w∧Aki G' σ' w 0 0 (us.map F.i) cs
 | [],[],k,G,σ,st,hr,_,hq=>⟨[],[],G,σ,st,Mem.le.refl G,hr,hq,by simp,rfl⟩
 | .t n::rs,.tmp m::rv,k,G,σ,st,hr,ho,hq=>by
   simp only[B1,Ap,beq_iff_eq,decide_eq_true_eq]at ho;obtain⟨⟨rfl,h1⟩,h2⟩:=ho;obtain⟨u,G1,σ1,st1,g1,g2,g3,g4⟩:=L6 (x:=.tmp m) hr (by simp[Jj,h1]) hq
   obtain⟨us,cs,G2,σ2,st2,q1,q2,q3,q4,q5⟩:=Ly g2 h2 g3;refine⟨u::us,a.tmps.getD m undef::cs,G2,σ2,st2,g1.trans q1,q2,q3,?_,?_⟩
   ·simp only[List.mapM_cons,Ax0,Sem.run_bind,Sem.run_pure,Result.andThen,q4]
   ·exact⟨_,cs,rfl,g4.mono q1,by
     have aux:∀(l:List I) (j j':Nat) (cs:List Value),Aki G2 σ2 w 0 j (l.map F.i) cs→Aki G2 σ2 w 0 j' (l.map F.i) cs:=by
      intro l;induction l with
      |nil=>intro j j' cs h;exact h
      |cons x l ih=>intro j j' cs h;obtain⟨c,d,e,h1,h2⟩:=h;exact⟨c,d,e,h1,ih _ _ _ h2⟩
     exact aux us 0 1 cs q5⟩
 | .cell n agg sz::rs,.cell m t::rv,k,G,σ,st,hr,ho,hq=>by
   simp only[B1,Ap,beq_iff_eq,decide_eq_true_eq]at ho;obtain⟨⟨⟨rfl,h1⟩,ht⟩,h2⟩:=ho;have aux:∀(G2:Mem) (σ2:Lab) (l:List I) (j j':Nat) (cs:List Value),Aki G2 σ2 w 0 j (l.map F.i) cs→Aki G2 σ2 w 0 j' (l.map F.i) cs:=by
    intro G2 σ2 l;induction l with
    |nil=>intro j j' cs h;exact h
    |cons x l ih=>intro j j' cs h;obtain⟨c,d,e,h1,h2⟩:=h;exact⟨c,d,e,h1,ih _ _ _ h2⟩
   have fin:∀{G1:Mem} {σ1:Lab} {st1:St} {ver:Nat} {sv:SV},G.le G1→Rel G1 σ1 Fr w0 st1 a w→st1[m]?=some (ver,sv)→
    (match sv.hit 0 []with
      |some (0,.item u)=>M.Hh (u.isAgg=agg∧u.size=sz) fun _=>A1z rs fun us=>k (u::us)
      |_=>.fail).wp P Q st1→(∃t,sv= .box t)→∃us cs G' σ' st',G.le G'∧Rel G' σ' Fr w0 st' a w∧(k us).wp P Q st'∧
    ((ResultVar.cell m t::rv).mapM (Ax0 a.tmps)).run P w= .ok cs w∧Aki G' σ' w 0 0 (us.map F.i) cs:=by
    intro G1 σ1 st1 ver sv hG1 hr1 hs hq1 Bte;split at hq1
    ·rename_i u hh;obtain⟨⟨rfl,rfl⟩,hq1⟩:=hq1;obtain⟨v,hl,hv⟩:=Adq (P:=P) hr1 h1 hs Bte hh ht;obtain⟨us,cs,G2,σ2,st2,q1,q2,q3,q4,q5⟩:=Ly hr1 h2 hq1;refine⟨u::us,v::cs,G2,σ2,st2,hG1.trans q1,q2,q3,?_,⟨v,cs,rfl,hv.mono q1,aux _ _ us 0 1 cs q5⟩⟩;have hl':(Ax0 a.tmps (.cell m t)).run P w= .ok v w:=hl;rw[List.mapM_cons,Sem.run_bind,hl'];simp only[Result.andThen,Sem.run_bind,Sem.run_pure,q4]
    ·exact hq1.elim
   simp only[A1z,M.wp]at hq;cases hs:st[m]? with
   |none=>simp[hs]at hq
   |some cur=>
    obtain⟨ver,sv⟩:=cur;simp only[hs]at hq;split at hq
    ·obtain⟨G1,σ1,st1,g1,g2,g3⟩:=Lb hr hq;simp only[M.wp]at g3;cases hs1:st1[m]? with
     |none=>simp[hs1]at g3
     |some Bmo=>
      obtain⟨Bzi,sv1⟩:=Bmo;simp only[hs1]at g3;split at g3
      ·exact fin g1 g2 hs1 g3 ⟨_,rfl⟩
      ·exact g3.elim
    ·exact fin (Mem.le.refl G) hr hs hq ⟨_,rfl⟩
    ·exact hq.elim
 | [],r::_,_,_,_,_,_,ho,_=>by cases r<;>simp[B1]at ho
 | .t _::_,[],_,_,_,_,_,ho,_=>by simp[B1]at ho
 | .cell _ _ _::_,[],_,_,_,_,_,ho,_=>by simp[B1]at ho
 | .t _::_,.cell _ _::_,_,_,_,_,_,ho,_=>by simp[B1]at ho
 | .cell _ _ _::_,.tmp _::_,_,_,_,_,_,ho,_=>by simp[B1]at ho
theorem Gb{N:Nat}:∀(args:List SV) (i j:Nat),(Cg N i args)[j]?=(args[j]?).map fun sv=>(0,Yj N (i+j) sv)
 | [],i,j=>by simp[Cg]
 |sv::r,i,0=>by simp[Cg]
 |sv::r,i,j+1=>by
  simp only[Cg,Du];rw[Gb r (i+1) j,show i+(j+1)=i+1+j by omega]
theorem Gz{N:Nat}:∀(args:List SV) (i:Nat),(Cg N i args).length=args.length
 | [],_=>rfl
 |_::r,i=>by simp[Cg,Gz r]
theorem C8{N:Nat}{st:St}:∀(args:List SV) (i j:Nat),(Bi N st i args)[j]?=(args[j]?).map fun sv=>if sv.Ay1 then(match st[N+(i+j)]? with|some cur=>cur.2.clean|none=>.no)else .no
 | [],i,j=>by simp[Bi]
 |sv::r,i,0=>by simp[Bi]
 |sv::r,i,j+1=>by
  simp only[Bi,Du];rw[C8 r (i+1) j,show i+(j+1)=i+1+j by omega]
theorem Ea{N:Nat}{st:St}:∀(args:List SV) (i:Nat),(Bi N st i args).length=args.length
 | [],_=>rfl
 |_::r,i=>by simp[Bi,Ea r]
theorem Aki.one{s:Nat}:∀{us:List I} {j:Nat} {cs:List Value},Aki G σ w s j (us.map F.i) cs→cs.length=us.length
 | [],_,_,h=>by simp[show _=[]from h]
 |u::us,j,cs,h=>by
  obtain⟨c,d,rfl,_,h2⟩:=h;simp[Aki.one h2]
def Ends(P:Program)(fn:Func)(args:List SV)(Ad3:SV→List SV→Prop)(E:St→Prop):Prop:=
 ∀{G:Mem} {Fr:Mem} {w:World} {Ahz:Array Value} {a:Act} {w':World} {G':Mem} {σ':Lab} {st:St},Ahz.size=args.length→args.length≤fn.ntmps→G.le G'→Rel G' σ' Fr ⟨w,fn.ntmps,Ahz⟩ st a w'→E st→
  ∃v,(results fn a.tmps).run P w'= .ok v w'∧∃r az c G'' σ'',Ending.returned v= .returned c∧Ad3 r az∧G.le G''∧WOk G'' σ'' Fr ⟨w,0, #[]⟩ w'∧r.root=none∧Ab1 G'' σ'' w' args.length r c∧az.length=args.length∧
   ∀i sv,az[i]?=some sv→sv.root=none∧Ab1 G'' σ'' w' i sv (Ahz.getD i undef)
theorem Fn.Az8{f:FuncId}{fn:Func}{c:Code}{s:Stm}{args:List SV}{Ad3:SV→List SV→Prop}{E:St→Prop}(hf:P.funcs[f]?=some fn)(hb:fn.body=some c)
 (hc:Be P fn.ntmps c s=true) (hn:args.length≤fn.ntmps) (hE:Ends P fn args Ad3 E) (h:wpS P s noY ⟨E,Atg,E⟩ (entry fn.ntmps args)):Fn P f args Ad3:=by
 intro G σ Fr w Ahz H2 hlen Ar2;refine(R7 (ro:=none) (n:=0)).1 (callsIn_of_wp_marks hf hb trivial ?_)
 let B:Base:=⟨w,fn.ntmps,Ahz⟩
 let a0:Act:={tmps:=Ahz++Array.replicate (fn.ntmps - Ahz.size) undef,defers:=[]}
 have Hr:a0.tmps.size=fn.ntmps:=by simp[a0,hlen];omega
 have Bck:∀i,i<Ahz.size→val a0 B i=Ahz.getD i undef:=by
  intro i hi;unfold val;have:i<a0.tmps.size:=by rw[Hr];omega
  rw[Bt,Aez this,Bt];simp only[a0];rw[Aez hi]
 have Aup:∀i,val a0 B (fn.ntmps+i)=Ahz.getD i undef:=by
  intro i;unfold val;rw[Bt,Aah (by rw[Hr];omega),Hr,Nat.add_sub_cancel_left,Bt]
 have Bbn:∀{b s k},σ.shift fn.ntmps b=some (s,k)→∃i,s=i+fn.ntmps∧σ b=some (i,k):=by
  intro b s k hb;unfold Lab.shift at hb;cases hσ:σ b with
  |none=>simp[hσ]at hb
  |some p=>
   obtain⟨i,k'⟩:=p;simp only[hσ,Fq,A0,He]at hb;exact⟨i,hb.1.symm,by rw[hb.2]⟩
 have Aw6:Rel G (σ.shift fn.ntmps) Fr B (entry fn.ntmps args) a0 w:=by
  have e1:(Cg fn.ntmps 0 args).length=args.length:=Gz args 0;refine⟨⟨H2.fixed,?_,?_,H2.frame,rfl,rfl,rfl,Bz _,H2.apart,H2.amb⟩,Marks.nil _ _,Hr,?_,?_,?_⟩
  ·rintro b ⟨s,k⟩ hb;obtain⟨i,_,h1⟩:=Bbn hb;exact H2.own b _ h1
  ·rintro b b' ⟨s,k⟩ hb Sy;obtain⟨i,h1,h2⟩:=Bbn hb;obtain⟨i',h3,h4⟩:=Bbn Sy;obtain rfl:i=i':=by omega
   exact H2.inj b b' _ h2 h4
  ·rw[Hr];simp[entry,e1,B,hlen];omega
  ·intro s ver sv hs;unfold entry at hs;by_cases h1:s<args.length
   ·rw[Df,Fi (by rw[e1];exact h1),Gb,Ae h1]at hs
    simp only[Fq,A0,He,E3]at hs;obtain⟨rfl,rfl⟩:=hs;rw[Bck s (by omega)]
    obtain⟨_,h2⟩:=Ar2 s _ (Ae h1);cases hsv:args[s]with
    |v x=>rw[hsv]at h2;exact h2
    |rp x=>rw[hsv]at h2;exact h2
    |_=>trivial
   ·by_cases h2:s<fn.ntmps
    ·rw[Df,G4 (by rw[e1];omega),e1,Fi (by simp;omega),Amo,if_pos (by omega)]at hs
     simp only[A0,He]at hs;obtain⟨rfl,rfl⟩:=hs;trivial
    ·rw[G4 (by simp[e1];omega)]at hs
     have e2:s - (Cg fn.ntmps 0 args++List.replicate (fn.ntmps - args.length) (0,SV.no)).length=s - fn.ntmps:=by simp[e1];omega
     rw[e2,Ev]at hs;cases hi:args[s - fn.ntmps]? with
     |none=>simp[hi]at hs
     |some sv0=>
      simp only[hi,Fq,A0,He]at hs;obtain⟨rfl,rfl⟩:=hs;have hv:=Aup (s - fn.ntmps);rw[show fn.ntmps+(s - fn.ntmps)=s by omega]at hv
      rw[hv];obtain⟨_,h3⟩:=Ar2 _ _ hi;have tr:∀b k,σ b=some (s - fn.ntmps,k)→σ.shift fn.ntmps b=some (s,k)∧w.heap[b]?=w.heap[b]?:=by
       intro b k hb;refine⟨?_,rfl⟩;unfold Lab.shift;rw[hb];simp;omega
      cases sv0 with
      |box t=>exact Ab1.tr h3 (Mem.le.refl G) tr
      |vec e sz l=>exact Ab1.tr h3 (Mem.le.refl G) tr
      |own inv t=>exact Ab1.tr h3 (Mem.le.refl G) tr
      |_=>trivial
  ·intro s ver hh hs;unfold entry at hs;by_cases h1:s<args.length
   ·rw[Df,Fi (by rw[e1];exact h1),Gb,Ae h1]at hs
    simp only[Fq,A0,He,E3]at hs;obtain⟨rfl,hs⟩:=hs;have:hh=fn.ntmps+s:=by
     cases hsv:args[s]with
     |box t=>rw[hsv]at hs;cases hs;rfl
     |vec e sz l=>rw[hsv]at hs;cases hs;rfl
     |own inv t=>rw[hsv]at hs;cases hs;rfl
     |_=>rw[hsv]at hs;cases hs
    subst this;exact⟨by rw[Bck s (by omega),Aup],Nat.le_add_right _ _⟩
   ·by_cases h2:s<fn.ntmps
    ·rw[Df,G4 (by rw[e1];omega),e1,Fi (by simp;omega),Amo,if_pos (by omega)]at hs
     cases hs
    ·rw[G4 (by simp[e1];omega)]at hs
     have e2:s - (Cg fn.ntmps 0 args++List.replicate (fn.ntmps - args.length) (0,SV.no)).length=s - fn.ntmps:=by simp[e1];omega
     rw[e2,Ev]at hs;cases hi:args[s - fn.ntmps]? with
     |none=>simp[hi]at hs
     |some sv0=>
      simp only[hi,Fq,A0,He]at hs;obtain⟨_,hs⟩:=hs;cases sv0<;>cases hs
 refine wpIn_mono (Qs (w0:=B) (.inl rfl) Nt hc Aw6 h) ?_;rintro e a' w' ⟨G',σ',Fr',st',hG,hF,Hm,hq⟩;have fin:E st'→LeavesInM (Wd none) 0 P fn a'.tmps (fun e w'=>∃(r:SV) (az:List SV) (c:Value) (G':Mem) (σ':Lab),e= .returned c∧Ad3 r az∧G.le G'∧WOk G' σ' Fr ⟨w,0, #[]⟩ w'∧
  r.root=none∧Ab1 G' σ' w' args.length r c∧az.length=args.length∧∀i sv,az[i]?=some sv→sv.root=none∧Ab1 G' σ' w' i sv (Ahz.getD i undef)) a'.defers .returning w':=by
  intro hq;refine Hm.leave (by simp) hF (fun b o hb=>E2 Aw6 hb) fun w2 r2=>?_
  obtain⟨v,h2,r,az,c',G'',σ'',h3,h4,h5⟩:=hE hlen hn hG r2 hq;exact⟨v,h2,r,az,c',G'',σ'',h3,h4,h5⟩
 cases e with
 |normal=>exact fin hq
 |ret=>exact fin hq
 |_=>exact hq.elim
theorem Adv{fn:Func}{rs:List Ret}{args:List SV}{Ad3:SV→List SV→Prop}(hr:B1 P fn.ntmps fn.results.toList rs=true):Ends P fn args Ad3 (Fin P fn.ntmps rs args Ad3):=by
 intro G Fr w Ahz a w' G' σ' st hlen hn hG Hm hq
 let B:Base:=⟨w,fn.ntmps,Ahz⟩
 obtain⟨us,cs,G2,σ2,st2,q1,q2,⟨q3,q3'⟩,q4,q5⟩:=Ly Hm hr hq;have q3':=Gm q3';have Big:=Aki.one q5;have A25:(fn.results.mapM (Ax0 a.tmps)).run P w'= .ok cs.toArray w':=by
  rw[Ak1,Sem.run_map,q4];rfl
 have hun:∀{b s k},σ2.Amk fn.ntmps b=some (s,k)→σ2 b=some (fn.ntmps+s,k):=by
  intro b s k hb;unfold Lab.Amk at hb;split at hb
  ·rename_i s' k' h1;split at hb
   ·rename_i hle;simp only[A0,He]at hb;obtain⟨rfl,rfl⟩:=hb;rw[h1,show fn.ntmps+(s' - fn.ntmps)=s' by omega]
   ·cases hb
  ·cases hb
 have Awm:WOk G2 (σ2.Amk fn.ntmps) Fr ⟨w,0, #[]⟩ w':=by
  refine⟨q2.Fc.fixed,?_,?_,q2.Fc.frame,q2.Fc.os,q2.Fc.tape,q2.Fc.output,q2.Fc.size,q2.Fc.apart,q2.Fc.amb⟩
  ·rintro b ⟨s,k⟩ hb;exact q2.Fc.own b _ (hun hb)
  ·rintro b b' ⟨s,k⟩ hb Sy;exact q2.Fc.inj b b' _ (hun hb) (hun Sy)
 have A7i:∃v,(results fn a.tmps).run P w'= .ok v w'∧Ab1 G2 (σ2.Amk fn.ntmps) w' args.length (G7 us) v:=by
  rw[Ft,Sem.run_bind,A25]
  match us,cs,q5,Big with
  | [],[],_,_=>exact⟨.tuple #[],by simp[Result.andThen], #[],rfl,rfl⟩
  | [u],[v],h5,_=>
    obtain⟨c',d',e',h6,_⟩:=h5;cases e';exact⟨v,by simp[Result.andThen],h6⟩
  |u::u'::us,v::v'::cs,h5,_=>
   refine⟨.tuple (v::v'::cs).toArray,by simp[Result.andThen],_,rfl,?_⟩
   have aux:∀(l:List I) (j:Nat) (cs:List Value),Aki G2 σ2 w' 0 j (l.map F.i) cs→Aki G2 (σ2.Amk fn.ntmps) w' args.length j (l.map F.i) cs:=by
    intro l;induction l with
    |nil=>intro j cs h;exact h
    |cons x l ih=>intro j cs h;obtain⟨c,d,e,h1,h2⟩:=h;exact⟨c,d,e,h1,ih _ _ h2⟩
   exact aux (u::u'::us) 0 _ h5
 obtain⟨v,hv1,hv2⟩:=A7i;refine⟨v,hv1,G7 us,Bi fn.ntmps st2 0 args,v,G2,_,rfl,q3,hG.trans q1,Awm,?_,hv2,Ea args 0,?_⟩
 ·unfold G7;split<;>rfl
 ·intro i sv hi;refine⟨q3' sv (Cb hi),?_⟩;rw[C8]at hi;cases Ays:args[i]? with
  |none=>simp[Ays]at hi
  |some sv0=>
   simp only[Ays,Fq,A0,E3]at hi;split at hi
   ·cases hst:st2[fn.ntmps+i]? with
    |none=>simp only[hst]at hi;subst hi;trivial
    |some cur=>
     obtain⟨ver,sv1⟩:=cur;simp only[hst]at hi;subst hi;have Dh:=q2.Eb _ _ _ hst;have Asb:=q3' sv1.clean (by
      apply Cb (i:=i);rw[C8,Ays];simp only[Fq,E3,hst];rename_i hl;rw[if_pos hl])
     rw[K2]at Asb;rw[Ait.own Asb]at Dh;have Art:val a B (fn.ntmps+i)=Ahz.getD i undef:=by
      unfold val;rw[Bt,Aah (by rw[q2.n];exact Nat.le_add_right _ _),q2.n,Bt]
      simp[B]
     rw[Art]at Dh;rw[My];refine Ab1.tr Dh (Mem.le.refl G2) fun b k hb=>⟨?_,rfl⟩
     unfold Lab.Amk;rw[hb];simp
   ·subst hi;trivial
theorem Fn.A2n{f:FuncId}{fn:Func}{c:Code}{s:Stm}{rs:List Ret}{args:List SV}{Ad3:SV→List SV→Prop}(hf:P.funcs[f]?=some fn)(hb:fn.body=some c)
 (hc:Be P fn.ntmps c s=true) (hr:B1 P fn.ntmps fn.results.toList rs=true) (hn:args.length≤fn.ntmps) (h:wpF P fn.ntmps s rs args Ad3):Fn P f args Ad3:=
 Fn.Az8 hf hb hc hn (Adv hr) h
theorem Fn.Bi4{f:FuncId}{fn:Func}{c:Code}{s:Stm}{rs:List Ret}{args:List SV}{Ad3:SV→List SV→Prop}{N:Nat}(hf:P.funcs[f]?=some fn)(hb:fn.body=some c)(hN:fn.ntmps=N)
 (hc:Be P N c s=true) (hr:B1 P N fn.results.toList rs=true) (hn:args.length≤N) (h:wpF P N s rs args Ad3):Fn P f args Ad3:=by
 subst hN;exact Fn.A2n hf hb hc hr hn h
def A73(P:Program)(N n:Nat)(args:List SV)(R:SV→List SV→Prop)(st:St):Prop:=
 (M.get n fun _ sv=>match sv with
   | .vec e sz l=>.chk fun st'=>Am1 (R (.vec e sz l) (Bi N st' 0 args)) (Bi N st' 0 args)
   |_=>.fail).wp P (fun _=>False) st
def Lab.Bb3(σ:Lab)(N n m:Nat):Lab:=fun b=>match σ b with
 |some (s,k)=>if s=n∧k=0 then some (m,0)else if N≤s∧s<N+m then some (s - N,k)else none
 |none=>none
theorem Bhw{fn:Func}{n:Nat}{args:List SV}{Ad3:SV→List SV→Prop}(hr:fn.results= #[.tmp n])(hn':n<fn.ntmps):Ends P fn args Ad3 (A73 P fn.ntmps n args Ad3):=by
 intro G Fr w Ahz a w' G' σ' st hlen hn hG Hm hq;simp only[A73,M.wp]at hq;cases hs:st[n]? with
 |none=>simp[hs]at hq
 |some cur=>
  obtain⟨ver,sv⟩:=cur;simp only[hs]at hq;split at hq
  ·rename_i e sz l;obtain⟨q3,q3'⟩:=hq;have q3':=Gm q3';have Dh:Aiu G' σ' w' (n,0) e sz l (a.eval (.tmp n)):=Hm.slot hn' hs;have A25:(fn.results.mapM (Ax0 a.tmps)).run P w'= .ok #[a.tmps.getD n undef] w':=by
    rw[hr,Ak1,Sem.run_map];simp[Ax0,Result.andThen]
   have hun:∀{b s k},σ'.Bb3 fn.ntmps n args.length b=some (s,k)→(s=args.length∧k=0∧σ' b=some (n,0))∨(s<args.length∧σ' b=some (fn.ntmps+s,k)):=by
    intro b s k hb;unfold Lab.Bb3 at hb;split at hb
    ·rename_i s' k' h1;split at hb
     ·rename_i hc;obtain⟨rfl,rfl⟩:=hc;simp only[A0,He]at hb;exact .inl ⟨hb.1.symm,hb.2.symm,h1⟩
     ·split at hb
      ·rename_i hle;simp only[A0,He]at hb;obtain⟨rfl,rfl⟩:=hb;exact .inr ⟨by omega,by rw[h1,show fn.ntmps+(s' - fn.ntmps)=s' by omega]⟩
      ·cases hb
    ·cases hb
   have Awm:WOk G' (σ'.Bb3 fn.ntmps n args.length) Fr ⟨w,0, #[]⟩ w':=by
    refine⟨Hm.Fc.fixed,?_,?_,Hm.Fc.frame,Hm.Fc.os,Hm.Fc.tape,Hm.Fc.output,Hm.Fc.size,Hm.Fc.apart,Hm.Fc.amb⟩
    ·rintro b ⟨s,k⟩ hb;rcases hun hb with⟨_,_,h⟩|⟨_,h⟩
     ·exact Hm.Fc.own b _ h
     ·exact Hm.Fc.own b _ h
    ·rintro b b' ⟨s,k⟩ hb Sy;rcases hun hb with⟨h1,h2,h⟩|⟨h1,h⟩<;>rcases hun Sy with⟨h3,h4,h'⟩|⟨h3,h'⟩
     ·exact Hm.Fc.inj b b' _ h h'
     ·omega
     ·omega
     ·exact Hm.Fc.inj b b' _ h h'
   refine⟨a.tmps.getD n undef,?_,.vec e sz l,Bi fn.ntmps st 0 args,_,G',_,rfl,q3,hG,Awm,rfl,?_,Ea args 0,?_⟩
   ·rw[Ft,Sem.run_bind,A25];simp[Result.andThen]
   ·refine Aiu.tr Dh (Mem.le.refl G') fun b hb=>⟨?_,rfl⟩
    unfold Lab.Bb3;rw[hb];simp
   ·intro i sv hi;refine⟨q3' sv (Cb hi),?_⟩;rw[C8]at hi;cases Ays:args[i]? with
    |none=>simp[Ays]at hi
    |some sv0=>
     have hil:i<args.length:=(A7.1 Ays).1;simp only[Ays,Fq,A0,E3]at hi;split at hi
     ·cases hst:st[fn.ntmps+i]? with
      |none=>simp only[hst]at hi;subst hi;trivial
      |some cur=>
       obtain⟨ver,sv1⟩:=cur;simp only[hst]at hi;subst hi;have Dh:=Hm.Eb _ _ _ hst;have Asb:=q3' sv1.clean (by
        apply Cb (i:=i);rw[C8,Ays];simp only[Fq,E3,hst];rename_i hl;rw[if_pos hl])
       rw[K2]at Asb;rw[Ait.own Asb]at Dh;have Art:val a ⟨w,fn.ntmps,Ahz⟩ (fn.ntmps+i)=Ahz.getD i undef:=by
        unfold val;rw[Bt,Aah (by rw[Hm.n];exact Nat.le_add_right _ _),Hm.n,Bt]
        simp
       rw[Art]at Dh;rw[My];refine Ab1.tr Dh (Mem.le.refl G') fun b k hb=>⟨?_,rfl⟩
       unfold Lab.Bb3;rw[hb];simp only;rw[if_neg (by omega),if_pos (by omega)]
       simp
     ·subst hi;trivial
  ·exact hq.elim
def Bpz(P:Program)(N:Nat)(s:Stm)(n:Nat)(args:List SV)(R:SV→List SV→Prop):Prop:=
 wpS P s noY ⟨A73 P N n args R,Atg,A73 P N n args R⟩ (entry N args)
theorem Fn.Bph{f:FuncId}{fn:Func}{c:Code}{s:Stm}{n:Nat}{args:List SV}{Ad3:SV→List SV→Prop}{N:Nat}(hf:P.funcs[f]?=some fn)(hb:fn.body=some c)(hN:fn.ntmps=N)
 (hc:Be P N c s=true) (hr:fn.results= #[.tmp n]) (hn':n<N) (hn:args.length≤N) (h:Bpz P N s n args Ad3):Fn P f args Ad3:=by
 subst hN;exact Fn.Az8 hf hb hc hn (Bhw hr hn') h
end

def look:St→Nat→(Nat→SV→Prop)→Prop
 | [],_,_=>False
 |cur::_,0,K=>match cur with
  |(v,sv)=>K v sv
 |_::r,n+1,K=>look r n K
def upK:St→Nat→Nat→SV→(St→Prop)→Prop
 | [],_,_,_,K=>K []
 |_::r,0,v,sv,K=>K ((v,sv)::r)
 |x::r,n+1,v,sv,K=>upK r n v sv fun r'=>K (x::r')
def spK:List Nat→(List Nat→Prop)→Prop
 | [],K=>K []
 |x::r,K=>spK r fun r'=>K (x::r')
def ivK:Inv→(Inv→Prop)→Prop
 | [],K=>K []
 |e::r,K=>match e with
  |(p,v)=>spK p fun p'=>ivK r fun r'=>K ((p',v)::r')
def lK(f:D→(D→Prop)→Prop):List D→(List D→Prop)→Prop
 | [],K=>K []
 |x::r,K=>f x fun x'=>lK f r fun r'=>K (x'::r')
def dK:Nat→D→(D→Prop)→Prop
 |0,d,K=>K d
 |n+1,d,K=>match d with
  | .st l=>lK (dK n) l fun l'=>K (.st l')
  | .ptr d=>dK n d fun d'=>K (.ptr d')
  | .it x=>K (.it x)
  | .vec e sz l=>K (.vec e sz l)
  | .map ks vs=>K (.map ks vs)
theorem Hk:∀{p:List Nat} {K:List Nat→Prop},spK p K↔K p
 | [],_=>Iff.rfl
 |x::r,K=>Hk (p:=r) (K:=fun r'=>K (x::r'))
theorem Yf:∀{p:Inv} {K:Inv→Prop},ivK p K↔K p
 | [],_=>Iff.rfl
 |(p,v)::r,K=>(Hk (p:=p)).trans (Yf (p:=r) (K:=fun r'=>K ((p,v)::r')))
theorem Vf{f:D→(D→Prop)→Prop}(hf:∀d K,f d K↔K d):∀{l:List D} {K:List D→Prop},lK f l K↔K l
 | [],_=>Iff.rfl
 |x::r,K=>(hf x _).trans (Vf hf (l:=r) (K:=fun r'=>K (x::r')))
theorem Qt:∀{n:Nat} {d:D} {K:D→Prop},dK n d K↔K d
 |0,_,_=>Iff.rfl
 |n+1,d,K=>by
  cases d with
  |st l=>exact Vf (fun d K=>Qt (n:=n)) (K:=fun l'=>K (.st l'))
  |ptr d=>exact Qt (n:=n) (K:=fun d'=>K (.ptr d'))
  |it x=>exact Iff.rfl
  |vec e sz l=>exact Iff.rfl
  |map ks vs=>exact Iff.rfl
def svK(sv:SV)(K:SV→Prop):Prop:=match sv with
 | .no=>K .no
 | .v x=>K (.v x)
 | .vec e sz l=>K (.vec e sz l)
 | .box t=>K (.box t)
 | .st fs=>K (.st fs)
 | .tup fs=>K (.tup fs)
 | .bor s k ver=>K (.bor s k ver)
 | .sub s k ver n=>K (.sub s k ver n)
 | .suf s k ver n=>K (.suf s k ver n)
 | .bs s ver p lo n=>K (.bs s ver p lo n)
 | .pt s k ver off r=>K (.pt s k ver off r)
 | .rp x=>K (.rp x)
 | .par h=>K (.par h)
 | .own inv t=>ivK inv fun Ap9=>dK 8 t fun t'=>K (.own Ap9 t')
 | .pd s ver p=>spK p fun p'=>K (.pd s ver p')
 | .pdt s ver p b=>spK p fun p'=>K (.pdt s ver p' b)
 | .bd s ver p=>spK p fun p'=>K (.bd s ver p')
 | .Ati l=>lK (dK 8) l fun l'=>K (.Ati l')
 | .sit str pos=>K (.sit str pos)
 | .mit ks vs left cur=>K (.mit ks vs left cur)
 | .yl y=>K (.yl y)
 | .cl f fs cs=>K (.cl f fs cs)
 | .kcl f s ver p=>K (.kcl f s ver p)
 | .ocl f x s ver p=>K (.ocl f x s ver p)
 | .bp s ver p=>spK p fun p'=>K (.bp s ver p')
 | .al s ver=>K (.al s ver)
theorem Ca{K:Nat→SV→Prop}:∀{st:St} {n:Nat},look st n K→∃cur,st[n]?=some cur∧K cur.1 cur.2
 | [],_,h=>h.elim
 |(v,sv)::_,0,h=>⟨(v,sv),rfl,h⟩
 |_::r,n+1,h=>Ca (st:=r) (n:=n) h
theorem Jf{v:Nat}{sv:SV}:∀{st:St} {n:Nat} {K:St→Prop},upK st n v sv K→K (st.set n (v,sv))
 | [],_,_,h=>h
 |_::_,0,_,h=>h
 |_::r,n+1,K,h=>Jf (st:=r) (n:=n) (K:=fun r'=>K (_::r')) h
theorem Afj{sv:SV}{K:SV→Prop}:svK sv K↔K sv:=by
 cases sv with
 |own inv t=>exact(Yf (p:=inv)).trans (Qt (n:=8) (d:=t) (K:=fun t'=>K (.own inv t')))
 |pd s ver p=>exact Hk (p:=p) (K:=fun p'=>K (.pd s ver p'))
 |bd s ver p=>exact Hk (p:=p) (K:=fun p'=>K (.bd s ver p'))
 |pdt s ver p b=>exact Hk (p:=p) (K:=fun p'=>K (.pdt s ver p' b))
 |bp s ver p=>exact Hk (p:=p) (K:=fun p'=>K (.bp s ver p'))
 |Ati l=>exact Vf (fun d K=>Qt (n:=8)) (K:=fun l'=>K (.Ati l'))
 |_=>exact Iff.rfl
theorem Qh{sv:SV}{K:SV→Prop}(h:svK sv K):K sv:=Afj.1 h
def Bb1(n:Nat)(K:Nat→Prop):Prop:=match n with
 |0=>K 0
 |m+1=>K (m+1)
theorem Abx{n:Nat}{K:Nat→Prop}(h:Bb1 n K):K n:=by cases n<;>exact h
def Bb9:List SV→(SV→Prop)→Prop
 | [],_=>False
 | [.no],K=>K .no
 | [.v x],K=>K (.v x)
 | [.vec e sz l],K=>K (.vec e sz l)
 | [.box t],K=>K (.box t)
 | [.st fs],K=>K (.st fs)
 | [.tup fs],K=>K (.tup fs)
 | [.bor s k ver],K=>K (.bor s k ver)
 | [.sub s k ver n],K=>K (.sub s k ver n)
 | [.suf s k ver n],K=>K (.suf s k ver n)
 | [.bs s ver p lo n],K=>K (.bs s ver p lo n)
 | [.pt s k ver off r],K=>K (.pt s k ver off r)
 | [.rp x],K=>K (.rp x)
 | [.par h],K=>K (.par h)
 | [.own inv t],K=>K (.own inv t)
 | [.pd s ver p],K=>K (.pd s ver p)
 | [.pdt s ver p b],K=>K (.pdt s ver p b)
 | [.bd s ver p],K=>K (.bd s ver p)
 | [.Ati l],K=>K (.Ati l)
 | [.sit str pos],K=>K (.sit str pos)
 | [.mit ks vs left cur],K=>K (.mit ks vs left cur)
 | [.yl y],K=>K (.yl y)
 | [.cl f fs cs],K=>K (.cl f fs cs)
 | [.kcl f s ver p],K=>K (.kcl f s ver p)
 | [.ocl f x s ver p],K=>K (.ocl f x s ver p)
 | [.bp s ver p],K=>K (.bp s ver p)
 | [.al s ver],K=>K (.al s ver)
 |_::y::r,K=>Bb9 (y::r) K
theorem Acb{sv:SV}{K:SV→Prop}(h:Bb9 [sv] K):K sv:=by cases sv<;>exact h
def Ri(x:Nat × SV)(K:Nat→SV→Prop):Prop:=Bb9 [x.2] fun b=>Bb1 x.1 fun a=>K a b
theorem Rj{x:Nat × SV}{K:Nat→SV→Prop}(h:Ri x K):K x.1 x.2:=
 Abx (K:=fun a=>K a x.2) (Acb (K:=fun b=>Bb1 x.1 fun a=>K a b) h)
def M.wq(P:Program):M→(St→Prop)→St→Prop
 | .get i k,Q,st=>look st i fun v sv=>(k v sv).wq P Q st
 | .Atf i f k,Q,st=>look st i fun v sv=>Ri (f v sv) fun a b=>(k a b).wq P Q st
 | .set i ver sv k,Q,st=>svK sv fun sv=>upK st i ver sv fun st=>k.wq P Q st
 | .done,Q,st=>Q st
 | .chk p,_,st=>p st
 | .fail,_,_=>False
 | .Hh p k,Q,st=>∃h:p,(k h).wq P Q st
 | .all p k,Q,st=>∀b,p b→(k b).wq P Q st
 | .any l k,Q,st=>Bji l fun i=>(k i).wq P Q st
 | .fact p k,Q,st=>p→k.wq P Q st
 | .ite b x y,Q,st=>(b=true→x.wq P Q st)∧(b=false→y.wq P Q st)
 | .call f args k,Q,st=>Ct P f args fun r az=>(k r az).wq P Q st
theorem M.At1{P:Program}{Q:St→Prop}:∀{m:M} {st:St},m.wq P Q st→m.wp P Q st:=by
 intro m;induction m with
 |get i k ih=>
  intro st h;obtain⟨cur,h1,h2⟩:=Ca h;simp only[M.wp,h1];exact ih _ _ h2
 |Atf i f k ih=>
  intro st h;obtain⟨cur,h1,h2⟩:=Ca h;simp only[M.wp,h1];exact ih _ _ (Rj h2)
 |set i ver sv k ih=>
  intro st h;simp only[M.wq]at h;simp only[M.wp];exact ih (Jf (Qh (K:=fun sv=>upK st i ver sv fun st=>k.wq P Q st) h))
 |done=>intro st h;exact h
 |chk p=>intro st h;exact h
 |fail=>intro st h;exact h
 |Hh p k ih=>intro st ⟨h1,h2⟩;exact⟨h1,ih _ h2⟩
 |all p k ih=>intro st h b hb;exact ih _ (h b hb)
 |any l k ih=>intro st h;exact⟨fun i hi=>ih _ (h.out i hi)⟩
 |fact p k ih=>intro st h hp;exact ih (h hp)
 |ite b x y ihx ihy=>intro st h;exact⟨fun hb=>ihx (h.1 hb),fun hb=>ihy (h.2 hb)⟩
 |call f args k ih=>intro st ⟨Ad3,h1,h2⟩;exact⟨Ad3,h1,fun r az hp=>ih _ _ (h2 r az hp)⟩
def Aes(y:Nat)(K:Nat→St→Prop)(st:St):Prop:=look st y fun _ sv=>match sv with
 | .al s v=>look st s fun v' _=>v=v'∧K s st
 |_=>K y st
theorem Z0{y:Nat}{K K':Nat→St→Prop}{st:St}(hK:∀y,K y st→K' y st)(h:Aes y K st):X5 y K' st:=by
 obtain⟨⟨v,sv⟩,h1,h2⟩:=Ca h;unfold X5;rw[h1];cases sv with
 |al s v'=>
  obtain⟨⟨v2,sv2⟩,h3,h4,h5⟩:=Ca h2;simp only[h3];exact⟨h4,hK _ h5⟩
 |_=>exact hK _ h2
def Ao.go(P:Program)(Y:Hd):Ao→(St→Prop)→St→Prop
 | .op g i,Q,st=>(guarded g i.dst i.sem).wq P Q st
 | .call g d f az,Q,st=>(guarded g d (V9 d f az)).wq P Q st
 | .A45 g d f az,Q,st=>(guarded g d (Uk d f az)).wq P Q st
 | .dyn g d fs x az,Q,st=>(guarded g d (V6 d fs x az)).wq P Q st
 | .inv g d tab _ x,Q,st=>(guarded g d (V7 d tab x)).wq P Q st
 | .inl g d N f az,Q,st=>(guarded g d (.chk fun st=>Aqw P f N az st fun r st'=>(Rc d r).wq P Q st')).wq P Q st
 | .inc g d N x f cs az,Q,st=>(guarded g d (.chk fun st=>clB st x f cs=true∧Aqw P f N (az++cs.map D6.t) st fun r st'=>(Rc d r).wq P Q st')).wq P Q st
 | .yld g d y az,Q,st=>(guarded g d (.chk (Aes y fun y'=>Y y' d az Q))).wq P Q st
def YLe(Y Y':Hd):Prop:=∀y d az (Q Q':St→Prop) st,(∀st,Q st→Q' st)→Y y d az Q st→Y' y d az Q' st
theorem Fx:YLe noY noY:=fun _ _ _ _ _ _ _ h=>h.elim
theorem Pn{P:Program}{g:Option (Nat × Bool)}{d:Option Nat}{p p':St→Prop}{Q Q':St→Prop}{st:St}(hp:∀st,p st→p' st)(hQ:∀st,Q st→Q' st)(h:(guarded g d (.chk p)).wp P Q st):(guarded g d (.chk p')).wp P Q' st:=by
 have sk:∀st,(Gj d (.tup []) .done).wp P Q st→(Gj d (.tup []) .done).wp P Q' st:=fun st=>M.wp_mono hQ _ _
 cases g with
 |none=>exact hp _ h
 |some tb=>
  obtain⟨t,b⟩:=tb;simp only[guarded,M.wp]at h ⊢;cases hs:st[t]? with
  |none=>simp[hs]at h
  |some cur=>
   simp only[hs]at h ⊢;split at h
   ·cases b with
    |true=>exact⟨fun hb=>hp _ (h.1 hb),fun hb=>sk _ (h.2 hb)⟩
    |false=>exact⟨fun hb=>sk _ (h.1 hb),fun hb=>hp _ (h.2 hb)⟩
   ·exact sk _ h
   ·exact h
theorem Ao.Bfz{P:Program}{Y Y':Hd}{i:Ao}{Q Q':St→Prop}{st:St}(hY:YLe Y Y')(hQ:∀st,Q st→Q' st)(h:i.go P Y Q st):i.run P Y' Q' st:=by
 cases i with
 |inl g d N f az=>exact Pn (fun st h=>Aqw.mono h fun r st' h=>M.wp_mono hQ _ _ (M.At1 h)) hQ (M.At1 h)
 |inc g d N x f cs az=>exact Pn (fun st h=>⟨h.1,Aqw.mono h.2 fun r st' h=>M.wp_mono hQ _ _ (M.At1 h)⟩) hQ (M.At1 h)
 |yld g d y az=>exact Pn (fun st h=>Z0 (fun y h=>hY _ _ _ _ _ _ hQ h) h) hQ (M.At1 h)
 |_=>exact M.wp_mono hQ _ _ (M.At1 h)
def Aa6(P:Program)(Y:Hd):List Ao→(St→Prop)→St→Prop
 | [],Q,st=>Q st
 |i::l,Q,st=>i.go P Y (Aa6 P Y l Q) st
theorem W2{P:Program}{Y Y':Hd}(hY:YLe Y Y'){Q Q':St→Prop}(hQ:∀st,Q st→Q' st):∀{l:List Ao} {st:St},Aa6 P Y l Q st→X9 P Y' l Q' st
 | [],st,h=>hQ st h
 |i::l,st,h=>Ao.Bfz hY (fun _ h=>W2 hY (l:=l) hQ h) h
def M.wz(P:Program):M→(St→List Rd→Log→List Prop→Prop)→St→List Rd→Log→List Prop→Prop
 | .get i k,K,st,R,L,F=>look st i fun v sv=>(k v sv).wz P K st (.all i::R) L F
 | .Atf i f k,K,st,R,L,F=>look st i fun v sv=>Ri (f v sv) fun a b=>(k a b).wz P K st ((match(Eb L).contains i with|true=>.all i|false=>.prj i f (a,b))::R) L F
 | .set i ver sv k,K,st,R,L,F=>svK sv fun sv=>upK st i ver sv fun st=>k.wz P K st R ((i,(ver,sv))::L) F
 | .done,K,st,R,L,F=>K st R L F
 | .chk _,_,_,_,_,_=>False
 | .fail,_,_,_,_,_=>False
 | .Hh p k,K,st,R,L,F=>∃h:p,(k h).wz P K st R L F
 | .all _ _,_,_,_,_,_=>False
 | .any _ _,_,_,_,_,_=>False
 | .fact p k,K,st,R,L,F=>k.wz P K st R L (p::F)
 | .ite b x y,K,st,R,L,F=>(b=true→x.wz P K st R L F)∧(b=false→y.wz P K st R L F)
 | .call f args k,K,st,R,L,F=>Aq3 P f args fun r az=>(k r az).wz P K st R L F
theorem M.Bqs{P:Program}{K K':St→List Rd→Log→List Prop→Prop}(hK:∀st R L F,K st R L F→K' st R L F):∀{m:M} {st:St} {R:List Rd} {L:Log} {F:List Prop},m.wz P K st R L F→m.wr P K' st R L F:=by
 intro m;induction m with
 |get i k ih=>
  intro st R L F h;obtain⟨cur,h1,h2⟩:=Ca h;refine⟨by rw[h1];simp,fun Amr h3=>?_⟩
  rw[h1]at h3;cases h3;exact ih _ _ h2
 |Atf i f k ih=>
  intro st R L F h;obtain⟨cur,h1,h2⟩:=Ca h;refine⟨by rw[h1];simp,fun Amr h3=>?_⟩
  rw[h1]at h3;cases h3;exact ih _ _ (Rj h2)
 |set i ver sv k ih=>
  intro st R L F h;simp only[M.wz]at h;simp only[M.wr];have h1:=Qh (K:=fun sv=>upK st i ver sv fun st=>k.wz P K st R ((i,(ver,sv))::L) F) h
  exact ih (Jf (K:=fun st=>k.wz P K st R ((i,(ver,sv))::L) F) h1)
 |done=>intro st R L F h;exact hK _ _ _ _ h
 |chk p=>intro st R L F h;exact h
 |fail=>intro st R L F h;exact h
 |Hh p k ih=>intro st R L F ⟨h1,h2⟩;exact⟨h1,ih _ h2⟩
 |all p k ih=>intro st R L F h;exact h.elim
 |any l k ih=>intro st R L F h;exact h.elim
 |fact p k ih=>intro st R L F h;exact ih (F:=p::F) h
 |ite b x y ihx ihy=>intro st R L F h;exact⟨fun hb=>ihx (h.1 hb),fun hb=>ihy (h.2 hb)⟩
 |call f args k ih=>intro st R L F ⟨r0,as0,h1,h2⟩;exact⟨r0,as0,h1,ih _ _ h2⟩
def Up(P:Program):List Ao→(List Rec→St→Prop)→List Rec→St→Prop
 | [],K,ds,st=>K ds st
 |i::l,K,ds,st=>i.sem.wz P (fun st' R L F=>Up P l K (ds++[⟨R,L,F⟩]) st') st [] [] []
theorem Qj{P:Program}{K K':List Rec→St→Prop}(hK:∀ds st,K ds st→K' ds st):∀{l:List Ao} {ds:List Rec} {st:St},Up P l K ds st→P0 P l K' ds st
 | [],ds,st,h=>hK ds st h
 |i::l,ds,st,h=>M.Bqs (fun _ _ _ _ h=>Qj (l:=l) hK h) h
def As1:St→(St→Prop)→Prop
 | [],K=>K []
 |x::r,K=>As1 r fun r'=>match x with
  |(v,sv)=>svK sv fun sv=>K ((v,sv)::r')
theorem Bo:∀{st:St} {K:St→Prop},As1 st K→K st
 | [],_,h=>h
 |(v,sv)::r,K,h=>by
  have:=Bo (st:=r) (K:=fun r'=>svK sv fun sv=>K ((v,sv)::r')) h
  exact Qh (K:=fun sv=>K ((v,sv)::r)) this
structure Round{X:Type}(ks:List Nat)(J:X→St)(R:X→Prop)(μ:X→Nat)(x:X)(st:St):Prop where
 out:∃x',norm ks st=J x'∧R x'∧μ x'<μ x
structure Afm(ks:List Nat)(body:(St→Prop)→St→Prop)(st:St):Prop where
 out:∃(X:Type) (J:X→St) (R:X→Prop) (μ:X→Nat),(∃x,norm ks st=J x∧R x)∧∀x,R x→As1 (J x) (body (Round ks J R μ x))
def Cx:St→List (Nat × SV)→St
 |st,[]=>st
 |st,(n,sv)::r=>Cx (st.set n (0,sv)) r
theorem Afm.by{X:Type}{ks:List Nat}{body:(St→Prop)→St→Prop}{st:St}(Azq:X→List (Nat × SV))(R:X→Prop)(μ:X→Nat)(x0:X)
 (h0:norm ks st=Cx (norm ks st) (Azq x0)) (hR:R x0) (h:∀x,R x→As1 (Cx (norm ks st) (Azq x)) (body (Round ks (fun x=>Cx (norm ks st) (Azq x)) R μ x))):Afm ks body st:=
 ⟨X,fun x=>Cx (norm ks st) (Azq x),R,μ,⟨x0,h0,hR⟩,h⟩
theorem Round.by{X:Type}{ks:List Nat}{J:X→St}{R:X→Prop}{μ:X→Nat}{x:X}{st:St}(x':X)(h1:norm ks st=J x')(h2:R x')(h3:μ x'<μ x):Round ks J R μ x st:=⟨x',h1,h2,h3⟩
structure A6q{X:Type}(ks:List Nat)(J:X→St)(R:X→Prop)(st:St):Prop where
 out:∃x,norm ks st=J x∧R x
theorem A6q.by{X:Type}{ks:List Nat}{J:X→St}{R:X→Prop}{st:St}(x:X)(h1:norm ks st=J x)(h2:R x):A6q ks J R st:=⟨x,h1,h2⟩
structure Bdz(ks:List Nat)(fa:(St→Prop)→St→Prop)(fb:St→Prop)(st:St):Prop where
 out:∃(X:Type) (J:X→St) (R:X→Prop),(∀x,R x→As1 (J x) fb)∧fa (A6q ks J R) st
theorem Bdz.by{X:Type}{ks:List Nat}{fa:(St→Prop)→St→Prop}{fb:St→Prop}{st:St}(Azq:X→List (Nat × SV))(R:X→Prop)
 (ha:fa (A6q ks (fun x=>Cx (norm ks st) (Azq x)) R) st) (hb:∀x,R x→As1 (Cx (norm ks st) (Azq x)) fb):Bdz ks fa fb st:=
 ⟨X,_,R,hb,ha⟩
def C5(P:Program)(n nc y l:Nat)(rec:Loop)(d:Option Nat)(K:St→Prop)(j:Option (Option Nat))(st:St):Prop:=
 As1 (Bn nc n (st.drop nc)) fun st4=>look st4 y fun v _=>upK st4 y (v+1) (.yl (Bfo l rec j)) fun st5=>(Gj d (.v (.bool j.isNone)) .done).wq P K st5
theorem Ja{P:Program}{n nc y l:Nat}{rec:Loop}{d:Option Nat}{K K':St→Prop}{j:Option (Option Nat)}{st:St}(hK:∀st,K st→K' st)(h:C5 P n nc y l rec d K j st):H9 P n nc y l rec d K' j st:=by
 have h1:=Bo (K:=fun st4=>look st4 y fun v _=>upK st4 y (v+1) (.yl (Bfo l rec j)) fun st5=>(Gj d (.v (.bool j.isNone)) .done).wq P K st5) h
 obtain⟨cur,h2,h3⟩:=Ca h1;unfold H9;rw[h2];exact M.wp_mono hK _ _ (M.At1 (Jf (K:=fun st5=>(Gj d (.v (.bool j.isNone)) .done).wq P K st5) h3))
def Ro(P:Program)(fa fb:Ad3→St→Prop)(n nc off:Nat)(ps:List Nat)(l:Nat)(rec:Loop):Hd:=fun y d xs K st=>
 look st y fun v sv=>match sv with
  | .yl z=>match z with
    | .ready l' Ao8=>l'=l∧Ao8=rec∧xs.length=ps.length∧upK st y (v+1) .no fun st1=>As1 (Gc nc off ps xs st1)
      (fa ⟨fb ⟨C5 P n nc y l rec d K none,fun id=>C5 P n nc y l rec d K (some (some id)),C5 P n nc y l rec d K (some none)⟩,fun _ _=>False,fun _=>False⟩)
    |_=>False
  |_=>False
theorem Vr{P:Program}{fa fb fa' fb':Ad3→St→Prop}{n nc off:Nat}{ps:List Nat}{l:Nat}{rec:Loop}
 (ha:∀{Q Q':Ad3} {st:St},(∀st,Q.nrm st→Q'.nrm st)→(∀i st,Q.ex i st→Q'.ex i st)→(∀st,Q.ret st→Q'.ret st)→fa Q st→fa' Q' st)
 (hb:∀{Q Q':Ad3} {st:St},(∀st,Q.nrm st→Q'.nrm st)→(∀i st,Q.ex i st→Q'.ex i st)→(∀st,Q.ret st→Q'.ret st)→fb Q st→fb' Q' st):
 YLe (Ro P fa fb n nc off ps l rec) (A49 P fa' fb' n nc off ps l rec):=by
 intro y d xs K K' st hK h;obtain⟨cur,h1,h2⟩:=Ca h;obtain⟨v,sv⟩:=cur;unfold A49;rw[h1];cases sv with
 |yl z=>
  cases z with
  |ready l' Ao8=>
   obtain⟨k1,k2,k3,k4⟩:=h2;refine⟨k1,k2,k3,?_⟩;have k5:=Jf (K:=fun st1=>As1 (Gc nc off ps xs st1)
    (fa ⟨fb ⟨C5 P n nc y l rec d K none,fun id=>C5 P n nc y l rec d K (some (some id)),C5 P n nc y l rec d K (some none)⟩,fun _ _=>False,fun _=>False⟩)) k4
   have k6:=Bo k5;refine ha (Q:=⟨fb ⟨C5 P n nc y l rec d K none,fun id=>C5 P n nc y l rec d K (some (some id)),C5 P n nc y l rec d K (some none)⟩,fun _ _=>False,fun _=>False⟩) (fun st h=>?_) (fun _ _ h=>h) (fun _ h=>h) k6
   exact hb (Q:=⟨C5 P n nc y l rec d K none,fun id=>C5 P n nc y l rec d K (some (some id)),C5 P n nc y l rec d K (some none)⟩) (fun st h=>Ja hK h) (fun i st h=>Ja hK h) (fun st h=>Ja hK h) h
  |jump l' Ao8 j=>exact h2.elim
 |_=>exact h2.elim
def Ds(n N y l:Nat)(rec:Loop)(Q:Ad3)(st:St):Prop:=look st y fun _ sv=>match sv with
 | .yl z=>match z with
   | .ready l' Ao8=>l'=l∧Ao8=rec∧As1 (Bn n N (st.drop n)) Q.nrm
   | .jump l' _ j=>l'=l∧match j with
     |none=>As1 (Bn n N (st.drop n)) Q.ret
     |some id=>As1 (Bn n N (st.drop n)) (Q.ex id)
 |_=>False
theorem Gi{n N y l:Nat}{rec:Loop}{Q Q':Ad3}{st:St}(h1:∀st,Q.nrm st→Q'.nrm st)(h2:∀i st,Q.ex i st→Q'.ex i st)(h3:∀st,Q.ret st→Q'.ret st)(h:Ds n N y l rec Q st):Gh n N y l rec Q' st:=by
 obtain⟨cur,k1,k2⟩:=Ca h;obtain⟨v,sv⟩:=cur;unfold Gh;rw[k1];cases sv with
 |yl z=>
  cases z with
  |ready l' Ao8=>exact⟨k2.1,k2.2.1,h1 _ (Bo k2.2.2)⟩
  |jump l' Ao8 j=>
   cases j with
   |none=>exact⟨k2.1,h3 _ (Bo k2.2)⟩
   |some id=>exact⟨k2.1,h2 _ _ (Bo k2.2)⟩
 |_=>exact k2.elim
def Afx(st:St)(g:Nat)(f:FuncId)(K:List (Nat × Nat)→List (Nat × Nat)→Prop)(K':Nat→I→Nat→Nat→List Nat→Prop):Prop:=look st g fun v sv=>match sv with
 | .cl f' fs cs=>f'=f∧K fs cs
 | .ocl f' x s ver p=>f'=f∧K' v x s ver p
 |_=>False
def F7(P:Program):Stm→Hd→Ad3→St→Prop
 | .skip,_,Q,st=>Q.nrm st
 | .ops l,Y,Q,st=>Aa6 P Y l Q.nrm st
 | .drw ms l,_,Q,st=>Up P l (Ai2 st ms Q.nrm) [] st
 | .Ban ms l x,Y,Q,st=>Up P l (Ai2 st ms (x.go P Y Q.nrm)) [] st
 | .seq a b,Y,Q,st=>F7 P a Y ⟨F7 P b Y Q,Q.ex,Q.ret⟩ st
 | .A8m ks a b,Y,Q,st=>Bdz ks (fun K=>F7 P a Y ⟨K,Q.ex,Q.ret⟩) (F7 P b Y Q) st
 | .cond c a b,Y,Q,st=>(Bja c fun t=>.ite t (.chk (F7 P a Y Q)) (.chk (F7 P b Y Q))).wq P (fun _=>False) st
 | .block id a,Y,Q,st=>F7 P a Y ⟨Q.nrm,brk id Q,Q.ret⟩ st
 | .loop ks a,Y,Q,st=>Afm ks (fun K=>F7 P a Y ⟨K,Q.ex,Q.ret⟩) st
 | .exit id,_,Q,st=>Q.ex id st
 | .ret,_,Q,st=>Q.ret st
 | .A5a g f n nc ps it sa sb,_,Q,st=>Afx st g f (fun fs cs=>fs.length+1+cs.length≤n∧∀(l:Nat) (rec:Loop),As1 (Kj n st fs cs l rec)
  (F7 P it (Ro P (F7 P sa noY) (F7 P sb noY) n nc n ps l rec) ⟨Ds n nc fs.length l rec Q,fun _ _=>False,Ds n nc fs.length l rec Q⟩))
  fun v x s ver p=>(3≤n∧s≠g)∧∀(l:Nat) (rec:Loop),As1 (H5 n g v x s ver p st l rec)
  (F7 P it (Ro P (F7 P sa noY) (F7 P sb noY) n nc n ps l rec) ⟨Ds n nc 0 l rec Q,fun _ _=>False,Ds n nc 0 l rec Q⟩)
theorem Ny{P:Program}:∀{s:Stm} {Y Y':Hd} {Q Q':Ad3} {st:St},YLe Y Y'→(∀st,Q.nrm st→Q'.nrm st)→(∀i st,Q.ex i st→Q'.ex i st)→(∀st,Q.ret st→Q'.ret st)→F7 P s Y Q st→wpS P s Y' Q' st:=by
 intro s;induction s with
 |skip=>intro Y Y' Q Q' st hY h1 h2 h3 h;exact h1 _ h
 |ops l=>intro Y Y' Q Q' st hY h1 h2 h3 h;exact W2 hY h1 h
 |drw es l=>intro Y Y' Q Q' st hY h1 h2 h3 h;exact Qj (fun _ _ h=>⟨h.ok,h.fits,h.base,fun hf=>h1 _ (h.go hf)⟩) h
 |Ban ms l x=>intro Y Y' Q Q' st hY h1 h2 h3 h;exact Qj (fun _ _ h=>⟨h.ok,h.fits,h.base,fun hf=>Ao.Bfz hY h1 (h.go hf)⟩) h
 |seq a b iha ihb=>intro Y Y' Q Q' st hY h1 h2 h3 h;exact iha (Q:=⟨F7 P b Y Q,Q.ex,Q.ret⟩) (Q':=⟨wpS P b Y' Q',Q'.ex,Q'.ret⟩) hY (fun st h=>ihb hY h1 h2 h3 h) h2 h3 h
 |A8m ks a b iha ihb=>
  intro Y Y' Q Q' st hY h1 h2 h3 ⟨X,J,R,hb,ha⟩;exact⟨X,J,R,fun x hx=>ihb hY h1 h2 h3 (Bo (K:=F7 P b Y Q) (hb x hx)),iha (Q:=⟨A6q ks J R,Q.ex,Q.ret⟩) (Q':=⟨fun st'=>∃x,norm ks st'=J x∧R x,Q'.ex,Q'.ret⟩) hY (fun _ h=>h.out) h2 h3 ha⟩
 |cond c a b iha ihb=>
  intro Y Y' Q Q' st hY h1 h2 h3 h;have h:=M.At1 h;unfold wpS;have aux:∀(t:Bool),(M.ite t (.chk (F7 P a Y Q)) (.chk (F7 P b Y Q))).wp P (fun _=>False) st→(M.ite t (.chk (wpS P a Y' Q')) (.chk (wpS P b Y' Q'))).wp P (fun _=>False) st:=by
   intro t ⟨g1,g2⟩;exact⟨fun hb=>iha hY h1 h2 h3 (g1 hb),fun hb=>ihb hY h1 h2 h3 (g2 hb)⟩
  unfold Bja at h ⊢;obtain⟨i,g1,g2⟩:=Y1 h;have g3:(match i with| .bool t=>M.ite t (.chk (wpS P a Y' Q')) (.chk (wpS P b Y' Q'))|_=>.fail).wp P (fun _=>False) st:=by
   split at g1
   ·exact aux _ g1
   ·exact g1.elim
  rcases g2 with⟨n,ver,rfl,hn⟩|rfl|⟨e,sz,rfl,rfl⟩
  ·simp only[rdI,M.wp,hn];exact g3
  ·exact g3
  ·exact g3
 |block id a ih=>
  intro Y Y' Q Q' st hY h1 h2 h3 h;refine ih (Q:=⟨Q.nrm,brk id Q,Q.ret⟩) (Q':=⟨Q'.nrm,brk id Q',Q'.ret⟩) hY h1 ?_ h3 h;intro i st h;simp only[brk]at h ⊢;split
  ·rename_i hi;rw[if_pos hi]at h;exact h1 _ h
  ·rename_i hi;rw[if_neg hi]at h;exact h2 _ _ h
 |loop ks a ih=>
  intro Y Y' Q Q' st hY h1 h2 h3 ⟨X,J,R,μ,h4,h5⟩;exact⟨X,J,R,μ,h4,fun x hx=>ih (Q:=⟨Round ks J R μ x,Q.ex,Q.ret⟩) (Q':=⟨Ya ks J R μ x,Q'.ex,Q'.ret⟩) hY (fun _ h=>h.out) h2 h3 (Bo (K:=F7 P a Y ⟨Round ks J R μ x,Q.ex,Q.ret⟩) (h5 x hx))⟩
 |exit id=>intro Y Y' Q Q' st hY h1 h2 h3 h;exact h2 _ _ h
 |ret=>intro Y Y' Q Q' st hY h1 h2 h3 h;exact h3 _ h
 |A5a g f n nc ps it sa sb ihI ihA ihB=>
  intro Y Y' Q Q' st hY h1 h2 h3 h;obtain⟨cur,g1,g2⟩:=Ca h;obtain⟨v,sv⟩:=cur;unfold wpS Bhu;rw[g1];cases sv with
  |cl f' fs cs=>
   obtain⟨k1,k2,k3⟩:=g2;refine⟨k1,k2,fun l rec=>?_⟩
   exact ihI (Q:=⟨Ds n nc fs.length l rec Q,fun _ _=>False,Ds n nc fs.length l rec Q⟩) (Vr (fun h1 h2 h3 h=>ihA Fx h1 h2 h3 h) (fun h1 h2 h3 h=>ihB Fx h1 h2 h3 h)) (fun st h=>Gi h1 h2 h3 h) (fun _ _ h=>h) (fun st h=>Gi h1 h2 h3 h)
    (Bo (K:=F7 P it (Ro P (F7 P sa noY) (F7 P sb noY) n nc n ps l rec) ⟨Ds n nc fs.length l rec Q,fun _ _=>False,Ds n nc fs.length l rec Q⟩) (k3 l rec))
  |ocl f' x s ver p=>
   obtain⟨k1,k2,k3⟩:=g2;refine⟨k1,k2,fun l rec=>?_⟩
   exact ihI (Q:=⟨Ds n nc 0 l rec Q,fun _ _=>False,Ds n nc 0 l rec Q⟩) (Vr (fun h1 h2 h3 h=>ihA Fx h1 h2 h3 h) (fun h1 h2 h3 h=>ihB Fx h1 h2 h3 h)) (fun st h=>Gi h1 h2 h3 h) (fun _ _ h=>h) (fun st h=>Gi h1 h2 h3 h)
    (Bo (K:=F7 P it (Ro P (F7 P sa noY) (F7 P sb noY) n nc n ps l rec) ⟨Ds n nc 0 l rec Q,fun _ _=>False,Ds n nc 0 l rec Q⟩) (k3 l rec))
  |_=>exact g2.elim
def A72(P:Program)(N:Nat)(rs:List Ret)(args:List SV)(R:SV→List SV→Prop)(st:St):Prop:=
 (A1z rs fun us=>.chk fun st'=>Am1 (R (G7 us) (Bi N st' 0 args)) (Bi N st' 0 args)).wq P (fun _=>False) st
def wqF(P:Program)(N:Nat)(s:Stm)(rs:List Ret)(args:List SV)(R:SV→List SV→Prop):Prop:=
 As1 (entry N args) fun st=>F7 P s noY ⟨A72 P N rs args R,Atg,A72 P N rs args R⟩ st
theorem Afu{P:Program}{N:Nat}{s:Stm}{rs:List Ret}{args:List SV}{R:SV→List SV→Prop}(h:wqF P N s rs args R):wpF P N s rs args R:=
 Ny (Q:=⟨A72 P N rs args R,Atg,A72 P N rs args R⟩) (Q':=⟨Fin P N rs args R,Atg,Fin P N rs args R⟩) Fx (fun _ h=>M.At1 h) (fun _ _ h=>h) (fun _ h=>M.At1 h)
  (Bo (K:=fun st=>F7 P s noY ⟨A72 P N rs args R,Atg,A72 P N rs args R⟩ st) h)
def A5h(P:Program)(N n:Nat)(args:List SV)(R:SV→List SV→Prop)(st:St):Prop:=
 (M.get n fun _ sv=>match sv with
   | .vec e sz l=>.chk fun st'=>Am1 (R (.vec e sz l) (Bi N st' 0 args)) (Bi N st' 0 args)
   |_=>.fail).wq P (fun _=>False) st
def Bp1(P:Program)(N:Nat)(s:Stm)(n:Nat)(args:List SV)(R:SV→List SV→Prop):Prop:=
 As1 (entry N args) fun st=>F7 P s noY ⟨A5h P N n args R,Atg,A5h P N n args R⟩ st
theorem Bk9{P:Program}{N:Nat}{s:Stm}{n:Nat}{args:List SV}{R:SV→List SV→Prop}(h:Bp1 P N s n args R):Bpz P N s n args R:=
 Ny (Q:=⟨A5h P N n args R,Atg,A5h P N n args R⟩) (Q':=⟨A73 P N n args R,Atg,A73 P N n args R⟩) Fx (fun _ h=>M.At1 h) (fun _ _ h=>h) (fun _ h=>M.At1 h)
  (Bo (K:=fun st=>F7 P s noY ⟨A5h P N n args R,Atg,A5h P N n args R⟩ st) h)

theorem Bf{n:Int}(h: -9223372036854775808≤n∧n≤9223372036854775807):IntKind.i64.wrap n=n:=by rw[IntKind.wrap_i64];omega
theorem zwj{j:Nat}(h:j<9223372036854775807):IntKind.i64.wrap ((j:Int)+1)=((j+1:Nat):Int):=(Bf (by omega)).trans (by omega)
theorem Dk{k n:Nat}(h:k<n)(hn:n≤maxLen):IntKind.i64.wrap ((k:Int)+1)=((k+1:Nat):Int):=by
 simp only[maxLen]at hn;rw[Bf (by omega)]
 rfl
theorem SV.Aju{a b:Bool}(h:a=b):SV.v (.bool a)=SV.v (.bool b):=congrArg (fun b=>SV.v (.bool b)) h
theorem Ah{l:List I}{sz:Nat}(h:(l.all fun u=>u.size==sz)=true):∀u∈l,u.size=sz:=by
 intro u hu;simpa using Aia.1 h u hu
end Go.Ab
