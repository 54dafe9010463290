/- Lemmas -/
import Derived.Test.YtgcccllpegilnaaGreatDoorAb18b
import Derived.IntWalk
set_option linter.unusedVariables false
set_option linter.unusedSimpArgs false
namespace Go.Ab
structure Cq where
 nrm:St→Prop
 ex:Nat→St→Prop
 ret:St→Prop
inductive Bw where
 |skip
 |ops (l:List Ao)
 |Dh (es:List (List Nat)) (l:List Ao)
 |Acm (es:List (List Nat)) (el:List Nat) (l:List Ao) (x:Ao)
 |seq (a b:Bw)
 |cond (c:Ar) (a b:Bw)
 |block (id:Nat) (a:Bw)
 |loop (ks:List Nat) (a:Bw)
 |exit (id:Nat)
 |ret
 deriving Inhabited
def G9(ks:List Nat)(st:St):SV→SV
 | .E0 s k v=>match st[s]? with
   |some cur=>if v=cur.1∧ks.contains s=false then .E0 s k 0 else .no
   |none=>.no
 | .sub s k v n=>match st[s]? with
   |some cur=>if v=cur.1∧ks.contains s=false then .sub s k 0 n else .no
   |none=>.no
 | .Kk _ _ _ _=>.no
 | .bs s v p lo n=>match st[s]? with
   |some cur=>if v=cur.1∧ks.contains s=false then .bs s 0 p lo n else .no
   |none=>.no
 | .pt s k v off r=>match st[s]? with
   |some cur=>if v=cur.1∧ks.contains s=false then .pt s k 0 off r else .no
   |none=>.no
 | .pd s v p=>match st[s]? with
   |some (_,.own inv _)=>if alive v inv p.length=true∧ks.contains s=false then .pd s 0 p else .no
   |_=>.no
 | .bd s v p=>match st[s]? with
   |some (_,.own inv _)=>if alive v inv (p.length+1)=true∧ks.contains s=false then .bd s 0 p else .no
   |_=>.no
 | .own _ t=>.own [] t
 |sv=>sv
def P4(ks:List Nat)(st:St):Nat→St→St
 |_,[]=>[]
 |i,(_,sv)::r=>(0,if ks.contains i then .no else G9 ks st sv)::P4 ks st (i+1) r
def norm(ks:List Nat)(st:St):St:=P4 ks st 0 st
def A4d{X:Type}(ks:List Nat)(J:X→St)(R:X→Prop)(μ:X→Nat)(x:X)(st:St):Prop:=∃x',norm ks st=J x'∧R x'∧μ x'<μ x
def brk(id:Nat)(Q:Cq)(i:Nat):St→Prop:=if i=id then Q.nrm else Q.ex i
def A7j(c:Ar)(k:Bool→M):M:=Gx c fun i=>match i with
 | .bool t=>k t
 |_=>.fail
structure Bhr(ks:List Nat)(body:(St→Prop)→St→Prop)(st:St):Prop where
 out:∃(X:Type) (J:X→St) (R:X→Prop) (μ:X→Nat),(∃x,norm ks st=J x∧R x)∧∀x,R x→body (A4d ks J R μ x) (J x)
def wpS(P:Program):Bw→Cq→St→Prop
 | .skip,Q,st=>Q.nrm st
 | .ops l,Q,st=>Aw5 P l Q.nrm st
 | .Dh es l,Q,st=>X5 P l (A5 es Q.nrm) [] st
 | .Acm es _ l x,Q,st=>X5 P l (A5 es (x.run P Q.nrm)) [] st
 | .seq a b,Q,st=>wpS P a ⟨wpS P b Q,Q.ex,Q.ret⟩ st
 | .cond c a b,Q,st=>(A7j c fun t=>.ite t (.Hy (wpS P a Q)) (.Hy (wpS P b Q))).wp P (fun _=>False) st
 | .block id a,Q,st=>wpS P a ⟨Q.nrm,brk id Q,Q.ret⟩ st
 | .loop ks a,Q,st=>Bhr ks (fun K=>wpS P a ⟨K,Q.ex,Q.ret⟩) st
 | .exit id,Q,st=>Q.ex id st
 | .ret,Q,st=>Q.ret st
section
variable{P:Program}{N:Nat}{G:Mem}{σ:Lab}{Fr:Mem}{w0:Base}{w:World}{st:St}{a:Act}
theorem Aj0{ks:List Nat}{st:St}:∀(r:St) (i j:Nat),(P4 ks st i r)[j]?=(r[j]?).map fun p=>(0,if ks.contains (i+j)then .no else G9 ks st p.2)
 | [],i,j=>by simp[P4]
 |p::r,i,0=>by simp[P4]
 |p::r,i,j+1=>by
  simp only[P4,List.getElem?_cons_succ];rw[Aj0 r (i+1) j,show i+(j+1)=i+1+j by omega]
theorem Sf{ks:List Nat}(j:Nat):(norm ks st)[j]?=(st[j]?).map fun p=>(0,if ks.contains j then .no else G9 ks st p.2):=by
 unfold norm;rw[Aj0 st 0 j,Nat.zero_add]
theorem Abv{ks:List Nat}{st:St}:∀(r:St) (i:Nat),(P4 ks st i r).length=r.length
 | [],_=>rfl
 |_::r,i=>by simp[P4,Abv r]
theorem A7d{ks:List Nat}{sv:SV}{inv:List Nat}{t:D}(h:G9 ks st sv= .own inv t):∃Bec,sv= .own Bec t∧inv=[]:=by
 cases sv<;>simp only[G9]at h<;>first
  |(cases h;exact⟨_,rfl,rfl⟩)
  |(cases h;done)
  |(split at h<;>first|(cases h;done)|(split at h<;>cases h))
theorem Rel.norm(h:Rel G σ Fr w0 st a w)(ks:List Nat):Rel G σ Fr w0 (Ab.norm ks st) a w:=by
 have vec:∀{s k:Nat} {cur:Nat × SV} {p:TypeId × Nat × List I},st[s]?=some cur→ks.contains s=false→cur.2.Cx k=some p→∃Ed,(Ab.norm ks st)[s]?=some Ed∧Ed.1=0∧Ed.2.Cx k=some p:=by
  intro s k cur p h1 h2 h3;refine⟨_,by rw[Sf,h1];rfl,rfl,?_⟩
  simp only[h2];obtain⟨v,sv⟩:=cur;cases sv<;>first|exact h3|(cases k<;>cases h3)
 refine⟨h.Bm,h.defers,h.n,by rw[h.len];exact(Abv st 0).symm,?_,?_⟩
 ·intro s ver sv hs;rw[Sf]at hs;cases h0:st[s]? with
  |none=>simp[h0]at hs
  |some p=>
   obtain⟨v,R0⟩:=p;simp only[h0,Option.map_some,Option.some.injEq,Prod.mk.injEq]at hs;obtain⟨rfl,hs⟩:=hs;have Ay:=h.Bj s v R0 h0;split at hs
   ·subst hs;trivial
   ·subst hs;generalize val a w0 s=c at Ay ⊢;cases R0 with
    |E0 s' k Bo=>
     obtain⟨cur,g1,g2,g3⟩:=Ay;simp only[G9,g1];split
     ·rename_i hc;obtain⟨e,sz,l,g4,g5⟩:=g3 hc.1;obtain⟨Ed,q1,q2,q3⟩:=vec g1 hc.2 g4;exact⟨Ed,q1,Nat.zero_le _,fun _=>⟨e,sz,l,q3,g5⟩⟩
     ·trivial
    |sub s' k Bo n=>
     obtain⟨cur,g1,g2,g3⟩:=Ay;simp only[G9,g1];split
     ·rename_i hc;obtain⟨e,sz,l,g4,g5⟩:=g3 hc.1;obtain⟨Ed,q1,q2,q3⟩:=vec g1 hc.2 g4;exact⟨Ed,q1,Nat.zero_le _,fun _=>⟨e,sz,l,q3,g5⟩⟩
     ·trivial
    |Kk s' k Bo n=>trivial
    |bs s' Bo p lo n=>
     obtain⟨cur,g1,g2,g3⟩:=Ay;simp only[G9,g1];split
     ·rename_i hc;refine⟨_,by rw[Sf,g1];rfl,Nat.zero_le _,fun _ J2 t' e=>?_⟩
      simp only[hc.2,Bool.false_eq_true,if_false]at e;obtain⟨Bec,e1,rfl⟩:=A7d e;exact⟨by simp[alive],(g3 hc.1 Bec t' e1).2⟩
     ·trivial
    |pt s' k Bo off r=>
     obtain⟨cur,g1,g2,g3⟩:=Ay;simp only[G9,g1];split
     ·rename_i hc;obtain⟨b,g4,g5⟩:=g3 hc.1;exact⟨_,by rw[Sf,g1];rfl,Nat.zero_le _,fun _=>⟨b,g4,g5⟩⟩
     ·trivial
    |pd s' Bo p=>
     obtain⟨cur,g1,g2,g3⟩:=Ay;obtain⟨cv,Eh⟩:=cur;simp only[G9,g1];split
     ·rename_i cv' inv t e;cases e;split
      ·rename_i hc;refine⟨(0,.own [] t),by rw[Sf,g1];simp only[Option.map_some,hc.2];rfl,Nat.le_refl _,fun J2 t' e hp _=>?_⟩
       cases e;exact g3 inv t rfl hp hc.1
      ·trivial
     ·trivial
    |bd s' Bo p=>
     obtain⟨cur,g1,g2,g3⟩:=Ay;obtain⟨cv,Eh⟩:=cur;simp only[G9,g1];split
     ·rename_i cv' inv t e;cases e;split
      ·rename_i hc;refine⟨(0,.own [] t),by rw[Sf,g1];simp only[Option.map_some,hc.2];rfl,Nat.le_refl _,fun J2 t' e _=>?_⟩
       cases e;exact g3 inv t rfl hc.1
      ·trivial
     ·trivial
    |_=>exact Ay
 ·intro s ver hh hs;rw[Sf]at hs;cases h0:st[s]? with
  |none=>simp[h0]at hs
  |some p=>
   obtain⟨v,R0⟩:=p;simp only[h0,Option.map_some,Option.some.injEq,Prod.mk.injEq]at hs;obtain⟨rfl,hs⟩:=hs;split at hs
   ·cases hs
   ·have:R0= .par hh:=by
     cases R0 with
     |E0 s' k Bo=>
      simp only[G9]at hs;split at hs
      ·split at hs<;>cases hs
      ·cases hs
     |sub s' k Bo n=>
      simp only[G9]at hs;split at hs
      ·split at hs<;>cases hs
      ·cases hs
     |Kk s' k Bo n=>simp only[G9]at hs;cases hs
     |bs s' Bo p lo n=>
      simp only[G9]at hs;split at hs
      ·split at hs<;>cases hs
      ·cases hs
     |pt s' k Bo off r=>
      simp only[G9]at hs;split at hs
      ·split at hs<;>cases hs
      ·cases hs
     |pd s' Bo p=>
      simp only[G9]at hs;split at hs
      ·split at hs<;>cases hs
      ·cases hs
     |bd s' Bo p=>
      simp only[G9]at hs;split at hs
      ·split at hs<;>cases hs
      ·cases hs
     |own inv t=>simp only[G9]at hs;cases hs
     |_=>exact hs
    subst this;exact h.L7 s v hh h0
def lift(G:Mem)(Fr:Mem)(w0:Base)(Q:Cq):Exit→Act→World→Prop:=fun e a w=>∃G' σ' st,G.le G'∧Rel G' σ' Fr w0 st a w∧match e with
 | .normal=>Q.nrm st
 | .exit i=>Q.ex i st
 | .ret=>Q.ret st
 |_=>False
theorem Bhf{G':Mem}{Q:Cq}(hG:G.le G'){e:Exit}{a:Act}{w:World}(h:lift G' Fr w0 Q e a w):lift G Fr w0 Q e a w:=by
 obtain⟨G1,σ1,st,h1,h2,h3⟩:=h;exact⟨G1,σ1,st,hG.trans h1,h2,h3⟩
def Ev(P:Program)(N:Nat):Code→Bw→Bool
 | .skip,.skip=>true
 | .region _ ops false,.ops l=>Wj P N ops ops.toList l
 | .region _ ops true,.Dh es l=>P.follows .mixedOrders&&Wj P N ops ops.toList l&&Us es 0 ops.toList
 | .region _ ops true,.Acm es el l x=>P.follows .mixedOrders&&Wj P N ops ops.toList (l++[x])&&Us (es++[el]) 0 ops.toList&&Aqh es el
 | .seq a b,.seq x y=>Ev P N a x&&Ev P N b y
 | .cond c a b,.cond c' x y=>Ax N c c'&&Ev P N a x&&Ev P N b y
 | .block id c,.block id' x=>id==id'&&Ev P N c x
 | .loop c,.loop _ x=>Ev P N c x
 | .exit id,.exit id'=>id==id'
 | .ret,.ret=>true
 |_,_=>false
theorem Ao6:∀{s:Bw} {c:Code} {Q:Cq} {G:Mem} {σ:Lab} {st:St} {a:Act} {w:World},
 Ev P w0.n c s=true→Rel G σ Fr w0 st a w→wpS P s Q st→c.wp P (lift G Fr w0 Q) a w:=by
 intro s;induction s with
 |skip=>
  intro c Q G σ st a w hc hr hq;cases c<;>first|(simp[Ev]at hc;done)|skip
  exact wp_skip ⟨G,σ,st,Mem.le.refl G,hr,hq⟩
 |ops l=>
  intro c Q G σ st a w hc hr hq;cases c<;>first|(simp[Ev]at hc;done)|skip
  rename_i id ops Ao9;cases Ao9<;>first|(simp[Ev]at hc;done)|skip
  simp only[Ev]at hc;exact wp_region_list (Auh hc hr hq fun G' σ' Af a' w' hG Ci Jg=>⟨G',σ',Af,hG,Ci,Jg⟩)
 |Dh es l=>
  intro c Q G σ st a w hc hr hq;cases c<;>first|(simp[Ev]at hc;done)|skip
  rename_i id ops Ao9;cases Ao9<;>first|(simp[Ev]at hc;done)|skip
  simp only[Ev,Bool.and_eq_true]at hc;exact A6g hc.1.1 hc.1.2 hc.2 hr hq fun G' σ' Af a' w' hG Ci Jg=>⟨G',σ',Af,hG,Ci,Jg⟩
 |Acm es el l x=>
  intro c Q G σ st a w hc hr hq;cases c<;>first|(simp[Ev]at hc;done)|skip
  rename_i id ops Ao9;cases Ao9<;>first|(simp[Ev]at hc;done)|skip
  simp only[Ev,Bool.and_eq_true]at hc;exact A9i hc.1.1.1 hc.2 hc.1.1.2 hc.1.2 hr hq fun G' σ' Af a' w' hG Ci Jg=>⟨G',σ',Af,hG,Ci,Jg⟩
 |seq x y Za Zb=>
  intro c Q G σ st a w hc hr hq;cases c<;>first|(simp[Ev]at hc;done)|skip
  simp only[Ev,Bool.and_eq_true]at hc;refine wp_seq (Code.wp_mono ?_ (Za hc.1 hr hq));rintro e a' w' ⟨G',σ',Af,hG,Ci,Jg⟩;cases e with
  |normal=>exact Code.wp_mono (fun e a w h=>Bhf hG h) (Zb hc.2 Ci Jg)
  |exit i=>exact⟨G',σ',Af,hG,Ci,Jg⟩
  |ret=>exact⟨G',σ',Af,hG,Ci,Jg⟩
  |_=>exact Jg.elim
 |cond c' x y Za Zb=>
  intro c Q G σ st a w hc hr hq;cases c<;>first|(simp[Ev]at hc;done)|skip
  simp only[Ev,Bool.and_eq_true]at hc;obtain⟨⟨h1,h2⟩,h3⟩:=hc;obtain⟨i,h4,h5⟩:=De hr h1 hq;split at h4
  ·rename_i t;rw[Aq.bool]at h5;refine wp_cond h5 ?_;cases t with
   |true=>exact Za h2 hr (h4.1 rfl)
   |false=>exact Zb h3 hr (h4.2 rfl)
  ·exact h4.elim
 |block id x ih=>
  intro c Q G σ st a w hc hr hq;cases c<;>first|(simp[Ev]at hc;done)|skip
  simp only[Ev,Bool.and_eq_true,beq_iff_eq]at hc;obtain⟨rfl,h1⟩:=hc;refine wp_block (Code.wp_mono ?_ (ih h1 hr hq));rintro e a' w' ⟨G',σ',Af,hG,Ci,Jg⟩;cases e with
  |exit i=>
   simp only[Exit.inBlock];simp only[brk]at Jg;split
   ·rename_i hi;rw[if_pos hi]at Jg;exact⟨G',σ',Af,hG,Ci,Jg⟩
   ·rename_i hi;rw[if_neg hi]at Jg;exact⟨G',σ',Af,hG,Ci,Jg⟩
  |normal=>exact⟨G',σ',Af,hG,Ci,Jg⟩
  |ret=>exact⟨G',σ',Af,hG,Ci,Jg⟩
  |_=>exact Jg.elim
 |loop ks x ih=>
  intro c Q G σ st a w hc hr hq;cases c<;>first|(simp[Ev]at hc;done)|skip
  simp only[Ev]at hc;obtain⟨⟨X,J,R,μ,⟨x0,hx0,hR0⟩,Di⟩⟩:=hq;refine wp_loop_ghost (fun n a w=>∃G' σ' x,G.le G'∧Rel G' σ' Fr w0 (J x) a w∧R x∧μ x=n) (μ x0) ⟨G,σ,x0,Mem.le.refl G,by rw[←hx0];exact hr.norm ks,hR0,rfl⟩ ?_
  rintro n a1 w1 ⟨G1,σ1,x1,hG1,E2,hR1,rfl⟩;refine Code.wp_mono ?_ (ih hc E2 (Di x1 hR1));rintro e a' w' ⟨G',σ',Af,hG,Ci,Jg⟩;cases e with
  |normal=>
   obtain⟨x',h1,h2,h3⟩:=Jg;exact⟨μ x',h3,G',σ',x',hG1.trans hG,by rw[←h1];exact Ci.norm ks,h2,rfl⟩
  |exit i=>exact⟨G',σ',Af,hG1.trans hG,Ci,Jg⟩
  |ret=>exact⟨G',σ',Af,hG1.trans hG,Ci,Jg⟩
  |_=>exact Jg.elim
 |exit id=>
  intro c Q G σ st a w hc hr hq;cases c<;>first|(simp[Ev]at hc;done)|skip
  simp only[Ev,beq_iff_eq]at hc;subst hc;exact wp_exit ⟨G,σ,st,Mem.le.refl G,hr,hq⟩
 |ret=>
  intro c Q G σ st a w hc hr hq;cases c<;>first|(simp[Ev]at hc;done)|skip
  exact wp_ret ⟨G,σ,st,Mem.le.refl G,hr,hq⟩
end

inductive Lu where
 |t (n:Nat)
 |cell (n:Nat) (agg:Bool) (sz:Nat)
 deriving Inhabited
def Ai8(n:Nat):List F→Nat→M→M
 | [],_,k=>k
 | .i _::fs,j,k=>Ai8 n fs (j+1) k
 | .vec _ _ _::fs,j,k=>.get n fun ver sv=>match sv.Cx (j+1)with
   |some _=>.set n (ver+1) (sv.Aba (j+1)) (Ai8 n fs (j+1) k)
   |none=>.fail
def Adx:List Lu→(List I→M)→M
 | [],k=>k []
 | .t n::r,k=>Kc (.t n) fun u=>Adx r fun us=>k (u::us)
 | .cell n agg sz::r,k=>.get n fun _ sv=>match sv with
   | .box (.st fs)=>Ai8 n fs 0 (.get n fun _ sv=>match sv with
     | .box t=>match(SV.box t).hit 0 []with
       |some (0,.item u)=>.Ba (u.isAgg=agg∧u.size=sz) fun _=>Adx r fun us=>k (u::us)
       |_=>.fail
     |_=>.fail)
   | .box (.one f)=>match(SV.box (.one f)).hit 0 []with
     |some (0,.item u)=>.Ba (u.isAgg=agg∧u.size=sz) fun _=>Adx r fun us=>k (u::us)
     |_=>.fail
   |_=>.fail
def Xw:List I→SV
 | [u]=>.v u
 |us=>.Dv (us.map .i)
def A5d(N:Nat)(i:Nat):SV→SV
 | .v x=>.v x
 | .rp x=>.rp x
 | .box _| .vec _ _ _| .own _ _=>.par (N+i)
 |_=>.no
def Bkr:SV→SV
 | .box t=>.box t
 | .vec e sz l=>.vec e sz l
 | .own _ t=>.own [] t
 |_=>.no
def Ha(N:Nat):Nat→List SV→St
 |_,[]=>[]
 |i,sv::r=>(0,A5d N i sv)::Ha N (i+1) r
def entry(N:Nat)(args:List SV):St:=Ha N 0 args++List.replicate (N - args.length) (0,.no)++args.map fun sv=>(0,Bkr sv)
def SV.clean:SV→SV
 | .own _ t=>.own [] t
 |sv=>sv
theorem Af7{sv:SV}:sv.clean.root=sv.root:=by cases sv<;>rfl
theorem Ai1{G:Mem}{σ:Lab}{w:World}{s:Nat}{sv:SV}{c:Value}:B4 G σ w s sv.clean c=B4 G σ w s sv c:=by cases sv<;>rfl
def D8(N:Nat)(st:St):Nat→List SV→List SV
 |_,[]=>[]
 |i,sv::r=>(if sv.Xn then(match st[N+i]? with
  |some cur=>cur.2.clean
  |none=>.no)else .no)::D8 N st (i+1) r
def Aj7:List SV→Bool
 | []=>true
 |sv::r=>match sv.root with
  |none=>Aj7 r
  |some _=>false
theorem Vo:∀{l:List SV},Aj7 l=true→∀sv∈l,sv.root=none
 | [],_,_,h=>by cases h
 |x::r,h,sv,hm=>by
  unfold Aj7 at h;split at h
  ·rename_i hx;rcases List.mem_cons.mp hm with rfl|hm
   ·exact hx
   ·exact Vo h sv hm
  ·cases h
structure Bd(R:Prop)(outs:List SV):Prop where
 post:R
 own:Aj7 outs=true
def Fin(P:Program)(N:Nat)(rs:List Lu)(args:List SV)(R:SV→List SV→Prop)(st:St):Prop:=
 (Adx rs fun us=>.Hy fun Af=>Bd (R (Xw us) (D8 N Af 0 args)) (D8 N Af 0 args)).wp P (fun _=>False) st
def K3(_:Nat)(_:St):Prop:=False
def wpF(P:Program)(N:Nat)(s:Bw)(rs:List Lu)(args:List SV)(R:SV→List SV→Prop):Prop:=
 wpS P s ⟨Fin P N rs args R,K3,Fin P N rs args R⟩ (entry N args)
def Fx(P:Program)(N:Nat):List ResultVar→List Lu→Bool
 | [],[]=>true
 | .tmp t::l,.t n::r=>t==n&&n<N&&Fx P N l r
 | .cell a t::l,.cell n agg sz::r=>a==n&&n<N&&Hd P t agg sz&&Fx P N l r
 |_,_=>false
def Vb(tmps:Array Value):ResultVar→Sem Value
 | .tmp t=>pure (tmps.getD t undef)
 | .cell p t=>do loadVar t (←asAddr (tmps.getD p undef))
theorem Xx(fn:Func)(tmps:Array Value):results fn tmps=(do let vs ←fn.results.mapM (Vb tmps);pure (if h:vs.size=1 then vs[0]else .tuple vs)):=by
 unfold results
 congr 1
section
variable{P:Program}{N:Nat}{G:Mem}{σ:Lab}{Fr:Mem}{w0:Base}{w:World}{st:St}{a:Act}
theorem Agh{Q:St→Prop}{n:Nat}{k:M}:∀{fs:List F} {j:Nat} {G:Mem} {σ:Lab} {st:St},Rel G σ Fr w0 st a w→(Ai8 n fs j k).wp P Q st→
 ∃G' σ' Af,G.le G'∧Rel G' σ' Fr w0 Af a w∧k.wp P Q Af
 | [],_,G,σ,st,hr,hq=>⟨G,σ,st,Mem.le.refl G,hr,hq⟩
 | .i _::fs,j,G,σ,st,hr,hq=>Agh (fs:=fs) hr hq
 | .vec _ _ _::fs,j,G,σ,st,hr,hq=>by
   simp only[Ai8,M.wp]at hq;cases hs:st[n]? with
   |none=>simp[hs]at hq
   |some cur=>
    obtain⟨ver,sv⟩:=cur;simp only[hs]at hq;split at hq
    ·rename_i p hp;obtain⟨e,sz,l⟩:=p;obtain⟨G',σ',h1,h2,_⟩:=hr.freeze hs hp (Nat.lt_succ_self ver);obtain⟨Q7,H4,Gt,h3,h4,h5⟩:=Agh (fs:=fs) h2 hq;exact⟨Q7,H4,Gt,h1.trans h3,h4,h5⟩
    ·exact hq.elim
theorem Bc8{n:Nat}{sv:SV}{ver:Nat}{u:I}{t:TypeId}(hr:Rel G σ Fr w0 st a w)(hn:n<w0.n)(hs:st[n]?=some (ver,sv))(hb:∃t,sv= .box t)(hh:sv.hit 0 []=some (0,.item u))(ht:Hd P t u.isAgg u.size=true):
 ∃v,(do loadVar t (←asAddr (a.tmps.getD n undef)):Sem Value).run P w= .ok v w∧Aq G u v:=by
 obtain⟨tt,rfl⟩:=hb;have Ay:=hr.slot hn hs;obtain⟨b,cells,ty,h1,h2,h3,h4⟩:=Ay;obtain⟨bl,Ny,fz,pre,cs,post,g1,_,g2,g3,g4,_⟩:=Y2 hr.Bm (show B4 G σ w n (.box tt) (a.eval (.tmp n))from hr.slot hn hs) hh h2;obtain⟨v,hl,hv⟩:=Sx (P:=P) ht g1 g2 g3 g4;have he:a.tmps.getD n undef= .pointer (some ⟨b,0,none⟩):=h1;exact⟨v,by rw[he];simp[asAddr,hl],hv⟩
theorem Ahh{Q:St→Prop}:∀{rs:List Lu} {rv:List ResultVar} {k:List I→M} {G:Mem} {σ:Lab} {st:St},Rel G σ Fr w0 st a w→Fx P w0.n rv rs=true→(Adx rs k).wp P Q st→
 ∃us cs G' σ' Af,G.le G'∧Rel G' σ' Fr w0 Af a w∧(k us).wp P Q Af∧
  (rv.mapM (Vb a.tmps)).run P w= .ok cs w∧C7 G' σ' w 0 0 (us.map F.i) cs
 | [],[],k,G,σ,st,hr,_,hq=>⟨[],[],G,σ,st,Mem.le.refl G,hr,hq,by simp,rfl⟩
 | .t n::rs,.tmp m::rv,k,G,σ,st,hr,ho,hq=>by
   simp only[Fx,Bool.and_eq_true,beq_iff_eq,decide_eq_true_eq]at ho;obtain⟨⟨rfl,h1⟩,h2⟩:=ho;obtain⟨u,G1,σ1,st1,g1,g2,g3,g4⟩:=Km (x:=.tmp m) hr (by simp[Ax,h1]) hq
   obtain⟨us,cs,G2,σ2,st2,q1,q2,q3,q4,q5⟩:=Ahh g2 h2 g3;refine⟨u::us,a.tmps.getD m undef::cs,G2,σ2,st2,g1.trans q1,q2,q3,?_,?_⟩
   ·simp only[List.mapM_cons,Vb,Sem.run_bind,Sem.run_pure,Result.andThen,q4]
   ·exact⟨_,cs,rfl,g4.mono q1,by
     have aux:∀(l:List I) (j j':Nat) (cs:List Value),C7 G2 σ2 w 0 j (l.map F.i) cs→C7 G2 σ2 w 0 j' (l.map F.i) cs:=by
      intro l;induction l with
      |nil=>intro j j' cs h;exact h
      |cons x l ih=>intro j j' cs h;obtain⟨c,d,e,h1,h2⟩:=h;exact⟨c,d,e,h1,ih _ _ _ h2⟩
     exact aux us 0 1 cs q5⟩
 | .cell n agg sz::rs,.cell m t::rv,k,G,σ,st,hr,ho,hq=>by
   simp only[Fx,Bool.and_eq_true,beq_iff_eq,decide_eq_true_eq]at ho;obtain⟨⟨⟨rfl,h1⟩,ht⟩,h2⟩:=ho;have aux:∀(G2:Mem) (σ2:Lab) (l:List I) (j j':Nat) (cs:List Value),C7 G2 σ2 w 0 j (l.map F.i) cs→C7 G2 σ2 w 0 j' (l.map F.i) cs:=by
    intro G2 σ2 l;induction l with
    |nil=>intro j j' cs h;exact h
    |cons x l ih=>intro j j' cs h;obtain⟨c,d,e,h1,h2⟩:=h;exact⟨c,d,e,h1,ih _ _ _ h2⟩
   have fin:∀{G1:Mem} {σ1:Lab} {st1:St} {ver:Nat} {sv:SV},G.le G1→Rel G1 σ1 Fr w0 st1 a w→st1[m]?=some (ver,sv)→
    (match sv.hit 0 []with
      |some (0,.item u)=>M.Ba (u.isAgg=agg∧u.size=sz) fun _=>Adx rs fun us=>k (u::us)
      |_=>.fail).wp P Q st1→(∃t,sv= .box t)→∃us cs G' σ' Af,G.le G'∧Rel G' σ' Fr w0 Af a w∧(k us).wp P Q Af∧
    ((ResultVar.cell m t::rv).mapM (Vb a.tmps)).run P w= .ok cs w∧C7 G' σ' w 0 0 (us.map F.i) cs:=by
    intro G1 σ1 st1 ver sv hG1 E2 hs hq1 Boc;split at hq1
    ·rename_i u hh;obtain⟨⟨rfl,rfl⟩,hq1⟩:=hq1;obtain⟨v,hl,hv⟩:=Bc8 (P:=P) E2 h1 hs Boc hh ht;obtain⟨us,cs,G2,σ2,st2,q1,q2,q3,q4,q5⟩:=Ahh E2 h2 hq1;refine⟨u::us,v::cs,G2,σ2,st2,hG1.trans q1,q2,q3,?_,⟨v,cs,rfl,hv.mono q1,aux _ _ us 0 1 cs q5⟩⟩;have hl':(Vb a.tmps (.cell m t)).run P w= .ok v w:=hl;rw[List.mapM_cons,Sem.run_bind,hl'];simp only[Result.andThen,Sem.run_bind,Sem.run_pure,q4]
    ·exact hq1.elim
   simp only[Adx,M.wp]at hq;cases hs:st[m]? with
   |none=>simp[hs]at hq
   |some cur=>
    obtain⟨ver,sv⟩:=cur;simp only[hs]at hq;split at hq
    ·obtain⟨G1,σ1,st1,g1,g2,g3⟩:=Agh hr hq;simp only[M.wp]at g3;cases Tm:st1[m]? with
     |none=>simp[Tm]at g3
     |some Bh1=>
      obtain⟨Bs3,sv1⟩:=Bh1;simp only[Tm]at g3;split at g3
      ·exact fin g1 g2 Tm g3 ⟨_,rfl⟩
      ·exact g3.elim
    ·exact fin (Mem.le.refl G) hr hs hq ⟨_,rfl⟩
    ·exact hq.elim
 | [],r::_,_,_,_,_,_,ho,_=>by cases r<;>simp[Fx]at ho
 | .t _::_,[],_,_,_,_,_,ho,_=>by simp[Fx]at ho
 | .cell _ _ _::_,[],_,_,_,_,_,ho,_=>by simp[Fx]at ho
 | .t _::_,.cell _ _::_,_,_,_,_,_,ho,_=>by simp[Fx]at ho
 | .cell _ _ _::_,.tmp _::_,_,_,_,_,_,ho,_=>by simp[Fx]at ho
theorem U7{N:Nat}:∀(args:List SV) (i j:Nat),(Ha N i args)[j]?=(args[j]?).map fun sv=>(0,A5d N (i+j) sv)
 | [],i,j=>by simp[Ha]
 |sv::r,i,0=>by simp[Ha]
 |sv::r,i,j+1=>by
  simp only[Ha,List.getElem?_cons_succ];rw[U7 r (i+1) j,show i+(j+1)=i+1+j by omega]
theorem W7{N:Nat}:∀(args:List SV) (i:Nat),(Ha N i args).length=args.length
 | [],_=>rfl
 |_::r,i=>by simp[Ha,W7 r]
theorem Kx{N:Nat}{st:St}:∀(args:List SV) (i j:Nat),(D8 N st i args)[j]?=(args[j]?).map fun sv=>if sv.Xn then(match st[N+(i+j)]? with|some cur=>cur.2.clean|none=>.no)else .no
 | [],i,j=>by simp[D8]
 |sv::r,i,0=>by simp[D8]
 |sv::r,i,j+1=>by
  simp only[D8,List.getElem?_cons_succ];rw[Kx r (i+1) j,show i+(j+1)=i+1+j by omega]
theorem Nt{N:Nat}{st:St}:∀(args:List SV) (i:Nat),(D8 N st i args).length=args.length
 | [],_=>rfl
 |_::r,i=>by simp[D8,Nt r]
theorem C7.one{s:Nat}:∀{us:List I} {j:Nat} {cs:List Value},C7 G σ w s j (us.map F.i) cs→cs.length=us.length
 | [],_,_,h=>by simp[show _=[]from h]
 |u::us,j,cs,h=>by
  obtain⟨c,d,rfl,_,h2⟩:=h;simp[C7.one h2]
def Lab.shift(σ:Lab)(N:Nat):Lab:=fun b=>(σ b).map fun p=>(p.1+N,p.2)
def Lab.Er(σ:Lab)(N:Nat):Lab:=fun b=>match σ b with
 |some (s,k)=>if N≤s then some (s - N,k)else none
 |none=>none
def Ends(P:Program)(fn:Func)(args:List SV)(Cq:SV→List SV→Prop)(E:St→Prop):Prop:=
 ∀{G:Mem} {Fr:Mem} {w:World} {B6:Array Value} {a:Act} {w':World} {G':Mem} {σ':Lab} {st:St},B6.size=args.length→args.length≤fn.ntmps→G.le G'→Rel G' σ' Fr ⟨w,fn.ntmps,B6⟩ st a w'→E st→
  a.defers=[]∧∃v,(results fn a.tmps).run P w'= .ok v w'∧∃r az c Q7 H4,Ending.returned v= .returned c∧Cq r az∧G.le Q7∧Dt Q7 H4 Fr ⟨w,0, #[]⟩ w'∧r.root=none∧B4 Q7 H4 w' args.length r c∧az.length=args.length∧
   ∀i sv,az[i]?=some sv→sv.root=none∧B4 Q7 H4 w' i sv (B6.getD i undef)
theorem Fn.Afe{f:FuncId}{fn:Func}{c:Code}{s:Bw}{args:List SV}{Cq:SV→List SV→Prop}{E:St→Prop}(hf:P.funcs[f]?=some fn)(hb:fn.body=some c)
 (hc:Ev P fn.ntmps c s=true) (hn:args.length≤fn.ntmps) (hE:Ends P fn args Cq E) (h:wpS P s ⟨E,K3,E⟩ (entry fn.ntmps args)):Fn P f args Cq:=by
 intro G σ Fr w B6 Bu hlen E6;refine calls_of_wp hf hb ?_
 let B:Base:=⟨w,fn.ntmps,B6⟩
 let a0:Act:={tmps:=B6++Array.replicate (fn.ntmps - B6.size) undef,defers:=[]}
 have Bk:a0.tmps.size=fn.ntmps:=by simp[a0,hlen];omega
 have A2h:∀i,i<B6.size→val a0 B i=B6.getD i undef:=by
  intro i hi;unfold val;have:i<a0.tmps.size:=by rw[Bk];omega
  rw[Array.getD_eq_getD_getElem?,Array.getElem?_append_left this,Array.getD_eq_getD_getElem?];simp only[a0];rw[Array.getElem?_append_left hi]
 have Nh:∀i,val a0 B (fn.ntmps+i)=B6.getD i undef:=by
  intro i;unfold val;rw[Array.getD_eq_getD_getElem?,Array.getElem?_append_right (by rw[Bk];omega),Bk,Nat.add_sub_cancel_left,Array.getD_eq_getD_getElem?]
 have Ay6:∀{b s k},σ.shift fn.ntmps b=some (s,k)→∃i,s=i+fn.ntmps∧σ b=some (i,k):=by
  intro b s k hb;unfold Lab.shift at hb;cases hσ:σ b with
  |none=>simp[hσ]at hb
  |some p=>
   obtain⟨i,k'⟩:=p;simp only[hσ,Option.map_some,Option.some.injEq,Prod.mk.injEq]at hb;exact⟨i,hb.1.symm,by rw[hb.2]⟩
 have Ay3:Rel G (σ.shift fn.ntmps) Fr B (entry fn.ntmps args) a0 w:=by
  have e1:(Ha fn.ntmps 0 args).length=args.length:=W7 args 0;refine⟨⟨Bu.fixed,?_,?_,Bu.frame,rfl,rfl,rfl,Nat.le_refl _,Bu.apart,Bu.Jd⟩,rfl,Bk,?_,?_,?_⟩
  ·rintro b ⟨s,k⟩ hb;obtain⟨i,_,h1⟩:=Ay6 hb;exact Bu.own b _ h1
  ·rintro b b' ⟨s,k⟩ hb Br;obtain⟨i,h1,h2⟩:=Ay6 hb;obtain⟨i',h3,h4⟩:=Ay6 Br;obtain rfl:i=i':=by omega
   exact Bu.inj b b' _ h2 h4
  ·rw[Bk];simp[entry,e1,B,hlen];omega
  ·intro s ver sv hs;unfold entry at hs;by_cases h1:s<args.length
   ·rw[List.append_assoc,List.getElem?_append_left (by rw[e1];exact h1),U7,List.getElem?_eq_getElem h1]at hs
    simp only[Option.map_some,Option.some.injEq,Prod.mk.injEq,Nat.zero_add]at hs;obtain⟨rfl,rfl⟩:=hs;rw[A2h s (by omega)]
    obtain⟨_,h2⟩:=E6 s _ (List.getElem?_eq_getElem h1);cases Ns:args[s]with
    |v x=>rw[Ns]at h2;exact h2
    |rp x=>rw[Ns]at h2;exact h2
    |_=>trivial
   ·by_cases h2:s<fn.ntmps
    ·rw[List.append_assoc,List.getElem?_append_right (by rw[e1];omega),e1,List.getElem?_append_left (by simp;omega),List.getElem?_replicate,if_pos (by omega)]at hs
     simp only[Option.some.injEq,Prod.mk.injEq]at hs;obtain⟨rfl,rfl⟩:=hs;trivial
    ·rw[List.getElem?_append_right (by simp[e1];omega)]at hs
     have e2:s - (Ha fn.ntmps 0 args++List.replicate (fn.ntmps - args.length) (0,SV.no)).length=s - fn.ntmps:=by simp[e1];omega
     rw[e2,List.getElem?_map]at hs;cases hi:args[s - fn.ntmps]? with
     |none=>simp[hi]at hs
     |some R0=>
      simp only[hi,Option.map_some,Option.some.injEq,Prod.mk.injEq]at hs;obtain⟨rfl,rfl⟩:=hs;have hv:=Nh (s - fn.ntmps);rw[show fn.ntmps+(s - fn.ntmps)=s by omega]at hv
      rw[hv];obtain⟨_,h3⟩:=E6 _ _ hi;have tr:∀b k,σ b=some (s - fn.ntmps,k)→σ.shift fn.ntmps b=some (s,k)∧w.heap[b]?=w.heap[b]?:=by
       intro b k hb;refine⟨?_,rfl⟩;unfold Lab.shift;rw[hb];simp;omega
      cases R0 with
      |box t=>exact B4.tr h3 (Mem.le.refl G) tr
      |vec e sz l=>exact B4.tr h3 (Mem.le.refl G) tr
      |own inv t=>exact B4.tr h3 (Mem.le.refl G) tr
      |_=>trivial
  ·intro s ver hh hs;unfold entry at hs;by_cases h1:s<args.length
   ·rw[List.append_assoc,List.getElem?_append_left (by rw[e1];exact h1),U7,List.getElem?_eq_getElem h1]at hs
    simp only[Option.map_some,Option.some.injEq,Prod.mk.injEq,Nat.zero_add]at hs;obtain⟨rfl,hs⟩:=hs;have:hh=fn.ntmps+s:=by
     cases Ns:args[s]with
     |box t=>rw[Ns]at hs;cases hs;rfl
     |vec e sz l=>rw[Ns]at hs;cases hs;rfl
     |own inv t=>rw[Ns]at hs;cases hs;rfl
     |_=>rw[Ns]at hs;cases hs
    subst this;exact⟨by rw[A2h s (by omega),Nh],Nat.le_add_right _ _⟩
   ·by_cases h2:s<fn.ntmps
    ·rw[List.append_assoc,List.getElem?_append_right (by rw[e1];omega),e1,List.getElem?_append_left (by simp;omega),List.getElem?_replicate,if_pos (by omega)]at hs
     cases hs
    ·rw[List.getElem?_append_right (by simp[e1];omega)]at hs
     have e2:s - (Ha fn.ntmps 0 args++List.replicate (fn.ntmps - args.length) (0,SV.no)).length=s - fn.ntmps:=by simp[e1];omega
     rw[e2,List.getElem?_map]at hs;cases hi:args[s - fn.ntmps]? with
     |none=>simp[hi]at hs
     |some R0=>
      simp only[hi,Option.map_some,Option.some.injEq,Prod.mk.injEq]at hs;obtain⟨_,hs⟩:=hs;cases R0<;>cases hs
 refine Code.wp_mono ?_ (Ao6 (w0:=B) hc Ay3 h);rintro e a w' ⟨G',σ',st,hG,Ci,hq⟩;cases e with
 |normal=>
  obtain⟨h1,v,h2,r,az,c',Q7,H4,h3,h4⟩:=hE hlen hn hG Ci hq;exact⟨h1,v,h2,r,az,c',Q7,H4,h3,h4⟩
 |ret=>
  obtain⟨h1,v,h2,r,az,c',Q7,H4,h3,h4⟩:=hE hlen hn hG Ci hq;exact⟨h1,v,h2,r,az,c',Q7,H4,h3,h4⟩
 |_=>exact hq.elim
theorem Bde{fn:Func}{rs:List Lu}{args:List SV}{Cq:SV→List SV→Prop}(hr:Fx P fn.ntmps fn.results.toList rs=true):Ends P fn args Cq (Fin P fn.ntmps rs args Cq):=by
 intro G Fr w B6 a w' G' σ' st hlen hn hG Ci hq
 let B:Base:=⟨w,fn.ntmps,B6⟩
 refine⟨Ci.defers,?_⟩;obtain⟨us,cs,G2,σ2,st2,q1,q2,⟨q3,q3'⟩,q4,q5⟩:=Ahh Ci hr hq;have q3':=Vo q3';have Bdy:=C7.one q5;have Agm:(fn.results.mapM (Vb a.tmps)).run P w'= .ok cs.toArray w':=by
  rw[Array.mapM_eq_mapM_toList,Sem.run_map,q4];rfl
 have Mg:∀{b s k},σ2.Er fn.ntmps b=some (s,k)→σ2 b=some (fn.ntmps+s,k):=by
  intro b s k hb;unfold Lab.Er at hb;split at hb
  ·rename_i s' k' h1;split at hb
   ·rename_i hle;simp only[Option.some.injEq,Prod.mk.injEq]at hb;obtain⟨rfl,rfl⟩:=hb;rw[h1,show fn.ntmps+(s' - fn.ntmps)=s' by omega]
   ·cases hb
  ·cases hb
 have M9:Dt G2 (σ2.Er fn.ntmps) Fr ⟨w,0, #[]⟩ w':=by
  refine⟨q2.Bm.fixed,?_,?_,q2.Bm.frame,q2.Bm.os,q2.Bm.tape,q2.Bm.output,q2.Bm.size,q2.Bm.apart,q2.Bm.Jd⟩
  ·rintro b ⟨s,k⟩ hb;exact q2.Bm.own b _ (Mg hb)
  ·rintro b b' ⟨s,k⟩ hb Br;exact q2.Bm.inj b b' _ (Mg hb) (Mg Br)
 have Ap6:∃v,(results fn a.tmps).run P w'= .ok v w'∧B4 G2 (σ2.Er fn.ntmps) w' args.length (Xw us) v:=by
  rw[Xx,Sem.run_bind,Agm]
  match us,cs,q5,Bdy with
  | [],[],_,_=>exact⟨.tuple #[],by simp[Result.andThen], #[],rfl,rfl⟩
  | [u],[v],h5,_=>
    obtain⟨c',d',e',h6,_⟩:=h5;cases e';exact⟨v,by simp[Result.andThen],h6⟩
  |u::u'::us,v::v'::cs,h5,_=>
   refine⟨.tuple (v::v'::cs).toArray,by simp[Result.andThen],_,rfl,?_⟩
   have aux:∀(l:List I) (j:Nat) (cs:List Value),C7 G2 σ2 w' 0 j (l.map F.i) cs→C7 G2 (σ2.Er fn.ntmps) w' args.length j (l.map F.i) cs:=by
    intro l;induction l with
    |nil=>intro j cs h;exact h
    |cons x l ih=>intro j cs h;obtain⟨c,d,e,h1,h2⟩:=h;exact⟨c,d,e,h1,ih _ _ h2⟩
   exact aux (u::u'::us) 0 _ h5
 obtain⟨v,hv1,hv2⟩:=Ap6;refine⟨v,hv1,Xw us,D8 fn.ntmps st2 0 args,v,G2,_,rfl,q3,hG.trans q1,M9,?_,hv2,Nt args 0,?_⟩
 ·unfold Xw;split<;>rfl
 ·intro i sv hi;refine⟨q3' sv (List.mem_of_getElem? hi),?_⟩;rw[Kx]at hi;cases Uw:args[i]? with
  |none=>simp[Uw]at hi
  |some R0=>
   simp only[Uw,Option.map_some,Option.some.injEq,Nat.zero_add]at hi;split at hi
   ·cases Fi:st2[fn.ntmps+i]? with
    |none=>simp only[Fi]at hi;subst hi;trivial
    |some cur=>
     obtain⟨ver,sv1⟩:=cur;simp only[Fi]at hi;subst hi;have Ay:=q2.Bj _ _ _ Fi;have Dp:=q3' sv1.clean (by
      apply List.mem_of_getElem? (i:=i);rw[Kx,Uw];simp only[Option.map_some,Nat.zero_add,Fi];rename_i hl;rw[if_pos hl])
     rw[Af7]at Dp;rw[Df.own Dp]at Ay;have Uy:val a B (fn.ntmps+i)=B6.getD i undef:=by
      unfold val;rw[Array.getD_eq_getD_getElem?,Array.getElem?_append_right (by rw[q2.n];exact Nat.le_add_right _ _),q2.n,Array.getD_eq_getD_getElem?]
      simp[B]
     rw[Uy]at Ay;rw[Ai1];refine B4.tr Ay (Mem.le.refl G2) fun b k hb=>⟨?_,rfl⟩
     unfold Lab.Er;rw[hb];simp
   ·subst hi;trivial
theorem Fn.Yb{f:FuncId}{fn:Func}{c:Code}{s:Bw}{rs:List Lu}{args:List SV}{Cq:SV→List SV→Prop}(hf:P.funcs[f]?=some fn)(hb:fn.body=some c)
 (hc:Ev P fn.ntmps c s=true) (hr:Fx P fn.ntmps fn.results.toList rs=true) (hn:args.length≤fn.ntmps) (h:wpF P fn.ntmps s rs args Cq):Fn P f args Cq:=
 Fn.Afe hf hb hc hn (Bde hr) h
theorem Fn.Bej{f:FuncId}{fn:Func}{c:Code}{s:Bw}{rs:List Lu}{args:List SV}{Cq:SV→List SV→Prop}{N:Nat}(hf:P.funcs[f]?=some fn)(hb:fn.body=some c)(hN:fn.ntmps=N)
 (hc:Ev P N c s=true) (hr:Fx P N fn.results.toList rs=true) (hn:args.length≤N) (h:wpF P N s rs args Cq):Fn P f args Cq:=by
 subst hN;exact Fn.Yb hf hb hc hr hn h
def Arx(P:Program)(N n:Nat)(args:List SV)(R:SV→List SV→Prop)(st:St):Prop:=
 (M.get n fun _ sv=>match sv with
   | .vec e sz l=>.Hy fun Af=>Bd (R (.vec e sz l) (D8 N Af 0 args)) (D8 N Af 0 args)
   |_=>.fail).wp P (fun _=>False) st
def Lab.A0c(σ:Lab)(N n m:Nat):Lab:=fun b=>match σ b with
 |some (s,k)=>if s=n∧k=0 then some (m,0)else if N≤s∧s<N+m then some (s - N,k)else none
 |none=>none
theorem Bdf{fn:Func}{n:Nat}{args:List SV}{Cq:SV→List SV→Prop}(hr:fn.results= #[.tmp n])(F1:n<fn.ntmps):Ends P fn args Cq (Arx P fn.ntmps n args Cq):=by
 intro G Fr w B6 a w' G' σ' st hlen hn hG Ci hq;refine⟨Ci.defers,?_⟩;simp only[Arx,M.wp]at hq;cases hs:st[n]? with
 |none=>simp[hs]at hq
 |some cur=>
  obtain⟨ver,sv⟩:=cur;simp only[hs]at hq;split at hq
  ·rename_i e sz l;obtain⟨q3,q3'⟩:=hq;have q3':=Vo q3';have Ay:Cw G' σ' w' (n,0) e sz l (a.eval (.tmp n)):=Ci.slot F1 hs;have Agm:(fn.results.mapM (Vb a.tmps)).run P w'= .ok #[a.tmps.getD n undef] w':=by
    rw[hr,Array.mapM_eq_mapM_toList,Sem.run_map];simp[Vb,Result.andThen]
   have Mg:∀{b s k},σ'.A0c fn.ntmps n args.length b=some (s,k)→(s=args.length∧k=0∧σ' b=some (n,0))∨(s<args.length∧σ' b=some (fn.ntmps+s,k)):=by
    intro b s k hb;unfold Lab.A0c at hb;split at hb
    ·rename_i s' k' h1;split at hb
     ·rename_i hc;obtain⟨rfl,rfl⟩:=hc;simp only[Option.some.injEq,Prod.mk.injEq]at hb;exact .inl ⟨hb.1.symm,hb.2.symm,h1⟩
     ·split at hb
      ·rename_i hle;simp only[Option.some.injEq,Prod.mk.injEq]at hb;obtain⟨rfl,rfl⟩:=hb;exact .inr ⟨by omega,by rw[h1,show fn.ntmps+(s' - fn.ntmps)=s' by omega]⟩
      ·cases hb
    ·cases hb
   have M9:Dt G' (σ'.A0c fn.ntmps n args.length) Fr ⟨w,0, #[]⟩ w':=by
    refine⟨Ci.Bm.fixed,?_,?_,Ci.Bm.frame,Ci.Bm.os,Ci.Bm.tape,Ci.Bm.output,Ci.Bm.size,Ci.Bm.apart,Ci.Bm.Jd⟩
    ·rintro b ⟨s,k⟩ hb;rcases Mg hb with⟨_,_,h⟩|⟨_,h⟩
     ·exact Ci.Bm.own b _ h
     ·exact Ci.Bm.own b _ h
    ·rintro b b' ⟨s,k⟩ hb Br;rcases Mg hb with⟨h1,h2,h⟩|⟨h1,h⟩<;>rcases Mg Br with⟨h3,h4,h'⟩|⟨h3,h'⟩
     ·exact Ci.Bm.inj b b' _ h h'
     ·omega
     ·omega
     ·exact Ci.Bm.inj b b' _ h h'
   refine⟨a.tmps.getD n undef,?_,.vec e sz l,D8 fn.ntmps st 0 args,_,G',_,rfl,q3,hG,M9,rfl,?_,Nt args 0,?_⟩
   ·rw[Xx,Sem.run_bind,Agm];simp[Result.andThen]
   ·refine Cw.tr Ay (Mem.le.refl G') fun b hb=>⟨?_,rfl⟩
    unfold Lab.A0c;rw[hb];simp
   ·intro i sv hi;refine⟨q3' sv (List.mem_of_getElem? hi),?_⟩;rw[Kx]at hi;cases Uw:args[i]? with
    |none=>simp[Uw]at hi
    |some R0=>
     have J4:i<args.length:=(List.getElem?_eq_some_iff.1 Uw).1;simp only[Uw,Option.map_some,Option.some.injEq,Nat.zero_add]at hi;split at hi
     ·cases Fi:st[fn.ntmps+i]? with
      |none=>simp only[Fi]at hi;subst hi;trivial
      |some cur=>
       obtain⟨ver,sv1⟩:=cur;simp only[Fi]at hi;subst hi;have Ay:=Ci.Bj _ _ _ Fi;have Dp:=q3' sv1.clean (by
        apply List.mem_of_getElem? (i:=i);rw[Kx,Uw];simp only[Option.map_some,Nat.zero_add,Fi];rename_i hl;rw[if_pos hl])
       rw[Af7]at Dp;rw[Df.own Dp]at Ay;have Uy:val a ⟨w,fn.ntmps,B6⟩ (fn.ntmps+i)=B6.getD i undef:=by
        unfold val;rw[Array.getD_eq_getD_getElem?,Array.getElem?_append_right (by rw[Ci.n];exact Nat.le_add_right _ _),Ci.n,Array.getD_eq_getD_getElem?]
        simp
       rw[Uy]at Ay;rw[Ai1];refine B4.tr Ay (Mem.le.refl G') fun b k hb=>⟨?_,rfl⟩
       unfold Lab.A0c;rw[hb];simp only;rw[if_neg (by omega),if_pos (by omega)]
       simp
     ·subst hi;trivial
  ·exact hq.elim
def Bke(P:Program)(N:Nat)(s:Bw)(n:Nat)(args:List SV)(R:SV→List SV→Prop):Prop:=
 wpS P s ⟨Arx P N n args R,K3,Arx P N n args R⟩ (entry N args)
theorem Fn.Bjx{f:FuncId}{fn:Func}{c:Code}{s:Bw}{n:Nat}{args:List SV}{Cq:SV→List SV→Prop}{N:Nat}(hf:P.funcs[f]?=some fn)(hb:fn.body=some c)(hN:fn.ntmps=N)
 (hc:Ev P N c s=true) (hr:fn.results= #[.tmp n]) (F1:n<N) (hn:args.length≤N) (h:Bke P N s n args Cq):Fn P f args Cq:=by
 subst hN;exact Fn.Afe hf hb hc hn (Bdf hr F1) h
end

def look:St→Nat→(Nat→SV→Prop)→Prop
 | [],_,_=>False
 |cur::_,0,K=>match cur with
  |(v,sv)=>K v sv
 |_::r,n+1,K=>look r n K
def upK:St→Nat→Nat→SV→(St→Prop)→Prop
 | [],_,_,_,K=>K []
 |_::r,0,v,sv,K=>K ((v,sv)::r)
 |x::r,n+1,v,sv,K=>upK r n v sv fun r'=>K (x::r')
def svK(sv:SV)(K:SV→Prop):Prop:=match sv with
 | .no=>K .no
 | .v x=>K (.v x)
 | .vec e sz l=>K (.vec e sz l)
 | .box t=>K (.box t)
 | .st fs=>K (.st fs)
 | .Dv fs=>K (.Dv fs)
 | .E0 s k ver=>K (.E0 s k ver)
 | .sub s k ver n=>K (.sub s k ver n)
 | .Kk s k ver n=>K (.Kk s k ver n)
 | .bs s ver p lo n=>K (.bs s ver p lo n)
 | .pt s k ver off r=>K (.pt s k ver off r)
 | .rp x=>K (.rp x)
 | .par h=>K (.par h)
 | .own inv t=>K (.own inv t)
 | .pd s ver p=>K (.pd s ver p)
 | .bd s ver p=>K (.bd s ver p)
 | .Qd l=>K (.Qd l)
 | .W8 str pos=>K (.W8 str pos)
theorem V6{K:Nat→SV→Prop}:∀{st:St} {n:Nat},look st n K→∃cur,st[n]?=some cur∧K cur.1 cur.2
 | [],_,h=>h.elim
 |(v,sv)::_,0,h=>⟨(v,sv),rfl,h⟩
 |_::r,n+1,h=>V6 (st:=r) (n:=n) h
theorem Aoq{v:Nat}{sv:SV}:∀{st:St} {n:Nat} {K:St→Prop},upK st n v sv K→K (st.set n (v,sv))
 | [],_,_,h=>h
 |_::_,0,_,h=>h
 |_::r,n+1,K,h=>Aoq (st:=r) (n:=n) (K:=fun r'=>K (_::r')) h
theorem Aom{sv:SV}{K:SV→Prop}(h:svK sv K):K sv:=by cases sv<;>exact h
def Az1(n:Nat)(K:Nat→Prop):Prop:=match n with
 |0=>K 0
 |m+1=>K (m+1)
theorem Ba7{n:Nat}{K:Nat→Prop}(h:Az1 n K):K n:=by cases n<;>exact h
def A0s:List SV→(SV→Prop)→Prop
 | [],_=>False
 | [.no],K=>K .no
 | [.v x],K=>K (.v x)
 | [.vec e sz l],K=>K (.vec e sz l)
 | [.box t],K=>K (.box t)
 | [.st fs],K=>K (.st fs)
 | [.Dv fs],K=>K (.Dv fs)
 | [.E0 s k ver],K=>K (.E0 s k ver)
 | [.sub s k ver n],K=>K (.sub s k ver n)
 | [.Kk s k ver n],K=>K (.Kk s k ver n)
 | [.bs s ver p lo n],K=>K (.bs s ver p lo n)
 | [.pt s k ver off r],K=>K (.pt s k ver off r)
 | [.rp x],K=>K (.rp x)
 | [.par h],K=>K (.par h)
 | [.own inv t],K=>K (.own inv t)
 | [.pd s ver p],K=>K (.pd s ver p)
 | [.bd s ver p],K=>K (.bd s ver p)
 | [.Qd l],K=>K (.Qd l)
 | [.W8 str pos],K=>K (.W8 str pos)
 |_::y::r,K=>A0s (y::r) K
theorem Bbj{sv:SV}{K:SV→Prop}(h:A0s [sv] K):K sv:=by cases sv<;>exact h
def Aha(x:Nat × SV)(K:Nat→SV→Prop):Prop:=A0s [x.2] fun b=>Az1 x.1 fun a=>K a b
theorem Aqt{x:Nat × SV}{K:Nat→SV→Prop}(h:Aha x K):K x.1 x.2:=
 Ba7 (K:=fun a=>K a x.2) (Bbj (K:=fun b=>Az1 x.1 fun a=>K a b) h)
def M.wq(P:Program):M→(St→Prop)→St→Prop
 | .get i k,Q,st=>look st i fun v sv=>(k v sv).wq P Q st
 | .Ks i f k,Q,st=>look st i fun v sv=>Aha (f v sv) fun a b=>(k a b).wq P Q st
 | .set i ver sv k,Q,st=>svK sv fun sv=>upK st i ver sv fun st=>k.wq P Q st
 | .done,Q,st=>Q st
 | .Hy p,_,st=>p st
 | .fail,_,_=>False
 | .Ba p k,Q,st=>∃h:p,(k h).wq P Q st
 | .all p k,Q,st=>∀b,p b→(k b).wq P Q st
 | .fact p k,Q,st=>p→k.wq P Q st
 | .ite b x y,Q,st=>(b=true→x.wq P Q st)∧(b=false→y.wq P Q st)
 | .call f args k,Q,st=>Ac P f args fun r az=>(k r az).wq P Q st
theorem M.Vt{P:Program}{Q:St→Prop}:∀{m:M} {st:St},m.wq P Q st→m.wp P Q st:=by
 intro m;induction m with
 |get i k ih=>
  intro st h;obtain⟨cur,h1,h2⟩:=V6 h;simp only[M.wp,h1];exact ih _ _ h2
 |Ks i f k ih=>
  intro st h;obtain⟨cur,h1,h2⟩:=V6 h;simp only[M.wp,h1];exact ih _ _ (Aqt h2)
 |set i ver sv k ih=>
  intro st h;simp only[M.wq]at h;simp only[M.wp];exact ih (Aoq (Aom (K:=fun sv=>upK st i ver sv fun st=>k.wq P Q st) h))
 |done=>intro st h;exact h
 |Hy p=>intro st h;exact h
 |fail=>intro st h;exact h
 |Ba p k ih=>intro st ⟨h1,h2⟩;exact⟨h1,ih _ h2⟩
 |all p k ih=>intro st h b hb;exact ih _ (h b hb)
 |fact p k ih=>intro st h hp;exact ih (h hp)
 |ite b x y Za Zb=>intro st h;exact⟨fun hb=>Za (h.1 hb),fun hb=>Zb (h.2 hb)⟩
 |call f args k ih=>intro st ⟨Cq,h1,h2⟩;exact⟨Cq,h1,fun r az hp=>ih _ _ (h2 r az hp)⟩
def Ao.go(P:Program):Ao→(St→Prop)→St→Prop
 | .op g i,Q,st=>(guarded g i.dst i.sem).wq P Q st
 | .call g d f az,Q,st=>(guarded g d (Aq4 d f az)).wq P Q st
 | .K4 g d f az,Q,st=>(guarded g d (Ak9 d f az)).wq P Q st
 | .dyn g d fs x az,Q,st=>(guarded g d (Aq1 d fs x az)).wq P Q st
 | .inl d N f az,Q,st=>J6 P f N az st fun r Af=>(Aw3 d r).wq P Q Af
theorem Ao.A9w{P:Program}{i:Ao}{Q Q':St→Prop}{st:St}(hQ:∀st,Q st→Q' st)(h:i.go P Q st):i.run P Q' st:=by
 cases i with
 |inl d N f az=>exact J6.mono h fun r Af h=>M.wp_mono hQ _ _ (M.Vt h)
 |_=>exact M.wp_mono hQ _ _ (M.Vt h)
def Ahr(P:Program):List Ao→(St→Prop)→St→Prop
 | [],Q,st=>Q st
 |i::l,Q,st=>i.go P (Ahr P l Q) st
theorem A2k{P:Program}{Q Q':St→Prop}(hQ:∀st,Q st→Q' st):∀{l:List Ao} {st:St},Ahr P l Q st→Aw5 P l Q' st
 | [],st,h=>hQ st h
 |i::l,st,h=>Ao.A9w (fun _ h=>A2k (l:=l) hQ h) h
def M.wz(P:Program):M→(St→List Rd→Log→List Prop→Prop)→St→List Rd→Log→List Prop→Prop
 | .get i k,K,st,R,L,F=>look st i fun v sv=>(k v sv).wz P K st (.all i::R) L F
 | .Ks i f k,K,st,R,L,F=>look st i fun v sv=>Aha (f v sv) fun a b=>(k a b).wz P K st ((match(Bj L).contains i with|true=>.all i|false=>.prj i f (a,b))::R) L F
 | .set i ver sv k,K,st,R,L,F=>svK sv fun sv=>upK st i ver sv fun st=>k.wz P K st R ((i,(ver,sv))::L) F
 | .done,K,st,R,L,F=>K st R L F
 | .Hy _,_,_,_,_,_=>False
 | .fail,_,_,_,_,_=>False
 | .Ba p k,K,st,R,L,F=>∃h:p,(k h).wz P K st R L F
 | .all _ _,_,_,_,_,_=>False
 | .fact p k,K,st,R,L,F=>k.wz P K st R L (p::F)
 | .ite b x y,K,st,R,L,F=>(b=true→x.wz P K st R L F)∧(b=false→y.wz P K st R L F)
 | .call f args k,K,st,R,L,F=>Aj P f args fun r az=>(k r az).wz P K st R L F
theorem M.Bmd{P:Program}{K K':St→List Rd→Log→List Prop→Prop}(hK:∀st R L F,K st R L F→K' st R L F):∀{m:M} {st:St} {R:List Rd} {L:Log} {F:List Prop},m.wz P K st R L F→m.wr P K' st R L F:=by
 intro m;induction m with
 |get i k ih=>
  intro st R L F h;obtain⟨cur,h1,h2⟩:=V6 h;refine⟨by rw[h1];simp,fun Ed h3=>?_⟩
  rw[h1]at h3;cases h3;exact ih _ _ h2
 |Ks i f k ih=>
  intro st R L F h;obtain⟨cur,h1,h2⟩:=V6 h;refine⟨by rw[h1];simp,fun Ed h3=>?_⟩
  rw[h1]at h3;cases h3;exact ih _ _ (Aqt h2)
 |set i ver sv k ih=>
  intro st R L F h;simp only[M.wz]at h;simp only[M.wr];have h1:=Aom (K:=fun sv=>upK st i ver sv fun st=>k.wz P K st R ((i,(ver,sv))::L) F) h
  exact ih (Aoq (K:=fun st=>k.wz P K st R ((i,(ver,sv))::L) F) h1)
 |done=>intro st R L F h;exact hK _ _ _ _ h
 |Hy p=>intro st R L F h;exact h
 |fail=>intro st R L F h;exact h
 |Ba p k ih=>intro st R L F ⟨h1,h2⟩;exact⟨h1,ih _ h2⟩
 |all p k ih=>intro st R L F h;exact h.elim
 |fact p k ih=>intro st R L F h;exact ih (F:=p::F) h
 |ite b x y Za Zb=>intro st R L F h;exact⟨fun hb=>Za (h.1 hb),fun hb=>Zb (h.2 hb)⟩
 |call f args k ih=>intro st R L F ⟨r0,as0,h1,h2⟩;exact⟨r0,as0,h1,ih _ _ h2⟩
def Ami(P:Program):List Ao→(List Rec→St→Prop)→List Rec→St→Prop
 | [],K,ds,st=>K ds st
 |i::l,K,ds,st=>i.sem.wz P (fun Af R L F=>Ami P l K (ds++[⟨R,L,F⟩]) Af) st [] [] []
theorem Aos{P:Program}{K K':List Rec→St→Prop}(hK:∀ds st,K ds st→K' ds st):∀{l:List Ao} {ds:List Rec} {st:St},Ami P l K ds st→X5 P l K' ds st
 | [],ds,st,h=>hK ds st h
 |i::l,ds,st,h=>M.Bmd (fun _ _ _ _ h=>Aos (l:=l) hK h) h
def L4:St→(St→Prop)→Prop
 | [],K=>K []
 |x::r,K=>L4 r fun r'=>match x with
  |(v,sv)=>svK sv fun sv=>K ((v,sv)::r')
theorem P2:∀{st:St} {K:St→Prop},L4 st K→K st
 | [],_,h=>h
 |(v,sv)::r,K,h=>by
  have:=P2 (st:=r) (K:=fun r'=>svK sv fun sv=>K ((v,sv)::r')) h
  exact Aom (K:=fun sv=>K ((v,sv)::r)) this
structure Round{X:Type}(ks:List Nat)(J:X→St)(R:X→Prop)(μ:X→Nat)(x:X)(st:St):Prop where
 out:∃x',norm ks st=J x'∧R x'∧μ x'<μ x
structure Bq(ks:List Nat)(body:(St→Prop)→St→Prop)(st:St):Prop where
 out:∃(X:Type) (J:X→St) (R:X→Prop) (μ:X→Nat),(∃x,norm ks st=J x∧R x)∧∀x,R x→L4 (J x) (body (Round ks J R μ x))
def Bt:St→List (Nat × SV)→St
 |st,[]=>st
 |st,(n,sv)::r=>Bt (st.set n (0,sv)) r
theorem Bq.by{X:Type}{ks:List Nat}{body:(St→Prop)→St→Prop}{st:St}(Mc:X→List (Nat × SV))(R:X→Prop)(μ:X→Nat)(x0:X)
 (h0:norm ks st=Bt (norm ks st) (Mc x0)) (hR:R x0) (h:∀x,R x→L4 (Bt (norm ks st) (Mc x)) (body (Round ks (fun x=>Bt (norm ks st) (Mc x)) R μ x))):Bq ks body st:=
 ⟨X,fun x=>Bt (norm ks st) (Mc x),R,μ,⟨x0,h0,hR⟩,h⟩
theorem Round.by{X:Type}{ks:List Nat}{J:X→St}{R:X→Prop}{μ:X→Nat}{x:X}{st:St}(x':X)(h1:norm ks st=J x')(h2:R x')(h3:μ x'<μ x):Round ks J R μ x st:=⟨x',h1,h2,h3⟩
def H3(P:Program):Bw→Cq→St→Prop
 | .skip,Q,st=>Q.nrm st
 | .ops l,Q,st=>Ahr P l Q.nrm st
 | .Dh es l,Q,st=>Ami P l (A5 es Q.nrm) [] st
 | .Acm es _ l x,Q,st=>Ami P l (A5 es (x.go P Q.nrm)) [] st
 | .seq a b,Q,st=>H3 P a ⟨H3 P b Q,Q.ex,Q.ret⟩ st
 | .cond c a b,Q,st=>(A7j c fun t=>.ite t (.Hy (H3 P a Q)) (.Hy (H3 P b Q))).wq P (fun _=>False) st
 | .block id a,Q,st=>H3 P a ⟨Q.nrm,brk id Q,Q.ret⟩ st
 | .loop ks a,Q,st=>Bq ks (fun K=>H3 P a ⟨K,Q.ex,Q.ret⟩) st
 | .exit id,Q,st=>Q.ex id st
 | .ret,Q,st=>Q.ret st
theorem Art{P:Program}:∀{s:Bw} {Q Q':Cq} {st:St},(∀st,Q.nrm st→Q'.nrm st)→(∀i st,Q.ex i st→Q'.ex i st)→(∀st,Q.ret st→Q'.ret st)→H3 P s Q st→wpS P s Q' st:=by
 intro s;induction s with
 |skip=>intro Q Q' st h1 h2 h3 h;exact h1 _ h
 |ops l=>intro Q Q' st h1 h2 h3 h;exact A2k h1 h
 |Dh es l=>intro Q Q' st h1 h2 h3 h;exact Aos (fun _ _ h=>⟨h.ok,h.fits,fun hf=>h1 _ (h.go hf)⟩) h
 |Acm es el l x=>intro Q Q' st h1 h2 h3 h;exact Aos (fun _ _ h=>⟨h.ok,h.fits,fun hf=>Ao.A9w h1 (h.go hf)⟩) h
 |seq a b iha ihb=>intro Q Q' st h1 h2 h3 h;exact iha (Q:=⟨H3 P b Q,Q.ex,Q.ret⟩) (Q':=⟨wpS P b Q',Q'.ex,Q'.ret⟩) (fun st h=>ihb h1 h2 h3 h) h2 h3 h
 |cond c a b iha ihb=>
  intro Q Q' st h1 h2 h3 h;have h:=M.Vt h;unfold wpS;have aux:∀(t:Bool),(M.ite t (.Hy (H3 P a Q)) (.Hy (H3 P b Q))).wp P (fun _=>False) st→(M.ite t (.Hy (wpS P a Q')) (.Hy (wpS P b Q'))).wp P (fun _=>False) st:=by
   intro t ⟨g1,g2⟩;exact⟨fun hb=>iha h1 h2 h3 (g1 hb),fun hb=>ihb h1 h2 h3 (g2 hb)⟩
  unfold A7j at h ⊢;obtain⟨i,g1,g2⟩:=A0o h;have g3:(match i with| .bool t=>M.ite t (.Hy (wpS P a Q')) (.Hy (wpS P b Q'))|_=>.fail).wp P (fun _=>False) st:=by
   split at g1
   ·exact aux _ g1
   ·exact g1.elim
  rcases g2 with⟨n,ver,rfl,hn⟩|rfl|⟨e,sz,rfl,rfl⟩
  ·simp only[Gx,M.wp,hn];exact g3
  ·exact g3
  ·exact g3
 |block id a ih=>
  intro Q Q' st h1 h2 h3 h;refine ih (Q:=⟨Q.nrm,brk id Q,Q.ret⟩) (Q':=⟨Q'.nrm,brk id Q',Q'.ret⟩) h1 ?_ h3 h;intro i st h;simp only[brk]at h ⊢;split
  ·rename_i hi;rw[if_pos hi]at h;exact h1 _ h
  ·rename_i hi;rw[if_neg hi]at h;exact h2 _ _ h
 |loop ks a ih=>
  intro Q Q' st h1 h2 h3 ⟨X,J,R,μ,h4,h5⟩;exact⟨X,J,R,μ,h4,fun x hx=>ih (Q:=⟨Round ks J R μ x,Q.ex,Q.ret⟩) (Q':=⟨A4d ks J R μ x,Q'.ex,Q'.ret⟩) (fun _ h=>h.out) h2 h3 (P2 (K:=H3 P a ⟨Round ks J R μ x,Q.ex,Q.ret⟩) (h5 x hx))⟩
 |exit id=>intro Q Q' st h1 h2 h3 h;exact h2 _ _ h
 |ret=>intro Q Q' st h1 h2 h3 h;exact h3 _ h
def Arw(P:Program)(N:Nat)(rs:List Lu)(args:List SV)(R:SV→List SV→Prop)(st:St):Prop:=
 (Adx rs fun us=>.Hy fun Af=>Bd (R (Xw us) (D8 N Af 0 args)) (D8 N Af 0 args)).wq P (fun _=>False) st
def wqF(P:Program)(N:Nat)(s:Bw)(rs:List Lu)(args:List SV)(R:SV→List SV→Prop):Prop:=
 L4 (entry N args) fun st=>H3 P s ⟨Arw P N rs args R,K3,Arw P N rs args R⟩ st
theorem Bkh{P:Program}{N:Nat}{s:Bw}{rs:List Lu}{args:List SV}{R:SV→List SV→Prop}(h:wqF P N s rs args R):wpF P N s rs args R:=
 Art (Q:=⟨Arw P N rs args R,K3,Arw P N rs args R⟩) (Q':=⟨Fin P N rs args R,K3,Fin P N rs args R⟩) (fun _ h=>M.Vt h) (fun _ _ h=>h) (fun _ h=>M.Vt h)
  (P2 (K:=fun st=>H3 P s ⟨Arw P N rs args R,K3,Arw P N rs args R⟩ st) h)
def Akt(P:Program)(N n:Nat)(args:List SV)(R:SV→List SV→Prop)(st:St):Prop:=
 (M.get n fun _ sv=>match sv with
   | .vec e sz l=>.Hy fun Af=>Bd (R (.vec e sz l) (D8 N Af 0 args)) (D8 N Af 0 args)
   |_=>.fail).wq P (fun _=>False) st
def Bkg(P:Program)(N:Nat)(s:Bw)(n:Nat)(args:List SV)(R:SV→List SV→Prop):Prop:=
 L4 (entry N args) fun st=>H3 P s ⟨Akt P N n args R,K3,Akt P N n args R⟩ st
theorem Bhn{P:Program}{N:Nat}{s:Bw}{n:Nat}{args:List SV}{R:SV→List SV→Prop}(h:Bkg P N s n args R):Bke P N s n args R:=
 Art (Q:=⟨Akt P N n args R,K3,Akt P N n args R⟩) (Q':=⟨Arx P N n args R,K3,Arx P N n args R⟩) (fun _ h=>M.Vt h) (fun _ _ h=>h) (fun _ h=>M.Vt h)
  (P2 (K:=fun st=>H3 P s ⟨Akt P N n args R,K3,Akt P N n args R⟩ st) h)

theorem Cf{n:Int}(h: -9223372036854775808≤n∧n≤9223372036854775807):IntKind.i64.wrap n=n:=by rw[IntKind.wrap_i64];omega
theorem Ak{k n:Nat}(h:k<n)(hn:n≤maxLen):IntKind.i64.wrap ((k:Int)+1)=((k+1:Nat):Int):=by
 simp only[maxLen]at hn;rw[Cf (by omega)]
 rfl
theorem SV.Co{a b:Bool}(h:a=b):SV.v (.bool a)=SV.v (.bool b):=congrArg (fun b=>SV.v (.bool b)) h
theorem B8{l:List I}{sz:Nat}(h:(l.all fun u=>u.size==sz)=true):∀u∈l,u.size=sz:=by
 intro u hu;simpa using List.all_eq_true.1 h u hu
end Go.Ab
