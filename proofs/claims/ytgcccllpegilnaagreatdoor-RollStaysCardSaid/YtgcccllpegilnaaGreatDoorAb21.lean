/- Lemmas -/
import Derived.Test.YtgcccllpegilnaaGreatDoorAb18b
import Derived.IntWalk
set_option linter.unusedVariables false
set_option linter.unusedSimpArgs false
namespace Go.Ab
structure Post where
 nrm:St→Prop
 ex:Nat→St→Prop
 ret:St→Prop
inductive Stm where
 |skip
 |ops (l:List Ao)
 |drw (es:List (List Nat)) (l:List Ao)
 |drwL (es:List (List Nat)) (el:List Nat) (l:List Ao) (x:Ao)
 |seq (a b:Stm)
 |cond (c:Opd) (a b:Stm)
 |block (id:Nat) (a:Stm)
 |loop (ks:List Nat) (a:Stm)
 |exit (id:Nat)
 |ret
 deriving Inhabited
def G9 (ks:List Nat) (st:St):SV→SV
 | .bor s k v=>match st[s]? with
   |some cur=>if v=cur.1∧ks.contains s=false then .bor s k 0 else .no
   |none=>.no
 | .sub s k v n=>match st[s]? with
   |some cur=>if v=cur.1∧ks.contains s=false then .sub s k 0 n else .no
   |none=>.no
 | .suf _ _ _ _=>.no
 | .bs s v p lo n=>match st[s]? with
   |some cur=>if v=cur.1∧ks.contains s=false then .bs s 0 p lo n else .no
   |none=>.no
 | .pt s k v off r=>match st[s]? with
   |some cur=>if v=cur.1∧ks.contains s=false then .pt s k 0 off r else .no
   |none=>.no
 | .pd s v p=>match st[s]? with
   |some (_,.own inv _)=>if alive v inv p.length=true∧ks.contains s=false then .pd s 0 p else .no
   |_=>.no
 | .bd s v p=>match st[s]? with
   |some (_,.own inv _)=>if alive v inv (p.length+1)=true∧ks.contains s=false then .bd s 0 p else .no
   |_=>.no
 | .own _ t=>.own [] t
 |sv=>sv
def P4 (ks:List Nat) (st:St):Nat→St→St
 |_,[]=>[]
 |i,(_,sv)::r=>(0,if ks.contains i then .no else G9 ks st sv)::P4 ks st (i+1) r
def norm (ks:List Nat) (st:St):St:=P4 ks st 0 st
def A4d {X:Type} (ks:List Nat) (J:X→St) (R:X→Prop) (μ:X→Nat) (x:X) (st:St):Prop:=∃x',norm ks st=J x'∧R x'∧μ x'<μ x
def brk (id:Nat) (Q:Post) (i:Nat):St→Prop:=if i=id then Q.nrm else Q.ex i
def rdB' (c:Opd) (k:Bool→M):M:=Gx c fun i=>match i with
 | .bool t=>k t
 |_=>.fail
structure LoopWp (ks:List Nat) (body:(St→Prop)→St→Prop) (st:St):Prop where
 out:∃(X:Type) (J:X→St) (R:X→Prop) (μ:X→Nat),(∃x,norm ks st=J x∧R x)∧∀x,R x→body (A4d ks J R μ x) (J x)
def wpS (P:Program):Stm→Post→St→Prop
 | .skip,Q,st=>Q.nrm st
 | .ops l,Q,st=>Aw5 P l Q.nrm st
 | .drw es l,Q,st=>X5 P l (Drawn es Q.nrm) [] st
 | .drwL es _ l x,Q,st=>X5 P l (Drawn es (x.run P Q.nrm)) [] st
 | .seq a b,Q,st=>wpS P a ⟨wpS P b Q,Q.ex,Q.ret⟩ st
 | .cond c a b,Q,st=>(rdB' c fun t=>.ite t (.chk (wpS P a Q)) (.chk (wpS P b Q))).wp P (fun _=>False) st
 | .block id a,Q,st=>wpS P a ⟨Q.nrm,brk id Q,Q.ret⟩ st
 | .loop ks a,Q,st=>LoopWp ks (fun K=>wpS P a ⟨K,Q.ex,Q.ret⟩) st
 | .exit id,Q,st=>Q.ex id st
 | .ret,Q,st=>Q.ret st
section
variable{P:Program}{N:Nat}{G:Mem}{σ:Lab}{Fr:Mem}{w0:Base}{w:World}{st:St}{a:Act}
theorem Aj0 {ks:List Nat} {st:St}:∀(r:St) (i j:Nat),(P4 ks st i r)[j]?=(r[j]?).map fun p=>(0,if ks.contains (i+j)then .no else G9 ks st p.2)
 | [],i,j=>by simp[P4]
 |p::r,i,0=>by simp[P4]
 |p::r,i,j+1=>by
  simp only[P4,List.getElem?_cons_succ]
  rw[Aj0 r (i+1) j,show i+(j+1)=i+1+j by omega]
theorem Sf {ks:List Nat} (j:Nat):(norm ks st)[j]?=(st[j]?).map fun p=>(0,if ks.contains j then .no else G9 ks st p.2):=by
 unfold norm
 rw[Aj0 st 0 j,Nat.zero_add]
theorem Abv {ks:List Nat} {st:St}:∀(r:St) (i:Nat),(P4 ks st i r).length=r.length
 | [],_=>rfl
 |_::r,i=>by simp[P4,Abv r]
theorem A7d {ks:List Nat} {sv:SV} {inv:List Nat} {t:D} (h:G9 ks st sv= .own inv t):∃inv0,sv= .own inv0 t∧inv=[]:=by
 cases sv<;>simp only[G9]at h<;>first
  |(cases h;exact⟨_,rfl,rfl⟩)
  |(cases h;done)
  |(split at h<;>first|(cases h;done)|(split at h<;>cases h))
theorem Rel.norm (h:Rel G σ Fr w0 st a w) (ks:List Nat):Rel G σ Fr w0 (Ab.norm ks st) a w:=by
 have vec:∀{s k:Nat} {cur:Nat × SV} {p:TypeId × Nat × List I},st[s]?=some cur→ks.contains s=false→cur.2.vecAt k=some p→∃cur',(Ab.norm ks st)[s]?=some cur'∧cur'.1=0∧cur'.2.vecAt k=some p:=by
  intro s k cur p h1 h2 h3
  refine⟨_,by rw[Sf,h1];rfl,rfl,?_⟩
  simp only[h2]
  obtain⟨v,sv⟩:=cur
  cases sv<;>first|exact h3|(cases k<;>cases h3)
 refine⟨h.wok,h.defers,h.n,by rw[h.len];exact(Abv st 0).symm,?_,?_⟩
 ·intro s ver sv hs
  rw[Sf]at hs
  cases h0:st[s]? with
  |none=>simp[h0]at hs
  |some p=>
   obtain⟨v,sv0⟩:=p
   simp only[h0,Option.map_some,Option.some.injEq,Prod.mk.injEq]at hs
   obtain⟨rfl,hs⟩:=hs
   have hrep:=h.slots s v sv0 h0
   split at hs
   ·subst hs;trivial
   ·subst hs
    generalize val a w0 s=c at hrep ⊢
    cases sv0 with
    |bor s' k ver'=>
     obtain⟨cur,g1,g2,g3⟩:=hrep
     simp only[G9,g1]
     split
     ·rename_i hc
      obtain⟨e,sz,l,g4,g5⟩:=g3 hc.1
      obtain⟨cur',q1,q2,q3⟩:=vec g1 hc.2 g4
      exact⟨cur',q1,Nat.zero_le _,fun _=>⟨e,sz,l,q3,g5⟩⟩
     ·trivial
    |sub s' k ver' n=>
     obtain⟨cur,g1,g2,g3⟩:=hrep
     simp only[G9,g1]
     split
     ·rename_i hc
      obtain⟨e,sz,l,g4,g5⟩:=g3 hc.1
      obtain⟨cur',q1,q2,q3⟩:=vec g1 hc.2 g4
      exact⟨cur',q1,Nat.zero_le _,fun _=>⟨e,sz,l,q3,g5⟩⟩
     ·trivial
    |suf s' k ver' n=>trivial
    |bs s' ver' p lo n=>
     obtain⟨cur,g1,g2,g3⟩:=hrep
     simp only[G9,g1]
     split
     ·rename_i hc
      refine⟨_,by rw[Sf,g1];rfl,Nat.zero_le _,fun _ inv' t' e=>?_⟩
      simp only[hc.2,Bool.false_eq_true,if_false]at e
      obtain⟨inv0,e1,rfl⟩:=A7d e
      exact⟨by simp[alive],(g3 hc.1 inv0 t' e1).2⟩
     ·trivial
    |pt s' k ver' off r=>
     obtain⟨cur,g1,g2,g3⟩:=hrep
     simp only[G9,g1]
     split
     ·rename_i hc
      obtain⟨b,g4,g5⟩:=g3 hc.1
      exact⟨_,by rw[Sf,g1];rfl,Nat.zero_le _,fun _=>⟨b,g4,g5⟩⟩
     ·trivial
    |pd s' ver' p=>
     obtain⟨cur,g1,g2,g3⟩:=hrep
     obtain⟨cv,csv⟩:=cur
     simp only[G9,g1]
     split
     ·rename_i cv' inv t e
      cases e
      split
      ·rename_i hc
       refine⟨(0,.own [] t),by rw[Sf,g1];simp only[Option.map_some,hc.2];rfl,Nat.le_refl _,fun inv' t' e hp _=>?_⟩
       cases e
       exact g3 inv t rfl hp hc.1
      ·trivial
     ·trivial
    |bd s' ver' p=>
     obtain⟨cur,g1,g2,g3⟩:=hrep
     obtain⟨cv,csv⟩:=cur
     simp only[G9,g1]
     split
     ·rename_i cv' inv t e
      cases e
      split
      ·rename_i hc
       refine⟨(0,.own [] t),by rw[Sf,g1];simp only[Option.map_some,hc.2];rfl,Nat.le_refl _,fun inv' t' e _=>?_⟩
       cases e
       exact g3 inv t rfl hc.1
      ·trivial
     ·trivial
    |_=>exact hrep
 ·intro s ver hh hs
  rw[Sf]at hs
  cases h0:st[s]? with
  |none=>simp[h0]at hs
  |some p=>
   obtain⟨v,sv0⟩:=p
   simp only[h0,Option.map_some,Option.some.injEq,Prod.mk.injEq]at hs
   obtain⟨rfl,hs⟩:=hs
   split at hs
   ·cases hs
   ·have:sv0= .par hh:=by
     cases sv0 with
     |bor s' k ver'=>
      simp only[G9]at hs
      split at hs
      ·split at hs<;>cases hs
      ·cases hs
     |sub s' k ver' n=>
      simp only[G9]at hs
      split at hs
      ·split at hs<;>cases hs
      ·cases hs
     |suf s' k ver' n=>simp only[G9]at hs;cases hs
     |bs s' ver' p lo n=>
      simp only[G9]at hs
      split at hs
      ·split at hs<;>cases hs
      ·cases hs
     |pt s' k ver' off r=>
      simp only[G9]at hs
      split at hs
      ·split at hs<;>cases hs
      ·cases hs
     |pd s' ver' p=>
      simp only[G9]at hs
      split at hs
      ·split at hs<;>cases hs
      ·cases hs
     |bd s' ver' p=>
      simp only[G9]at hs
      split at hs
      ·split at hs<;>cases hs
      ·cases hs
     |own inv t=>simp only[G9]at hs;cases hs
     |_=>exact hs
    subst this
    exact h.pars s v hh h0
def lift (G:Mem) (Fr:Mem) (w0:Base) (Q:Post):Exit→Act→World→Prop:=fun e a w=>∃G' σ' st,G.le G'∧Rel G' σ' Fr w0 st a w∧match e with
 | .normal=>Q.nrm st
 | .exit i=>Q.ex i st
 | .ret=>Q.ret st
 |_=>False
theorem Bhf {G':Mem} {Q:Post} (hG:G.le G') {e:Exit} {a:Act} {w:World} (h:lift G' Fr w0 Q e a w):lift G Fr w0 Q e a w:=by
 obtain⟨G1,σ1,st,h1,h2,h3⟩:=h
 exact⟨G1,σ1,st,hG.trans h1,h2,h3⟩
def chkC (P:Program) (N:Nat):Code→Stm→Bool
 | .skip,.skip=>true
 | .region _ ops false,.ops l=>chkL P N ops ops.toList l
 | .region _ ops true,.drw es l=>P.follows .mixedOrders&&chkL P N ops ops.toList l&&Us es 0 ops.toList
 | .region _ ops true,.drwL es el l x=>P.follows .mixedOrders&&chkL P N ops ops.toList (l++[x])&&Us (es++[el]) 0 ops.toList&&Aqh es el
 | .seq a b,.seq x y=>chkC P N a x&&chkC P N b y
 | .cond c a b,.cond c' x y=>Ax N c c'&&chkC P N a x&&chkC P N b y
 | .block id c,.block id' x=>id==id'&&chkC P N c x
 | .loop c,.loop _ x=>chkC P N c x
 | .exit id,.exit id'=>id==id'
 | .ret,.ret=>true
 |_,_=>false
theorem Ao6:∀{s:Stm} {c:Code} {Q:Post} {G:Mem} {σ:Lab} {st:St} {a:Act} {w:World},
 chkC P w0.n c s=true→Rel G σ Fr w0 st a w→wpS P s Q st→c.wp P (lift G Fr w0 Q) a w:=by
 intro s
 induction s with
 |skip=>
  intro c Q G σ st a w hc hr hq
  cases c<;>first|(simp[chkC]at hc;done)|skip
  exact wp_skip ⟨G,σ,st,Mem.le.refl G,hr,hq⟩
 |ops l=>
  intro c Q G σ st a w hc hr hq
  cases c<;>first|(simp[chkC]at hc;done)|skip
  rename_i id ops draw'
  cases draw'<;>first|(simp[chkC]at hc;done)|skip
  simp only[chkC]at hc
  exact wp_region_list (Auh hc hr hq fun G' σ' st' a' w' hG hr' hq'=>⟨G',σ',st',hG,hr',hq'⟩)
 |drw es l=>
  intro c Q G σ st a w hc hr hq
  cases c<;>first|(simp[chkC]at hc;done)|skip
  rename_i id ops draw'
  cases draw'<;>first|(simp[chkC]at hc;done)|skip
  simp only[chkC,Bool.and_eq_true]at hc
  exact A6g hc.1.1 hc.1.2 hc.2 hr hq fun G' σ' st' a' w' hG hr' hq'=>⟨G',σ',st',hG,hr',hq'⟩
 |drwL es el l x=>
  intro c Q G σ st a w hc hr hq
  cases c<;>first|(simp[chkC]at hc;done)|skip
  rename_i id ops draw'
  cases draw'<;>first|(simp[chkC]at hc;done)|skip
  simp only[chkC,Bool.and_eq_true]at hc
  exact A9i hc.1.1.1 hc.2 hc.1.1.2 hc.1.2 hr hq fun G' σ' st' a' w' hG hr' hq'=>⟨G',σ',st',hG,hr',hq'⟩
 |seq x y ihx ihy=>
  intro c Q G σ st a w hc hr hq
  cases c<;>first|(simp[chkC]at hc;done)|skip
  simp only[chkC,Bool.and_eq_true]at hc
  refine wp_seq (Code.wp_mono ?_ (ihx hc.1 hr hq))
  rintro e a' w' ⟨G',σ',st',hG,hr',hq'⟩
  cases e with
  |normal=>exact Code.wp_mono (fun e a w h=>Bhf hG h) (ihy hc.2 hr' hq')
  |exit i=>exact⟨G',σ',st',hG,hr',hq'⟩
  |ret=>exact⟨G',σ',st',hG,hr',hq'⟩
  |_=>exact hq'.elim
 |cond c' x y ihx ihy=>
  intro c Q G σ st a w hc hr hq
  cases c<;>first|(simp[chkC]at hc;done)|skip
  simp only[chkC,Bool.and_eq_true]at hc
  obtain⟨⟨h1,h2⟩,h3⟩:=hc
  obtain⟨i,h4,h5⟩:=De hr h1 hq
  split at h4
  ·rename_i t
   rw[RepV.bool]at h5
   refine wp_cond h5 ?_
   cases t with
   |true=>exact ihx h2 hr (h4.1 rfl)
   |false=>exact ihy h3 hr (h4.2 rfl)
  ·exact h4.elim
 |block id x ih=>
  intro c Q G σ st a w hc hr hq
  cases c<;>first|(simp[chkC]at hc;done)|skip
  simp only[chkC,Bool.and_eq_true,beq_iff_eq]at hc
  obtain⟨rfl,h1⟩:=hc
  refine wp_block (Code.wp_mono ?_ (ih h1 hr hq))
  rintro e a' w' ⟨G',σ',st',hG,hr',hq'⟩
  cases e with
  |exit i=>
   simp only[Exit.inBlock]
   simp only[brk]at hq'
   split
   ·rename_i hi
    rw[if_pos hi]at hq'
    exact⟨G',σ',st',hG,hr',hq'⟩
   ·rename_i hi
    rw[if_neg hi]at hq'
    exact⟨G',σ',st',hG,hr',hq'⟩
  |normal=>exact⟨G',σ',st',hG,hr',hq'⟩
  |ret=>exact⟨G',σ',st',hG,hr',hq'⟩
  |_=>exact hq'.elim
 |loop ks x ih=>
  intro c Q G σ st a w hc hr hq
  cases c<;>first|(simp[chkC]at hc;done)|skip
  simp only[chkC]at hc
  obtain⟨⟨X,J,R,μ,⟨x0,hx0,hR0⟩,hround⟩⟩:=hq
  refine wp_loop_ghost (fun n a w=>∃G' σ' x,G.le G'∧Rel G' σ' Fr w0 (J x) a w∧R x∧μ x=n) (μ x0) ⟨G,σ,x0,Mem.le.refl G,by rw[←hx0];exact hr.norm ks,hR0,rfl⟩ ?_
  rintro n a1 w1 ⟨G1,σ1,x1,hG1,hr1,hR1,rfl⟩
  refine Code.wp_mono ?_ (ih hc hr1 (hround x1 hR1))
  rintro e a' w' ⟨G',σ',st',hG,hr',hq'⟩
  cases e with
  |normal=>
   obtain⟨x',h1,h2,h3⟩:=hq'
   exact⟨μ x',h3,G',σ',x',hG1.trans hG,by rw[←h1];exact hr'.norm ks,h2,rfl⟩
  |exit i=>exact⟨G',σ',st',hG1.trans hG,hr',hq'⟩
  |ret=>exact⟨G',σ',st',hG1.trans hG,hr',hq'⟩
  |_=>exact hq'.elim
 |exit id=>
  intro c Q G σ st a w hc hr hq
  cases c<;>first|(simp[chkC]at hc;done)|skip
  simp only[chkC,beq_iff_eq]at hc
  subst hc
  exact wp_exit ⟨G,σ,st,Mem.le.refl G,hr,hq⟩
 |ret=>
  intro c Q G σ st a w hc hr hq
  cases c<;>first|(simp[chkC]at hc;done)|skip
  exact wp_ret ⟨G,σ,st,Mem.le.refl G,hr,hq⟩
end

inductive Ret where
 |t (n:Nat)
 |cell (n:Nat) (agg:Bool) (sz:Nat)
 deriving Inhabited
def Ai8 (n:Nat):List F→Nat→M→M
 | [],_,k=>k
 | .i _::fs,j,k=>Ai8 n fs (j+1) k
 | .vec _ _ _::fs,j,k=>.get n fun ver sv=>match sv.vecAt (j+1)with
   |some _=>.set n (ver+1) (sv.frzAt (j+1)) (Ai8 n fs (j+1) k)
   |none=>.fail
def retI:List Ret→(List I→M)→M
 | [],k=>k []
 | .t n::r,k=>Kc (.t n) fun u=>retI r fun us=>k (u::us)
 | .cell n agg sz::r,k=>.get n fun _ sv=>match sv with
   | .box (.st fs)=>Ai8 n fs 0 (.get n fun _ sv=>match sv with
     | .box t=>match(SV.box t).hit 0 []with
       |some (0,.item u)=>.need (u.isAgg=agg∧u.size=sz) fun _=>retI r fun us=>k (u::us)
       |_=>.fail
     |_=>.fail)
   | .box (.one f)=>match(SV.box (.one f)).hit 0 []with
     |some (0,.item u)=>.need (u.isAgg=agg∧u.size=sz) fun _=>retI r fun us=>k (u::us)
     |_=>.fail
   |_=>.fail
def Xw:List I→SV
 | [u]=>.v u
 |us=>.tup (us.map .i)
def A5d (N:Nat) (i:Nat):SV→SV
 | .v x=>.v x
 | .rp x=>.rp x
 | .box _| .vec _ _ _| .own _ _=>.par (N+i)
 |_=>.no
def Bkr:SV→SV
 | .box t=>.box t
 | .vec e sz l=>.vec e sz l
 | .own _ t=>.own [] t
 |_=>.no
def Ha (N:Nat):Nat→List SV→St
 |_,[]=>[]
 |i,sv::r=>(0,A5d N i sv)::Ha N (i+1) r
def entry (N:Nat) (args:List SV):St:=Ha N 0 args++List.replicate (N - args.length) (0,.no)++args.map fun sv=>(0,Bkr sv)
def SV.clean:SV→SV
 | .own _ t=>.own [] t
 |sv=>sv
theorem Af7 {sv:SV}:sv.clean.root=sv.root:=by cases sv<;>rfl
theorem Ai1 {G:Mem} {σ:Lab} {w:World} {s:Nat} {sv:SV} {c:Value}:RepOwn G σ w s sv.clean c=RepOwn G σ w s sv c:=by cases sv<;>rfl
def D8 (N:Nat) (st:St):Nat→List SV→List SV
 |_,[]=>[]
 |i,sv::r=>(if sv.lends then(match st[N+i]? with
  |some cur=>cur.2.clean
  |none=>.no)else .no)::D8 N st (i+1) r
def Aj7:List SV→Bool
 | []=>true
 |sv::r=>match sv.root with
  |none=>Aj7 r
  |some _=>false
theorem Vo:∀{l:List SV},Aj7 l=true→∀sv∈l,sv.root=none
 | [],_,_,h=>by cases h
 |x::r,h,sv,hm=>by
  unfold Aj7 at h
  split at h
  ·rename_i hx
   rcases List.mem_cons.mp hm with rfl|hm
   ·exact hx
   ·exact Vo h sv hm
  ·cases h
structure Done (R:Prop) (outs:List SV):Prop where
 post:R
 own:Aj7 outs=true
def Fin (P:Program) (N:Nat) (rs:List Ret) (args:List SV) (R:SV→List SV→Prop) (st:St):Prop:=
 (retI rs fun us=>.chk fun st'=>Done (R (Xw us) (D8 N st' 0 args)) (D8 N st' 0 args)).wp P (fun _=>False) st
def noEx (_:Nat) (_:St):Prop:=False
def wpF (P:Program) (N:Nat) (s:Stm) (rs:List Ret) (args:List SV) (R:SV→List SV→Prop):Prop:=
 wpS P s ⟨Fin P N rs args R,noEx,Fin P N rs args R⟩ (entry N args)
def Fx (P:Program) (N:Nat):List ResultVar→List Ret→Bool
 | [],[]=>true
 | .tmp t::l,.t n::r=>t==n&&n<N&&Fx P N l r
 | .cell a t::l,.cell n agg sz::r=>a==n&&n<N&&tyOk P t agg sz&&Fx P N l r
 |_,_=>false
def resV (tmps:Array Value):ResultVar→Sem Value
 | .tmp t=>pure (tmps.getD t undef)
 | .cell p t=>do loadVar t (←asAddr (tmps.getD p undef))
theorem Xx (fn:Func) (tmps:Array Value):results fn tmps=(do let vs ←fn.results.mapM (resV tmps);pure (if h:vs.size=1 then vs[0]else .tuple vs)):=by
 unfold results
 congr 1
section
variable{P:Program}{N:Nat}{G:Mem}{σ:Lab}{Fr:Mem}{w0:Base}{w:World}{st:St}{a:Act}
theorem Agh {Q:St→Prop} {n:Nat} {k:M}:∀{fs:List F} {j:Nat} {G:Mem} {σ:Lab} {st:St},Rel G σ Fr w0 st a w→(Ai8 n fs j k).wp P Q st→
 ∃G' σ' st',G.le G'∧Rel G' σ' Fr w0 st' a w∧k.wp P Q st'
 | [],_,G,σ,st,hr,hq=>⟨G,σ,st,Mem.le.refl G,hr,hq⟩
 | .i _::fs,j,G,σ,st,hr,hq=>Agh (fs:=fs) hr hq
 | .vec _ _ _::fs,j,G,σ,st,hr,hq=>by
   simp only[Ai8,M.wp]at hq
   cases hs:st[n]? with
   |none=>simp[hs]at hq
   |some cur=>
    obtain⟨ver,sv⟩:=cur
    simp only[hs]at hq
    split at hq
    ·rename_i p hp
     obtain⟨e,sz,l⟩:=p
     obtain⟨G',σ',h1,h2,_⟩:=hr.freeze hs hp (Nat.lt_succ_self ver)
     obtain⟨G'',σ'',st'',h3,h4,h5⟩:=Agh (fs:=fs) h2 hq
     exact⟨G'',σ'',st'',h1.trans h3,h4,h5⟩
    ·exact hq.elim
theorem Bc8 {n:Nat} {sv:SV} {ver:Nat} {u:I} {t:TypeId} (hr:Rel G σ Fr w0 st a w) (hn:n<w0.n) (hs:st[n]?=some (ver,sv)) (hb:∃t,sv= .box t) (hh:sv.hit 0 []=some (0,.item u)) (ht:tyOk P t u.isAgg u.size=true):
 ∃v,(do loadVar t (←asAddr (a.tmps.getD n undef)):Sem Value).run P w= .ok v w∧RepV G u v:=by
 obtain⟨tt,rfl⟩:=hb
 have hrep:=hr.slot hn hs
 obtain⟨b,cells,ty,h1,h2,h3,h4⟩:=hrep
 obtain⟨bl,ty',fz,pre,cs,post,g1,_,g2,g3,g4,_⟩:=Y2 hr.wok (show RepOwn G σ w n (.box tt) (a.eval (.tmp n))from hr.slot hn hs) hh h2
 obtain⟨v,hl,hv⟩:=Sx (P:=P) ht g1 g2 g3 g4
 have he:a.tmps.getD n undef= .pointer (some ⟨b,0,none⟩):=h1
 exact⟨v,by rw[he];simp[asAddr,hl],hv⟩
theorem Ahh {Q:St→Prop}:∀{rs:List Ret} {rv:List ResultVar} {k:List I→M} {G:Mem} {σ:Lab} {st:St},Rel G σ Fr w0 st a w→Fx P w0.n rv rs=true→(retI rs k).wp P Q st→
 ∃us cs G' σ' st',G.le G'∧Rel G' σ' Fr w0 st' a w∧(k us).wp P Q st'∧
  (rv.mapM (resV a.tmps)).run P w= .ok cs w∧RepTup G' σ' w 0 0 (us.map F.i) cs
 | [],[],k,G,σ,st,hr,_,hq=>⟨[],[],G,σ,st,Mem.le.refl G,hr,hq,by simp,rfl⟩
 | .t n::rs,.tmp m::rv,k,G,σ,st,hr,ho,hq=>by
   simp only[Fx,Bool.and_eq_true,beq_iff_eq,decide_eq_true_eq]at ho
   obtain⟨⟨rfl,h1⟩,h2⟩:=ho
   obtain⟨u,G1,σ1,st1,g1,g2,g3,g4⟩:=Km (x:=.tmp m) hr (by simp[Ax,h1]) hq
   obtain⟨us,cs,G2,σ2,st2,q1,q2,q3,q4,q5⟩:=Ahh g2 h2 g3
   refine⟨u::us,a.tmps.getD m undef::cs,G2,σ2,st2,g1.trans q1,q2,q3,?_,?_⟩
   ·simp only[List.mapM_cons,resV,Sem.run_bind,Sem.run_pure,Result.andThen,q4]
   ·exact⟨_,cs,rfl,g4.mono q1,by
     have aux:∀(l:List I) (j j':Nat) (cs:List Value),RepTup G2 σ2 w 0 j (l.map F.i) cs→RepTup G2 σ2 w 0 j' (l.map F.i) cs:=by
      intro l
      induction l with
      |nil=>intro j j' cs h;exact h
      |cons x l ih=>intro j j' cs h;obtain⟨c,d,e,h1,h2⟩:=h;exact⟨c,d,e,h1,ih _ _ _ h2⟩
     exact aux us 0 1 cs q5⟩
 | .cell n agg sz::rs,.cell m t::rv,k,G,σ,st,hr,ho,hq=>by
   simp only[Fx,Bool.and_eq_true,beq_iff_eq,decide_eq_true_eq]at ho
   obtain⟨⟨⟨rfl,h1⟩,ht⟩,h2⟩:=ho
   have aux:∀(G2:Mem) (σ2:Lab) (l:List I) (j j':Nat) (cs:List Value),RepTup G2 σ2 w 0 j (l.map F.i) cs→RepTup G2 σ2 w 0 j' (l.map F.i) cs:=by
    intro G2 σ2 l
    induction l with
    |nil=>intro j j' cs h;exact h
    |cons x l ih=>intro j j' cs h;obtain⟨c,d,e,h1,h2⟩:=h;exact⟨c,d,e,h1,ih _ _ _ h2⟩
   have fin:∀{G1:Mem} {σ1:Lab} {st1:St} {ver:Nat} {sv:SV},G.le G1→Rel G1 σ1 Fr w0 st1 a w→st1[m]?=some (ver,sv)→
    (match sv.hit 0 []with
      |some (0,.item u)=>M.need (u.isAgg=agg∧u.size=sz) fun _=>retI rs fun us=>k (u::us)
      |_=>.fail).wp P Q st1→(∃t,sv= .box t)→∃us cs G' σ' st',G.le G'∧Rel G' σ' Fr w0 st' a w∧(k us).wp P Q st'∧
    ((ResultVar.cell m t::rv).mapM (resV a.tmps)).run P w= .ok cs w∧RepTup G' σ' w 0 0 (us.map F.i) cs:=by
    intro G1 σ1 st1 ver sv hG1 hr1 hs hq1 hbox
    split at hq1
    ·rename_i u hh
     obtain⟨⟨rfl,rfl⟩,hq1⟩:=hq1
     obtain⟨v,hl,hv⟩:=Bc8 (P:=P) hr1 h1 hs hbox hh ht
     obtain⟨us,cs,G2,σ2,st2,q1,q2,q3,q4,q5⟩:=Ahh hr1 h2 hq1
     refine⟨u::us,v::cs,G2,σ2,st2,hG1.trans q1,q2,q3,?_,⟨v,cs,rfl,hv.mono q1,aux _ _ us 0 1 cs q5⟩⟩
     have hl':(resV a.tmps (.cell m t)).run P w= .ok v w:=hl
     rw[List.mapM_cons,Sem.run_bind,hl']
     simp only[Result.andThen,Sem.run_bind,Sem.run_pure,q4]
    ·exact hq1.elim
   simp only[retI,M.wp]at hq
   cases hs:st[m]? with
   |none=>simp[hs]at hq
   |some cur=>
    obtain⟨ver,sv⟩:=cur
    simp only[hs]at hq
    split at hq
    ·obtain⟨G1,σ1,st1,g1,g2,g3⟩:=Agh hr hq
     simp only[M.wp]at g3
     cases hs1:st1[m]? with
     |none=>simp[hs1]at g3
     |some cur1=>
      obtain⟨ver1,sv1⟩:=cur1
      simp only[hs1]at g3
      split at g3
      ·exact fin g1 g2 hs1 g3 ⟨_,rfl⟩
      ·exact g3.elim
    ·exact fin (Mem.le.refl G) hr hs hq ⟨_,rfl⟩
    ·exact hq.elim
 | [],r::_,_,_,_,_,_,ho,_=>by cases r<;>simp[Fx]at ho
 | .t _::_,[],_,_,_,_,_,ho,_=>by simp[Fx]at ho
 | .cell _ _ _::_,[],_,_,_,_,_,ho,_=>by simp[Fx]at ho
 | .t _::_,.cell _ _::_,_,_,_,_,_,ho,_=>by simp[Fx]at ho
 | .cell _ _ _::_,.tmp _::_,_,_,_,_,_,ho,_=>by simp[Fx]at ho
theorem U7 {N:Nat}:∀(args:List SV) (i j:Nat),(Ha N i args)[j]?=(args[j]?).map fun sv=>(0,A5d N (i+j) sv)
 | [],i,j=>by simp[Ha]
 |sv::r,i,0=>by simp[Ha]
 |sv::r,i,j+1=>by
  simp only[Ha,List.getElem?_cons_succ]
  rw[U7 r (i+1) j,show i+(j+1)=i+1+j by omega]
theorem W7 {N:Nat}:∀(args:List SV) (i:Nat),(Ha N i args).length=args.length
 | [],_=>rfl
 |_::r,i=>by simp[Ha,W7 r]
theorem Kx {N:Nat} {st:St}:∀(args:List SV) (i j:Nat),(D8 N st i args)[j]?=(args[j]?).map fun sv=>if sv.lends then(match st[N+(i+j)]? with|some cur=>cur.2.clean|none=>.no)else .no
 | [],i,j=>by simp[D8]
 |sv::r,i,0=>by simp[D8]
 |sv::r,i,j+1=>by
  simp only[D8,List.getElem?_cons_succ]
  rw[Kx r (i+1) j,show i+(j+1)=i+1+j by omega]
theorem Nt {N:Nat} {st:St}:∀(args:List SV) (i:Nat),(D8 N st i args).length=args.length
 | [],_=>rfl
 |_::r,i=>by simp[D8,Nt r]
theorem RepTup.one {s:Nat}:∀{us:List I} {j:Nat} {cs:List Value},RepTup G σ w s j (us.map F.i) cs→cs.length=us.length
 | [],_,_,h=>by simp[show _=[]from h]
 |u::us,j,cs,h=>by
  obtain⟨c,d,rfl,_,h2⟩:=h
  simp[RepTup.one h2]
def Lab.shift (σ:Lab) (N:Nat):Lab:=fun b=>(σ b).map fun p=>(p.1+N,p.2)
def Lab.unshift (σ:Lab) (N:Nat):Lab:=fun b=>match σ b with
 |some (s,k)=>if N≤s then some (s - N,k)else none
 |none=>none
def Ends (P:Program) (fn:Func) (args:List SV) (Post:SV→List SV→Prop) (E:St→Prop):Prop:=
 ∀{G:Mem} {Fr:Mem} {w:World} {cargs:Array Value} {a:Act} {w':World} {G':Mem} {σ':Lab} {st:St},cargs.size=args.length→args.length≤fn.ntmps→G.le G'→Rel G' σ' Fr ⟨w,fn.ntmps,cargs⟩ st a w'→E st→
  a.defers=[]∧∃v,(results fn a.tmps).run P w'= .ok v w'∧∃r az c G'' σ'',Ending.returned v= .returned c∧Post r az∧G.le G''∧WOk G'' σ'' Fr ⟨w,0, #[]⟩ w'∧r.root=none∧RepOwn G'' σ'' w' args.length r c∧az.length=args.length∧
   ∀i sv,az[i]?=some sv→sv.root=none∧RepOwn G'' σ'' w' i sv (cargs.getD i undef)
theorem Fn.of_code {f:FuncId} {fn:Func} {c:Code} {s:Stm} {args:List SV} {Post:SV→List SV→Prop} {E:St→Prop} (hf:P.funcs[f]?=some fn) (hb:fn.body=some c)
 (hc:chkC P fn.ntmps c s=true) (hn:args.length≤fn.ntmps) (hE:Ends P fn args Post E) (h:wpS P s ⟨E,noEx,E⟩ (entry fn.ntmps args)):Fn P f args Post:=by
 intro G σ Fr w cargs hok hlen hargs
 refine calls_of_wp hf hb ?_
 let B:Base:=⟨w,fn.ntmps,cargs⟩
 let a0:Act:={tmps:=cargs++Array.replicate (fn.ntmps - cargs.size) undef,defers:=[]}
 have hsz:a0.tmps.size=fn.ntmps:=by simp[a0,hlen];omega
 have valT:∀i,i<cargs.size→val a0 B i=cargs.getD i undef:=by
  intro i hi
  unfold val
  have:i<a0.tmps.size:=by rw[hsz];omega
  rw[Array.getD_eq_getD_getElem?,Array.getElem?_append_left this,Array.getD_eq_getD_getElem?]
  simp only[a0]
  rw[Array.getElem?_append_left hi]
 have valH:∀i,val a0 B (fn.ntmps+i)=cargs.getD i undef:=by
  intro i
  unfold val
  rw[Array.getD_eq_getD_getElem?,Array.getElem?_append_right (by rw[hsz];omega),hsz,Nat.add_sub_cancel_left,Array.getD_eq_getD_getElem?]
 have hshift:∀{b s k},σ.shift fn.ntmps b=some (s,k)→∃i,s=i+fn.ntmps∧σ b=some (i,k):=by
  intro b s k hb
  unfold Lab.shift at hb
  cases hσ:σ b with
  |none=>simp[hσ]at hb
  |some p=>
   obtain⟨i,k'⟩:=p
   simp only[hσ,Option.map_some,Option.some.injEq,Prod.mk.injEq]at hb
   exact⟨i,hb.1.symm,by rw[hb.2]⟩
 have hrel:Rel G (σ.shift fn.ntmps) Fr B (entry fn.ntmps args) a0 w:=by
  have e1:(Ha fn.ntmps 0 args).length=args.length:=W7 args 0
  refine⟨⟨hok.fixed,?_,?_,hok.frame,rfl,rfl,rfl,Nat.le_refl _,hok.apart,hok.amb⟩,rfl,hsz,?_,?_,?_⟩
  ·rintro b ⟨s,k⟩ hb
   obtain⟨i,_,h1⟩:=hshift hb
   exact hok.own b _ h1
  ·rintro b b' ⟨s,k⟩ hb hb'
   obtain⟨i,h1,h2⟩:=hshift hb
   obtain⟨i',h3,h4⟩:=hshift hb'
   obtain rfl:i=i':=by omega
   exact hok.inj b b' _ h2 h4
  ·rw[hsz]
   simp[entry,e1,B,hlen]
   omega
  ·intro s ver sv hs
   unfold entry at hs
   by_cases h1:s<args.length
   ·rw[List.append_assoc,List.getElem?_append_left (by rw[e1];exact h1),U7,List.getElem?_eq_getElem h1]at hs
    simp only[Option.map_some,Option.some.injEq,Prod.mk.injEq,Nat.zero_add]at hs
    obtain⟨rfl,rfl⟩:=hs
    rw[valT s (by omega)]
    obtain⟨_,h2⟩:=hargs s _ (List.getElem?_eq_getElem h1)
    cases hsv:args[s]with
    |v x=>rw[hsv]at h2;exact h2
    |rp x=>rw[hsv]at h2;exact h2
    |_=>trivial
   ·by_cases h2:s<fn.ntmps
    ·rw[List.append_assoc,List.getElem?_append_right (by rw[e1];omega),e1,List.getElem?_append_left (by simp;omega),List.getElem?_replicate,if_pos (by omega)]at hs
     simp only[Option.some.injEq,Prod.mk.injEq]at hs
     obtain⟨rfl,rfl⟩:=hs
     trivial
    ·rw[List.getElem?_append_right (by simp[e1];omega)]at hs
     have e2:s - (Ha fn.ntmps 0 args++List.replicate (fn.ntmps - args.length) (0,SV.no)).length=s - fn.ntmps:=by simp[e1];omega
     rw[e2,List.getElem?_map]at hs
     cases hi:args[s - fn.ntmps]? with
     |none=>simp[hi]at hs
     |some sv0=>
      simp only[hi,Option.map_some,Option.some.injEq,Prod.mk.injEq]at hs
      obtain⟨rfl,rfl⟩:=hs
      have hv:=valH (s - fn.ntmps)
      rw[show fn.ntmps+(s - fn.ntmps)=s by omega]at hv
      rw[hv]
      obtain⟨_,h3⟩:=hargs _ _ hi
      have tr:∀b k,σ b=some (s - fn.ntmps,k)→σ.shift fn.ntmps b=some (s,k)∧w.heap[b]?=w.heap[b]?:=by
       intro b k hb
       refine⟨?_,rfl⟩
       unfold Lab.shift
       rw[hb]
       simp
       omega
      cases sv0 with
      |box t=>exact RepOwn.tr h3 (Mem.le.refl G) tr
      |vec e sz l=>exact RepOwn.tr h3 (Mem.le.refl G) tr
      |own inv t=>exact RepOwn.tr h3 (Mem.le.refl G) tr
      |_=>trivial
  ·intro s ver hh hs
   unfold entry at hs
   by_cases h1:s<args.length
   ·rw[List.append_assoc,List.getElem?_append_left (by rw[e1];exact h1),U7,List.getElem?_eq_getElem h1]at hs
    simp only[Option.map_some,Option.some.injEq,Prod.mk.injEq,Nat.zero_add]at hs
    obtain⟨rfl,hs⟩:=hs
    have:hh=fn.ntmps+s:=by
     cases hsv:args[s]with
     |box t=>rw[hsv]at hs;cases hs;rfl
     |vec e sz l=>rw[hsv]at hs;cases hs;rfl
     |own inv t=>rw[hsv]at hs;cases hs;rfl
     |_=>rw[hsv]at hs;cases hs
    subst this
    exact⟨by rw[valT s (by omega),valH],Nat.le_add_right _ _⟩
   ·by_cases h2:s<fn.ntmps
    ·rw[List.append_assoc,List.getElem?_append_right (by rw[e1];omega),e1,List.getElem?_append_left (by simp;omega),List.getElem?_replicate,if_pos (by omega)]at hs
     cases hs
    ·rw[List.getElem?_append_right (by simp[e1];omega)]at hs
     have e2:s - (Ha fn.ntmps 0 args++List.replicate (fn.ntmps - args.length) (0,SV.no)).length=s - fn.ntmps:=by simp[e1];omega
     rw[e2,List.getElem?_map]at hs
     cases hi:args[s - fn.ntmps]? with
     |none=>simp[hi]at hs
     |some sv0=>
      simp only[hi,Option.map_some,Option.some.injEq,Prod.mk.injEq]at hs
      obtain⟨_,hs⟩:=hs
      cases sv0<;>cases hs
 refine Code.wp_mono ?_ (Ao6 (w0:=B) hc hrel h)
 rintro e a w' ⟨G',σ',st,hG,hr',hq⟩
 cases e with
 |normal=>
  obtain⟨h1,v,h2,r,az,c',G'',σ'',h3,h4⟩:=hE hlen hn hG hr' hq
  exact⟨h1,v,h2,r,az,c',G'',σ'',h3,h4⟩
 |ret=>
  obtain⟨h1,v,h2,r,az,c',G'',σ'',h3,h4⟩:=hE hlen hn hG hr' hq
  exact⟨h1,v,h2,r,az,c',G'',σ'',h3,h4⟩
 |_=>exact hq.elim
theorem Bde {fn:Func} {rs:List Ret} {args:List SV} {Post:SV→List SV→Prop} (hr:Fx P fn.ntmps fn.results.toList rs=true):Ends P fn args Post (Fin P fn.ntmps rs args Post):=by
 intro G Fr w cargs a w' G' σ' st hlen hn hG hr' hq
 let B:Base:=⟨w,fn.ntmps,cargs⟩
 refine⟨hr'.defers,?_⟩
 obtain⟨us,cs,G2,σ2,st2,q1,q2,⟨q3,q3'⟩,q4,q5⟩:=Ahh hr' hr hq
 have q3':=Vo q3'
 have hlcs:=RepTup.one q5
 have hresM:(fn.results.mapM (resV a.tmps)).run P w'= .ok cs.toArray w':=by
  rw[Array.mapM_eq_mapM_toList,Sem.run_map,q4]
  rfl
 have hun:∀{b s k},σ2.unshift fn.ntmps b=some (s,k)→σ2 b=some (fn.ntmps+s,k):=by
  intro b s k hb
  unfold Lab.unshift at hb
  split at hb
  ·rename_i s' k' h1
   split at hb
   ·rename_i hle
    simp only[Option.some.injEq,Prod.mk.injEq]at hb
    obtain⟨rfl,rfl⟩:=hb
    rw[h1,show fn.ntmps+(s' - fn.ntmps)=s' by omega]
   ·cases hb
  ·cases hb
 have hok2:WOk G2 (σ2.unshift fn.ntmps) Fr ⟨w,0, #[]⟩ w':=by
  refine⟨q2.wok.fixed,?_,?_,q2.wok.frame,q2.wok.os,q2.wok.tape,q2.wok.output,q2.wok.size,q2.wok.apart,q2.wok.amb⟩
  ·rintro b ⟨s,k⟩ hb
   exact q2.wok.own b _ (hun hb)
  ·rintro b b' ⟨s,k⟩ hb hb'
   exact q2.wok.inj b b' _ (hun hb) (hun hb')
 have hresV:∃v,(results fn a.tmps).run P w'= .ok v w'∧RepOwn G2 (σ2.unshift fn.ntmps) w' args.length (Xw us) v:=by
  rw[Xx,Sem.run_bind,hresM]
  match us,cs,q5,hlcs with
  | [],[],_,_=>exact⟨.tuple #[],by simp[Result.andThen], #[],rfl,rfl⟩
  | [u],[v],h5,_=>
    obtain⟨c',d',e',h6,_⟩:=h5
    cases e'
    exact⟨v,by simp[Result.andThen],h6⟩
  |u::u'::us,v::v'::cs,h5,_=>
   refine⟨.tuple (v::v'::cs).toArray,by simp[Result.andThen],_,rfl,?_⟩
   have aux:∀(l:List I) (j:Nat) (cs:List Value),RepTup G2 σ2 w' 0 j (l.map F.i) cs→RepTup G2 (σ2.unshift fn.ntmps) w' args.length j (l.map F.i) cs:=by
    intro l
    induction l with
    |nil=>intro j cs h;exact h
    |cons x l ih=>intro j cs h;obtain⟨c,d,e,h1,h2⟩:=h;exact⟨c,d,e,h1,ih _ _ h2⟩
   exact aux (u::u'::us) 0 _ h5
 obtain⟨v,hv1,hv2⟩:=hresV
 refine⟨v,hv1,Xw us,D8 fn.ntmps st2 0 args,v,G2,_,rfl,q3,hG.trans q1,hok2,?_,hv2,Nt args 0,?_⟩
 ·unfold Xw;split<;>rfl
 ·intro i sv hi
  refine⟨q3' sv (List.mem_of_getElem? hi),?_⟩
  rw[Kx]at hi
  cases harg:args[i]? with
  |none=>simp[harg]at hi
  |some sv0=>
   simp only[harg,Option.map_some,Option.some.injEq,Nat.zero_add]at hi
   split at hi
   ·cases hst:st2[fn.ntmps+i]? with
    |none=>simp only[hst]at hi;subst hi;trivial
    |some cur=>
     obtain⟨ver,sv1⟩:=cur
     simp only[hst]at hi
     subst hi
     have hrep:=q2.slots _ _ _ hst
     have hroot:=q3' sv1.clean (by
      apply List.mem_of_getElem? (i:=i)
      rw[Kx,harg]
      simp only[Option.map_some,Nat.zero_add,hst]
      rename_i hl
      rw[if_pos hl])
     rw[Af7]at hroot
     rw[RepSV.own hroot]at hrep
     have hval:val a B (fn.ntmps+i)=cargs.getD i undef:=by
      unfold val
      rw[Array.getD_eq_getD_getElem?,Array.getElem?_append_right (by rw[q2.n];exact Nat.le_add_right _ _),q2.n,Array.getD_eq_getD_getElem?]
      simp[B]
     rw[hval]at hrep
     rw[Ai1]
     refine RepOwn.tr hrep (Mem.le.refl G2) fun b k hb=>⟨?_,rfl⟩
     unfold Lab.unshift
     rw[hb]
     simp
   ·subst hi;trivial
theorem Fn.of_body {f:FuncId} {fn:Func} {c:Code} {s:Stm} {rs:List Ret} {args:List SV} {Post:SV→List SV→Prop} (hf:P.funcs[f]?=some fn) (hb:fn.body=some c)
 (hc:chkC P fn.ntmps c s=true) (hr:Fx P fn.ntmps fn.results.toList rs=true) (hn:args.length≤fn.ntmps) (h:wpF P fn.ntmps s rs args Post):Fn P f args Post:=
 Fn.of_code hf hb hc hn (Bde hr) h
theorem Fn.of_body' {f:FuncId} {fn:Func} {c:Code} {s:Stm} {rs:List Ret} {args:List SV} {Post:SV→List SV→Prop} {N:Nat} (hf:P.funcs[f]?=some fn) (hb:fn.body=some c) (hN:fn.ntmps=N)
 (hc:chkC P N c s=true) (hr:Fx P N fn.results.toList rs=true) (hn:args.length≤N) (h:wpF P N s rs args Post):Fn P f args Post:=by
 subst hN
 exact Fn.of_body hf hb hc hr hn h
def FinV (P:Program) (N n:Nat) (args:List SV) (R:SV→List SV→Prop) (st:St):Prop:=
 (M.get n fun _ sv=>match sv with
   | .vec e sz l=>.chk fun st'=>Done (R (.vec e sz l) (D8 N st' 0 args)) (D8 N st' 0 args)
   |_=>.fail).wp P (fun _=>False) st
def Lab.outV (σ:Lab) (N n m:Nat):Lab:=fun b=>match σ b with
 |some (s,k)=>if s=n∧k=0 then some (m,0)else if N≤s∧s<N+m then some (s - N,k)else none
 |none=>none
theorem Bdf {fn:Func} {n:Nat} {args:List SV} {Post:SV→List SV→Prop} (hr:fn.results= #[.tmp n]) (hn':n<fn.ntmps):Ends P fn args Post (FinV P fn.ntmps n args Post):=by
 intro G Fr w cargs a w' G' σ' st hlen hn hG hr' hq
 refine⟨hr'.defers,?_⟩
 simp only[FinV,M.wp]at hq
 cases hs:st[n]? with
 |none=>simp[hs]at hq
 |some cur=>
  obtain⟨ver,sv⟩:=cur
  simp only[hs]at hq
  split at hq
  ·rename_i e sz l
   obtain⟨q3,q3'⟩:=hq
   have q3':=Vo q3'
   have hrep:VecAt G' σ' w' (n,0) e sz l (a.eval (.tmp n)):=hr'.slot hn' hs
   have hresM:(fn.results.mapM (resV a.tmps)).run P w'= .ok #[a.tmps.getD n undef] w':=by
    rw[hr,Array.mapM_eq_mapM_toList,Sem.run_map]
    simp[resV,Result.andThen]
   have hun:∀{b s k},σ'.outV fn.ntmps n args.length b=some (s,k)→(s=args.length∧k=0∧σ' b=some (n,0))∨(s<args.length∧σ' b=some (fn.ntmps+s,k)):=by
    intro b s k hb
    unfold Lab.outV at hb
    split at hb
    ·rename_i s' k' h1
     split at hb
     ·rename_i hc
      obtain⟨rfl,rfl⟩:=hc
      simp only[Option.some.injEq,Prod.mk.injEq]at hb
      exact .inl ⟨hb.1.symm,hb.2.symm,h1⟩
     ·split at hb
      ·rename_i hle
       simp only[Option.some.injEq,Prod.mk.injEq]at hb
       obtain⟨rfl,rfl⟩:=hb
       exact .inr ⟨by omega,by rw[h1,show fn.ntmps+(s' - fn.ntmps)=s' by omega]⟩
      ·cases hb
    ·cases hb
   have hok2:WOk G' (σ'.outV fn.ntmps n args.length) Fr ⟨w,0, #[]⟩ w':=by
    refine⟨hr'.wok.fixed,?_,?_,hr'.wok.frame,hr'.wok.os,hr'.wok.tape,hr'.wok.output,hr'.wok.size,hr'.wok.apart,hr'.wok.amb⟩
    ·rintro b ⟨s,k⟩ hb
     rcases hun hb with⟨_,_,h⟩|⟨_,h⟩
     ·exact hr'.wok.own b _ h
     ·exact hr'.wok.own b _ h
    ·rintro b b' ⟨s,k⟩ hb hb'
     rcases hun hb with⟨h1,h2,h⟩|⟨h1,h⟩<;>rcases hun hb' with⟨h3,h4,h'⟩|⟨h3,h'⟩
     ·exact hr'.wok.inj b b' _ h h'
     ·omega
     ·omega
     ·exact hr'.wok.inj b b' _ h h'
   refine⟨a.tmps.getD n undef,?_,.vec e sz l,D8 fn.ntmps st 0 args,_,G',_,rfl,q3,hG,hok2,rfl,?_,Nt args 0,?_⟩
   ·rw[Xx,Sem.run_bind,hresM]
    simp[Result.andThen]
   ·refine VecAt.tr hrep (Mem.le.refl G') fun b hb=>⟨?_,rfl⟩
    unfold Lab.outV
    rw[hb]
    simp
   ·intro i sv hi
    refine⟨q3' sv (List.mem_of_getElem? hi),?_⟩
    rw[Kx]at hi
    cases harg:args[i]? with
    |none=>simp[harg]at hi
    |some sv0=>
     have hil:i<args.length:=(List.getElem?_eq_some_iff.1 harg).1
     simp only[harg,Option.map_some,Option.some.injEq,Nat.zero_add]at hi
     split at hi
     ·cases hst:st[fn.ntmps+i]? with
      |none=>simp only[hst]at hi;subst hi;trivial
      |some cur=>
       obtain⟨ver,sv1⟩:=cur
       simp only[hst]at hi
       subst hi
       have hrep:=hr'.slots _ _ _ hst
       have hroot:=q3' sv1.clean (by
        apply List.mem_of_getElem? (i:=i)
        rw[Kx,harg]
        simp only[Option.map_some,Nat.zero_add,hst]
        rename_i hl
        rw[if_pos hl])
       rw[Af7]at hroot
       rw[RepSV.own hroot]at hrep
       have hval:val a ⟨w,fn.ntmps,cargs⟩ (fn.ntmps+i)=cargs.getD i undef:=by
        unfold val
        rw[Array.getD_eq_getD_getElem?,Array.getElem?_append_right (by rw[hr'.n];exact Nat.le_add_right _ _),hr'.n,Array.getD_eq_getD_getElem?]
        simp
       rw[hval]at hrep
       rw[Ai1]
       refine RepOwn.tr hrep (Mem.le.refl G') fun b k hb=>⟨?_,rfl⟩
       unfold Lab.outV
       rw[hb]
       simp only
       rw[if_neg (by omega),if_pos (by omega)]
       simp
     ·subst hi;trivial
  ·exact hq.elim
def wpFV (P:Program) (N:Nat) (s:Stm) (n:Nat) (args:List SV) (R:SV→List SV→Prop):Prop:=
 wpS P s ⟨FinV P N n args R,noEx,FinV P N n args R⟩ (entry N args)
theorem Fn.of_vec {f:FuncId} {fn:Func} {c:Code} {s:Stm} {n:Nat} {args:List SV} {Post:SV→List SV→Prop} {N:Nat} (hf:P.funcs[f]?=some fn) (hb:fn.body=some c) (hN:fn.ntmps=N)
 (hc:chkC P N c s=true) (hr:fn.results= #[.tmp n]) (hn':n<N) (hn:args.length≤N) (h:wpFV P N s n args Post):Fn P f args Post:=by
 subst hN
 exact Fn.of_code hf hb hc hn (Bdf hr hn') h
end

def look:St→Nat→(Nat→SV→Prop)→Prop
 | [],_,_=>False
 |cur::_,0,K=>match cur with
  |(v,sv)=>K v sv
 |_::r,n+1,K=>look r n K
def upK:St→Nat→Nat→SV→(St→Prop)→Prop
 | [],_,_,_,K=>K []
 |_::r,0,v,sv,K=>K ((v,sv)::r)
 |x::r,n+1,v,sv,K=>upK r n v sv fun r'=>K (x::r')
def svK (sv:SV) (K:SV→Prop):Prop:=match sv with
 | .no=>K .no
 | .v x=>K (.v x)
 | .vec e sz l=>K (.vec e sz l)
 | .box t=>K (.box t)
 | .st fs=>K (.st fs)
 | .tup fs=>K (.tup fs)
 | .bor s k ver=>K (.bor s k ver)
 | .sub s k ver n=>K (.sub s k ver n)
 | .suf s k ver n=>K (.suf s k ver n)
 | .bs s ver p lo n=>K (.bs s ver p lo n)
 | .pt s k ver off r=>K (.pt s k ver off r)
 | .rp x=>K (.rp x)
 | .par h=>K (.par h)
 | .own inv t=>K (.own inv t)
 | .pd s ver p=>K (.pd s ver p)
 | .bd s ver p=>K (.bd s ver p)
 | .tupd l=>K (.tupd l)
 | .sit str pos=>K (.sit str pos)
theorem V6 {K:Nat→SV→Prop}:∀{st:St} {n:Nat},look st n K→∃cur,st[n]?=some cur∧K cur.1 cur.2
 | [],_,h=>h.elim
 |(v,sv)::_,0,h=>⟨(v,sv),rfl,h⟩
 |_::r,n+1,h=>V6 (st:=r) (n:=n) h
theorem Aoq {v:Nat} {sv:SV}:∀{st:St} {n:Nat} {K:St→Prop},upK st n v sv K→K (st.set n (v,sv))
 | [],_,_,h=>h
 |_::_,0,_,h=>h
 |_::r,n+1,K,h=>Aoq (st:=r) (n:=n) (K:=fun r'=>K (_::r')) h
theorem Aom {sv:SV} {K:SV→Prop} (h:svK sv K):K sv:=by cases sv<;>exact h
def natK (n:Nat) (K:Nat→Prop):Prop:=match n with
 |0=>K 0
 |m+1=>K (m+1)
theorem Ba7 {n:Nat} {K:Nat→Prop} (h:natK n K):K n:=by cases n<;>exact h
def seeK:List SV→(SV→Prop)→Prop
 | [],_=>False
 | [.no],K=>K .no
 | [.v x],K=>K (.v x)
 | [.vec e sz l],K=>K (.vec e sz l)
 | [.box t],K=>K (.box t)
 | [.st fs],K=>K (.st fs)
 | [.tup fs],K=>K (.tup fs)
 | [.bor s k ver],K=>K (.bor s k ver)
 | [.sub s k ver n],K=>K (.sub s k ver n)
 | [.suf s k ver n],K=>K (.suf s k ver n)
 | [.bs s ver p lo n],K=>K (.bs s ver p lo n)
 | [.pt s k ver off r],K=>K (.pt s k ver off r)
 | [.rp x],K=>K (.rp x)
 | [.par h],K=>K (.par h)
 | [.own inv t],K=>K (.own inv t)
 | [.pd s ver p],K=>K (.pd s ver p)
 | [.bd s ver p],K=>K (.bd s ver p)
 | [.tupd l],K=>K (.tupd l)
 | [.sit str pos],K=>K (.sit str pos)
 |_::y::r,K=>seeK (y::r) K
theorem Bbj {sv:SV} {K:SV→Prop} (h:seeK [sv] K):K sv:=by cases sv<;>exact h
def Aha (x:Nat × SV) (K:Nat→SV→Prop):Prop:=seeK [x.2] fun b=>natK x.1 fun a=>K a b
theorem Aqt {x:Nat × SV} {K:Nat→SV→Prop} (h:Aha x K):K x.1 x.2:=
 Ba7 (K:=fun a=>K a x.2) (Bbj (K:=fun b=>natK x.1 fun a=>K a b) h)
def M.wq (P:Program):M→(St→Prop)→St→Prop
 | .get i k,Q,st=>look st i fun v sv=>(k v sv).wq P Q st
 | .getp i f k,Q,st=>look st i fun v sv=>Aha (f v sv) fun a b=>(k a b).wq P Q st
 | .set i ver sv k,Q,st=>svK sv fun sv=>upK st i ver sv fun st=>k.wq P Q st
 | .done,Q,st=>Q st
 | .chk p,_,st=>p st
 | .fail,_,_=>False
 | .need p k,Q,st=>∃h:p,(k h).wq P Q st
 | .all p k,Q,st=>∀b,p b→(k b).wq P Q st
 | .fact p k,Q,st=>p→k.wq P Q st
 | .ite b x y,Q,st=>(b=true→x.wq P Q st)∧(b=false→y.wq P Q st)
 | .call f args k,Q,st=>CallWp P f args fun r az=>(k r az).wq P Q st
theorem M.wq_wp {P:Program} {Q:St→Prop}:∀{m:M} {st:St},m.wq P Q st→m.wp P Q st:=by
 intro m
 induction m with
 |get i k ih=>
  intro st h
  obtain⟨cur,h1,h2⟩:=V6 h
  simp only[M.wp,h1]
  exact ih _ _ h2
 |getp i f k ih=>
  intro st h
  obtain⟨cur,h1,h2⟩:=V6 h
  simp only[M.wp,h1]
  exact ih _ _ (Aqt h2)
 |set i ver sv k ih=>
  intro st h
  simp only[M.wq]at h
  simp only[M.wp]
  exact ih (Aoq (Aom (K:=fun sv=>upK st i ver sv fun st=>k.wq P Q st) h))
 |done=>intro st h;exact h
 |chk p=>intro st h;exact h
 |fail=>intro st h;exact h
 |need p k ih=>intro st ⟨h1,h2⟩;exact⟨h1,ih _ h2⟩
 |all p k ih=>intro st h b hb;exact ih _ (h b hb)
 |fact p k ih=>intro st h hp;exact ih (h hp)
 |ite b x y ihx ihy=>intro st h;exact⟨fun hb=>ihx (h.1 hb),fun hb=>ihy (h.2 hb)⟩
 |call f args k ih=>intro st ⟨Post,h1,h2⟩;exact⟨Post,h1,fun r az hp=>ih _ _ (h2 r az hp)⟩
def Ao.go (P:Program):Ao→(St→Prop)→St→Prop
 | .op g i,Q,st=>(guarded g i.dst i.sem).wq P Q st
 | .call g d f az,Q,st=>(guarded g d (Aq4 d f az)).wq P Q st
 | .peek g d f az,Q,st=>(guarded g d (Ak9 d f az)).wq P Q st
 | .dyn g d fs x az,Q,st=>(guarded g d (Aq1 d fs x az)).wq P Q st
 | .inl d N f az,Q,st=>InlWp P f N az st fun r st'=>(Aw3 d r).wq P Q st'
theorem Ao.go_run {P:Program} {i:Ao} {Q Q':St→Prop} {st:St} (hQ:∀st,Q st→Q' st) (h:i.go P Q st):i.run P Q' st:=by
 cases i with
 |inl d N f az=>exact InlWp.mono h fun r st' h=>M.wp_mono hQ _ _ (M.wq_wp h)
 |_=>exact M.wp_mono hQ _ _ (M.wq_wp h)
def Ahr (P:Program):List Ao→(St→Prop)→St→Prop
 | [],Q,st=>Q st
 |i::l,Q,st=>i.go P (Ahr P l Q) st
theorem A2k {P:Program} {Q Q':St→Prop} (hQ:∀st,Q st→Q' st):∀{l:List Ao} {st:St},Ahr P l Q st→Aw5 P l Q' st
 | [],st,h=>hQ st h
 |i::l,st,h=>Ao.go_run (fun _ h=>A2k (l:=l) hQ h) h
def M.wz (P:Program):M→(St→List Rd→Log→List Prop→Prop)→St→List Rd→Log→List Prop→Prop
 | .get i k,K,st,R,L,F=>look st i fun v sv=>(k v sv).wz P K st (.all i::R) L F
 | .getp i f k,K,st,R,L,F=>look st i fun v sv=>Aha (f v sv) fun a b=>(k a b).wz P K st ((match(slots L).contains i with|true=>.all i|false=>.prj i f (a,b))::R) L F
 | .set i ver sv k,K,st,R,L,F=>svK sv fun sv=>upK st i ver sv fun st=>k.wz P K st R ((i,(ver,sv))::L) F
 | .done,K,st,R,L,F=>K st R L F
 | .chk _,_,_,_,_,_=>False
 | .fail,_,_,_,_,_=>False
 | .need p k,K,st,R,L,F=>∃h:p,(k h).wz P K st R L F
 | .all _ _,_,_,_,_,_=>False
 | .fact p k,K,st,R,L,F=>k.wz P K st R L (p::F)
 | .ite b x y,K,st,R,L,F=>(b=true→x.wz P K st R L F)∧(b=false→y.wz P K st R L F)
 | .call f args k,K,st,R,L,F=>CallIs P f args fun r az=>(k r az).wz P K st R L F
theorem M.wz_wr {P:Program} {K K':St→List Rd→Log→List Prop→Prop} (hK:∀st R L F,K st R L F→K' st R L F):∀{m:M} {st:St} {R:List Rd} {L:Log} {F:List Prop},m.wz P K st R L F→m.wr P K' st R L F:=by
 intro m
 induction m with
 |get i k ih=>
  intro st R L F h
  obtain⟨cur,h1,h2⟩:=V6 h
  refine⟨by rw[h1];simp,fun cur' h3=>?_⟩
  rw[h1]at h3
  cases h3
  exact ih _ _ h2
 |getp i f k ih=>
  intro st R L F h
  obtain⟨cur,h1,h2⟩:=V6 h
  refine⟨by rw[h1];simp,fun cur' h3=>?_⟩
  rw[h1]at h3
  cases h3
  exact ih _ _ (Aqt h2)
 |set i ver sv k ih=>
  intro st R L F h
  simp only[M.wz]at h
  simp only[M.wr]
  have h1:=Aom (K:=fun sv=>upK st i ver sv fun st=>k.wz P K st R ((i,(ver,sv))::L) F) h
  exact ih (Aoq (K:=fun st=>k.wz P K st R ((i,(ver,sv))::L) F) h1)
 |done=>intro st R L F h;exact hK _ _ _ _ h
 |chk p=>intro st R L F h;exact h
 |fail=>intro st R L F h;exact h
 |need p k ih=>intro st R L F ⟨h1,h2⟩;exact⟨h1,ih _ h2⟩
 |all p k ih=>intro st R L F h;exact h.elim
 |fact p k ih=>intro st R L F h;exact ih (F:=p::F) h
 |ite b x y ihx ihy=>intro st R L F h;exact⟨fun hb=>ihx (h.1 hb),fun hb=>ihy (h.2 hb)⟩
 |call f args k ih=>intro st R L F ⟨r0,as0,h1,h2⟩;exact⟨r0,as0,h1,ih _ _ h2⟩
def Ami (P:Program):List Ao→(List Rec→St→Prop)→List Rec→St→Prop
 | [],K,ds,st=>K ds st
 |i::l,K,ds,st=>i.sem.wz P (fun st' R L F=>Ami P l K (ds++[⟨R,L,F⟩]) st') st [] [] []
theorem Aos {P:Program} {K K':List Rec→St→Prop} (hK:∀ds st,K ds st→K' ds st):∀{l:List Ao} {ds:List Rec} {st:St},Ami P l K ds st→X5 P l K' ds st
 | [],ds,st,h=>hK ds st h
 |i::l,ds,st,h=>M.wz_wr (fun _ _ _ _ h=>Aos (l:=l) hK h) h
def litK:St→(St→Prop)→Prop
 | [],K=>K []
 |x::r,K=>litK r fun r'=>match x with
  |(v,sv)=>svK sv fun sv=>K ((v,sv)::r')
theorem P2:∀{st:St} {K:St→Prop},litK st K→K st
 | [],_,h=>h
 |(v,sv)::r,K,h=>by
  have:=P2 (st:=r) (K:=fun r'=>svK sv fun sv=>K ((v,sv)::r')) h
  exact Aom (K:=fun sv=>K ((v,sv)::r)) this
structure Round {X:Type} (ks:List Nat) (J:X→St) (R:X→Prop) (μ:X→Nat) (x:X) (st:St):Prop where
 out:∃x',norm ks st=J x'∧R x'∧μ x'<μ x
structure LoopWq (ks:List Nat) (body:(St→Prop)→St→Prop) (st:St):Prop where
 out:∃(X:Type) (J:X→St) (R:X→Prop) (μ:X→Nat),(∃x,norm ks st=J x∧R x)∧∀x,R x→litK (J x) (body (Round ks J R μ x))
def upd:St→List (Nat × SV)→St
 |st,[]=>st
 |st,(n,sv)::r=>upd (st.set n (0,sv)) r
theorem LoopWq.by {X:Type} {ks:List Nat} {body:(St→Prop)→St→Prop} {st:St} (vals:X→List (Nat × SV)) (R:X→Prop) (μ:X→Nat) (x0:X)
 (h0:norm ks st=upd (norm ks st) (vals x0)) (hR:R x0) (h:∀x,R x→litK (upd (norm ks st) (vals x)) (body (Round ks (fun x=>upd (norm ks st) (vals x)) R μ x))):LoopWq ks body st:=
 ⟨X,fun x=>upd (norm ks st) (vals x),R,μ,⟨x0,h0,hR⟩,h⟩
theorem Round.by {X:Type} {ks:List Nat} {J:X→St} {R:X→Prop} {μ:X→Nat} {x:X} {st:St} (x':X) (h1:norm ks st=J x') (h2:R x') (h3:μ x'<μ x):Round ks J R μ x st:=⟨x',h1,h2,h3⟩
def wqS (P:Program):Stm→Post→St→Prop
 | .skip,Q,st=>Q.nrm st
 | .ops l,Q,st=>Ahr P l Q.nrm st
 | .drw es l,Q,st=>Ami P l (Drawn es Q.nrm) [] st
 | .drwL es _ l x,Q,st=>Ami P l (Drawn es (x.go P Q.nrm)) [] st
 | .seq a b,Q,st=>wqS P a ⟨wqS P b Q,Q.ex,Q.ret⟩ st
 | .cond c a b,Q,st=>(rdB' c fun t=>.ite t (.chk (wqS P a Q)) (.chk (wqS P b Q))).wq P (fun _=>False) st
 | .block id a,Q,st=>wqS P a ⟨Q.nrm,brk id Q,Q.ret⟩ st
 | .loop ks a,Q,st=>LoopWq ks (fun K=>wqS P a ⟨K,Q.ex,Q.ret⟩) st
 | .exit id,Q,st=>Q.ex id st
 | .ret,Q,st=>Q.ret st
theorem Art {P:Program}:∀{s:Stm} {Q Q':Post} {st:St},(∀st,Q.nrm st→Q'.nrm st)→(∀i st,Q.ex i st→Q'.ex i st)→(∀st,Q.ret st→Q'.ret st)→wqS P s Q st→wpS P s Q' st:=by
 intro s
 induction s with
 |skip=>intro Q Q' st h1 h2 h3 h;exact h1 _ h
 |ops l=>intro Q Q' st h1 h2 h3 h;exact A2k h1 h
 |drw es l=>intro Q Q' st h1 h2 h3 h;exact Aos (fun _ _ h=>⟨h.ok,h.fits,fun hf=>h1 _ (h.go hf)⟩) h
 |drwL es el l x=>intro Q Q' st h1 h2 h3 h;exact Aos (fun _ _ h=>⟨h.ok,h.fits,fun hf=>Ao.go_run h1 (h.go hf)⟩) h
 |seq a b iha ihb=>intro Q Q' st h1 h2 h3 h;exact iha (Q:=⟨wqS P b Q,Q.ex,Q.ret⟩) (Q':=⟨wpS P b Q',Q'.ex,Q'.ret⟩) (fun st h=>ihb h1 h2 h3 h) h2 h3 h
 |cond c a b iha ihb=>
  intro Q Q' st h1 h2 h3 h
  have h:=M.wq_wp h
  unfold wpS
  have aux:∀(t:Bool),(M.ite t (.chk (wqS P a Q)) (.chk (wqS P b Q))).wp P (fun _=>False) st→(M.ite t (.chk (wpS P a Q')) (.chk (wpS P b Q'))).wp P (fun _=>False) st:=by
   intro t ⟨g1,g2⟩
   exact⟨fun hb=>iha h1 h2 h3 (g1 hb),fun hb=>ihb h1 h2 h3 (g2 hb)⟩
  unfold rdB' at h ⊢
  obtain⟨i,g1,g2⟩:=A0o h
  have g3:(match i with| .bool t=>M.ite t (.chk (wpS P a Q')) (.chk (wpS P b Q'))|_=>.fail).wp P (fun _=>False) st:=by
   split at g1
   ·exact aux _ g1
   ·exact g1.elim
  rcases g2 with⟨n,ver,rfl,hn⟩|rfl|⟨e,sz,rfl,rfl⟩
  ·simp only[Gx,M.wp,hn];exact g3
  ·exact g3
  ·exact g3
 |block id a ih=>
  intro Q Q' st h1 h2 h3 h
  refine ih (Q:=⟨Q.nrm,brk id Q,Q.ret⟩) (Q':=⟨Q'.nrm,brk id Q',Q'.ret⟩) h1 ?_ h3 h
  intro i st h
  simp only[brk]at h ⊢
  split
  ·rename_i hi;rw[if_pos hi]at h;exact h1 _ h
  ·rename_i hi;rw[if_neg hi]at h;exact h2 _ _ h
 |loop ks a ih=>
  intro Q Q' st h1 h2 h3 ⟨X,J,R,μ,h4,h5⟩
  exact⟨X,J,R,μ,h4,fun x hx=>ih (Q:=⟨Round ks J R μ x,Q.ex,Q.ret⟩) (Q':=⟨A4d ks J R μ x,Q'.ex,Q'.ret⟩) (fun _ h=>h.out) h2 h3 (P2 (K:=wqS P a ⟨Round ks J R μ x,Q.ex,Q.ret⟩) (h5 x hx))⟩
 |exit id=>intro Q Q' st h1 h2 h3 h;exact h2 _ _ h
 |ret=>intro Q Q' st h1 h2 h3 h;exact h3 _ h
def Fin' (P:Program) (N:Nat) (rs:List Ret) (args:List SV) (R:SV→List SV→Prop) (st:St):Prop:=
 (retI rs fun us=>.chk fun st'=>Done (R (Xw us) (D8 N st' 0 args)) (D8 N st' 0 args)).wq P (fun _=>False) st
def wqF (P:Program) (N:Nat) (s:Stm) (rs:List Ret) (args:List SV) (R:SV→List SV→Prop):Prop:=
 litK (entry N args) fun st=>wqS P s ⟨Fin' P N rs args R,noEx,Fin' P N rs args R⟩ st
theorem Bkh {P:Program} {N:Nat} {s:Stm} {rs:List Ret} {args:List SV} {R:SV→List SV→Prop} (h:wqF P N s rs args R):wpF P N s rs args R:=
 Art (Q:=⟨Fin' P N rs args R,noEx,Fin' P N rs args R⟩) (Q':=⟨Fin P N rs args R,noEx,Fin P N rs args R⟩) (fun _ h=>M.wq_wp h) (fun _ _ h=>h) (fun _ h=>M.wq_wp h)
  (P2 (K:=fun st=>wqS P s ⟨Fin' P N rs args R,noEx,Fin' P N rs args R⟩ st) h)
def Akt (P:Program) (N n:Nat) (args:List SV) (R:SV→List SV→Prop) (st:St):Prop:=
 (M.get n fun _ sv=>match sv with
   | .vec e sz l=>.chk fun st'=>Done (R (.vec e sz l) (D8 N st' 0 args)) (D8 N st' 0 args)
   |_=>.fail).wq P (fun _=>False) st
def wqFV (P:Program) (N:Nat) (s:Stm) (n:Nat) (args:List SV) (R:SV→List SV→Prop):Prop:=
 litK (entry N args) fun st=>wqS P s ⟨Akt P N n args R,noEx,Akt P N n args R⟩ st
theorem Bhn {P:Program} {N:Nat} {s:Stm} {n:Nat} {args:List SV} {R:SV→List SV→Prop} (h:wqFV P N s n args R):wpFV P N s n args R:=
 Art (Q:=⟨Akt P N n args R,noEx,Akt P N n args R⟩) (Q':=⟨FinV P N n args R,noEx,FinV P N n args R⟩) (fun _ h=>M.wq_wp h) (fun _ _ h=>h) (fun _ h=>M.wq_wp h)
  (P2 (K:=fun st=>wqS P s ⟨Akt P N n args R,noEx,Akt P N n args R⟩ st) h)

theorem Cf {n:Int} (h: -9223372036854775808≤n∧n≤9223372036854775807):IntKind.i64.wrap n=n:=by rw[IntKind.wrap_i64];omega
theorem Ak {k n:Nat} (h:k<n) (hn:n≤maxLen):IntKind.i64.wrap ((k:Int)+1)=((k+1:Nat):Int):=by
 simp only[maxLen]at hn
 rw[Cf (by omega)]
 rfl
theorem SV.bool_congr {a b:Bool} (h:a=b):SV.v (.bool a)=SV.v (.bool b):=congrArg (fun b=>SV.v (.bool b)) h
theorem B8 {l:List I} {sz:Nat} (h:(l.all fun u=>u.size==sz)=true):∀u∈l,u.size=sz:=by
 intro u hu
 simpa using List.all_eq_true.1 h u hu
end Go.Ab
