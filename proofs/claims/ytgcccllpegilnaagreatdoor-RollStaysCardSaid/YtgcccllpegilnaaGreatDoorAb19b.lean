/- Lemmas -/
import Derived.Test.YtgcccllpegilnaaGreatDoorAb21
import Derived.Sort.Walk0
set_option linter.unusedVariables false
set_option linter.unusedSimpArgs false
namespace Go.Ab
abbrev Ai:=List UInt8
theorem G5 (a b:Ai):Op.bytesLess a b=decide (a<b):=Go.Proofs.bytesLess_eq a b
theorem nil_le (a:Ai):[]≤a:=List.nil_le a
structure Sp where
 f:Ai
 t:Ai
 deriving DecidableEq
def Sp.toI (s:Sp):I:=.agg [.str s.f,.str s.t]
def Dk (s:Sp):Prop:=s.f.length≤65∧s.t.length≤65∧(s.t=[]∨s.f<s.t)
instance (s:Sp):Decidable (Dk s):=by unfold Dk;infer_instance
def SpH (s:Sp) (k:Ai):Prop:=s.f≤k∧(s.t=[]∨k<s.t)
instance (s:Sp) (k:Ai):Decidable (SpH s k):=by unfold SpH;infer_instance
def AnyH (l:List Sp) (k:Ai):Prop:=∃s∈l,Dk s∧SpH s k
def Keys (u:List Sp) (k:Ai):Prop:=∃s∈u,SpH s k
def Sane (s:Sp):Prop:=s.t=[]∨s.f<s.t
def Canon (l:List Sp):Prop:=(∀x∈l,Sane x)∧l.Pairwise fun x y=>x.t≠[]∧x.t<y.f
theorem Sane.has {s:Sp} (h:Sane s):SpH s s.f:=⟨Std.le_refl _,h⟩
theorem Canon.tail {s:Sp} {r:List Sp} (h:Canon (s::r)):Canon r:=⟨fun x hx=>h.1 x (List.mem_cons_of_mem _ hx),(List.pairwise_cons.1 h.2).2⟩
theorem Canon.gap {s:Sp} {r:List Sp} (h:Canon (s::r)):∀x∈r,s.t≠[]∧s.t<x.f:=(List.pairwise_cons.1 h.2).1
theorem Canon.sane {s:Sp} {r:List Sp} (h:Canon (s::r)):Sane s:=h.1 s (List.mem_cons_self ..)
theorem Canon.low {s:Sp} {r:List Sp} (h:Canon (s::r)) {k:Ai} (hk:Keys (s::r) k):s.f≤k:=by
 obtain⟨x,hx,hk⟩:=hk
 rcases List.mem_cons.1 hx with rfl|hx
 ·exact hk.1
 ·have h1:=h.gap x hx
  have h2:=h.sane
  have h3:=hk.1
  unfold Sane at h2
  grind
theorem Canon.key {s:Sp} {r:List Sp} (h:Canon (s::r)):Keys (s::r) s.f:=⟨s,List.mem_cons_self ..,h.sane.has⟩
theorem Canon.end {s:Sp} {r:List Sp} (h:Canon (s::r)) (ht:s.t≠[]):¬Keys (s::r) s.t:=by
 rintro⟨x,hx,hk⟩
 rcases List.mem_cons.1 hx with rfl|hx
 ·have:=hk.2
  grind
 ·have h1:=h.gap x hx
  have h2:=hk.1
  grind
theorem Canon.in_tail {s:Sp} {r:List Sp} (h:Canon (s::r)) {k:Ai}:Keys r k↔Keys (s::r) k∧¬SpH s k:=by
 constructor
 ·rintro⟨x,hx,hk⟩
  refine⟨⟨x,List.mem_cons_of_mem _ hx,hk⟩,fun hs=>?_⟩
  have h1:=h.gap x hx
  have h2:=hk.1
  have h3:=hs.2
  grind
 ·rintro⟨⟨x,hx,hk⟩,hn⟩
  rcases List.mem_cons.1 hx with rfl|hx
  ·exact absurd hk hn
  ·exact⟨x,hx,hk⟩
theorem Yk:∀{u v:List Sp},Canon u→Canon v→(∀k,Keys u k↔Keys v k)→u=v
 | [],[],_,_,_=>rfl
 | [],s::r,_,hv,h=>by
   have:=(h s.f).2 hv.key
   obtain⟨x,hx,_⟩:=this
   simp at hx
 |s::r,[],hu,_,h=>by
  have:=(h s.f).1 hu.key
  obtain⟨x,hx,_⟩:=this
  simp at hx
 |s::r,s'::r',hu,hv,h=>by
  have hf:s.f=s'.f:=by
   have h1:=hv.low ((h _).1 hu.key)
   have h2:=hu.low ((h _).2 hv.key)
   grind
  have hs:=hu.sane
  have hs':=hv.sane
  unfold Sane at hs hs'
  have ht:s.t=s'.t:=by
   by_cases h1:s.t=[]
   ·by_cases h2:s'.t=[]
    ·rw[h1,h2]
    ·refine absurd ((h s'.t).1 ⟨s,List.mem_cons_self ..,?_,.inl h1⟩) (hv.end h2)
     grind
   ·by_cases h2:s'.t=[]
    ·refine absurd ((h s.t).2 ⟨s',List.mem_cons_self ..,?_,.inl h2⟩) (hu.end h1)
     grind
    ·by_cases h3:s.t<s'.t
     ·refine absurd ((h s.t).2 ⟨s',List.mem_cons_self ..,?_,.inr h3⟩) (hu.end h1)
      grind
     ·by_cases h4:s'.t<s.t
      ·refine absurd ((h s'.t).1 ⟨s,List.mem_cons_self ..,?_,.inr h4⟩) (hv.end h2)
       grind
      ·grind
  have hss:s=s':=by
   cases s;cases s'
   simp only[Sp.mk.injEq]
   exact⟨hf,ht⟩
  subst hss
  rw[Yk hu.tail hv.tail fun k=>by rw[hu.in_tail,hv.in_tail,h k]]
def Gr (a b:Ai):Prop:=a≠b∧(a=[]∨(b≠[]∧b<a))
instance (a b:Ai):Decidable (Gr a b):=by unfold Gr;infer_instance
def T5 (out:List Sp) (s:Sp):List Sp:=match out.getLast? with
 |none=>out++[s]
 |some l=>if l.t≠[]∧l.t<s.f then out++[s]else if Gr s.t l.t then out.set (out.length - 1) ⟨l.f,s.t⟩else out
theorem Bcu (s:Sp):T5 [] s=[s]:=rfl
theorem Akq (o:List Sp) (l s:Sp):T5 (o++[l]) s=if l.t≠[]∧l.t<s.f then o++[l]++[s]else if Gr s.t l.t then o++[⟨l.f,s.t⟩]else o++[l]:=by
 unfold T5
 simp
structure UInv (d u:List Sp):Prop where
 canon:Canon u
 keys:∀k,Keys u k↔Keys d k
 ends:∀x∈u,(∃s∈d,x.f=s.f)∧∃s∈d,x.t=s.t
 some:d≠[]→u≠[]
theorem Bct {d u:List Sp} {s:Sp} (h:UInv d u) (hs:Sane s) (hle:∀x∈d,x.f≤s.f):UInv (d++[s]) (T5 u s):=by
 have dup:∀x∈u,((∃y∈d++[s],x.f=y.f)∧∃y∈d++[s],x.t=y.t):=fun x hx=>by
  obtain⟨⟨y,hy,e1⟩,⟨z,hz,e2⟩⟩:=h.ends x hx
  exact⟨⟨y,List.mem_append_left _ hy,e1⟩,⟨z,List.mem_append_left _ hz,e2⟩⟩
 have hsm:s∈d++[s]:=by simp
 have kd:∀k,Keys (d++[s]) k↔Keys u k∨SpH s k:=fun k=>by
  rw[h.keys k]
  unfold Keys
  constructor
  ·rintro⟨x,hx,hk⟩
   rcases List.mem_append.1 hx with hx|hx
   ·exact .inl ⟨x,hx,hk⟩
   ·rw[List.mem_singleton.1 hx]at hk;exact .inr hk
  ·rintro(⟨x,hx,hk⟩|hk)
   ·exact⟨x,List.mem_append_left _ hx,hk⟩
   ·exact⟨s,hsm,hk⟩
 rcases List.eq_nil_or_concat u with rfl|⟨o,l,he⟩
 ·rw[Bcu]
  refine⟨⟨by simpa using hs,by simp⟩,fun k=>?_,?_,by simp⟩
  ·rw[kd]
   simp[Keys]
  ·intro x hx
   rw[List.mem_singleton.1 hx]
   exact⟨⟨s,hsm,rfl⟩,⟨s,hsm,rfl⟩⟩
 ·rw[List.concat_eq_append]at he
  subst he
  obtain⟨⟨c1,c2⟩,k1,k2,k3⟩:=h
  have hl:Sane l:=c1 l (by simp)
  have hlf:l.f≤s.f:=by
   obtain⟨⟨y,hy,e⟩,_⟩:=k2 l (by simp)
   rw[e]
   exact hle y hy
  have hp:=List.pairwise_append.1 c2
  have hol:∀x∈o,x.t≠[]∧x.t<l.f:=fun x hx=>hp.2.2 x hx l (by simp)
  have ko:∀(y:Sp) (k:Ai),Keys (o++[y]) k↔Keys o k∨SpH y k:=fun y k=>by
   unfold Keys
   simp only[List.mem_append,List.mem_singleton]
   constructor
   ·rintro⟨x,hx|rfl,hk⟩
    ·exact .inl ⟨x,hx,hk⟩
    ·exact .inr hk
   ·rintro(⟨x,hx,hk⟩|hk)
    ·exact⟨x,.inl hx,hk⟩
    ·exact⟨y,.inr rfl,hk⟩
  unfold Sane at hs hl
  rw[Akq]
  split
  ·rename_i hc
   refine⟨⟨?_,?_⟩,fun k=>?_,?_,by simp⟩
   ·intro x hx
    rcases List.mem_append.1 hx with hx|hx
    ·exact c1 x hx
    ·rw[List.mem_singleton.1 hx];exact hs
   ·refine List.pairwise_append.2 ⟨c2,by simp,?_⟩
    intro x hx y hy
    rw[List.mem_singleton.1 hy]
    rcases List.mem_append.1 hx with hx|hx
    ·have:=hol x hx
     refine⟨this.1,?_⟩
     grind
    ·rw[List.mem_singleton.1 hx];exact hc
   ·rw[kd]
    unfold Keys
    simp only[List.mem_append,List.mem_singleton]
    constructor
    ·rintro⟨x,hx|rfl,hk⟩
     ·exact .inl ⟨x,hx,hk⟩
     ·exact .inr hk
    ·rintro(⟨x,hx,hk⟩|hk)
     ·exact⟨x,.inl hx,hk⟩
     ·exact⟨s,.inr rfl,hk⟩
   ·intro x hx
    rcases List.mem_append.1 hx with hx|hx
    ·exact dup x hx
    ·rw[List.mem_singleton.1 hx];exact⟨⟨s,hsm,rfl⟩,⟨s,hsm,rfl⟩⟩
  ·rename_i hc
   split
   ·rename_i hg
    unfold Gr at hg
    have hlt:l.t≠[]:=by
     intro e
     rw[e]at hg
     rcases hg.2 with h|h
     ·exact hg.1 h
     ·exact h.1 rfl
    refine⟨⟨?_,?_⟩,fun k=>?_,?_,by simp⟩
    ·intro x hx
     rcases List.mem_append.1 hx with hx|hx
     ·exact c1 x (List.mem_append_left _ hx)
     ·rw[List.mem_singleton.1 hx]
      unfold Sane
      dsimp only
      grind
    ·refine List.pairwise_append.2 ⟨hp.1,by simp,?_⟩
     intro x hx y hy
     rw[List.mem_singleton.1 hy]
     exact hol x hx
    ·rw[kd,ko,ko]
     unfold SpH
     dsimp only
     grind
    ·intro x hx
     rcases List.mem_append.1 hx with hx|hx
     ·exact dup x (List.mem_append_left _ hx)
     ·rw[List.mem_singleton.1 hx]
      obtain⟨⟨y,hy,e⟩,_⟩:=dup l (by simp)
      exact⟨⟨y,hy,e⟩,⟨s,hsm,rfl⟩⟩
   ·rename_i hg
    refine⟨⟨c1,c2⟩,fun k=>?_,dup,by simp⟩
    rw[kd,ko]
    unfold Gr at hg
    unfold SpH
    grind
theorem Avf:∀{r d u:List Sp},UInv d u→(∀s∈r,Sane s)→(d++r).Pairwise (fun x y=>x.f≤y.f)→UInv (d++r) (r.foldl T5 u)
 | [],d,u,h,_,_=>by simpa using h
 |s::r,d,u,h,hs,hp=>by
  have h1:=Bct h (hs s (List.mem_cons_self ..)) fun x hx=>(List.pairwise_append.1 hp).2.2 x hx s (List.mem_cons_self ..)
  have:=Avf (r:=r) h1 (fun x hx=>hs x (List.mem_cons_of_mem _ hx)) (by simpa using hp)
  simpa using this
def S2 (p:List Sp):List Sp:=p.foldl T5 []
theorem Anb {p:List Sp} (hs:∀s∈p,Sane s) (hp:p.Pairwise fun x y=>x.f≤y.f):UInv p (S2 p):=by
 have h0:UInv [] []:=⟨⟨by simp,by simp⟩,fun k=>Iff.rfl,by simp,by simp⟩
 exact Avf (d:=[]) (r:=p) h0 hs (by simpa using hp)
def uni (l:List Sp):List Sp:=S2 ((l.filter fun s=>decide (Dk s)).mergeSort fun x y=>decide (x.f≤y.f))
theorem Atm (l:List Sp):UInv (l.filter fun s=>decide (Dk s)) (uni l):=by
 have hperm:=List.mergeSort_perm (l.filter fun s=>decide (Dk s)) fun x y=>decide (x.f≤y.f)
 have hs:∀s∈(l.filter fun s=>decide (Dk s)).mergeSort fun x y=>decide (x.f≤y.f),Sane s:=fun s hs=>by
  have:=(List.mem_filter.1 (hperm.mem_iff.1 hs)).2
  exact(of_decide_eq_true this).2.2
 have hp:((l.filter fun s=>decide (Dk s)).mergeSort fun x y=>decide (x.f≤y.f)).Pairwise fun x y=>x.f≤y.f:=by
  have:=List.pairwise_mergeSort (le:=fun x y:Sp=>decide (x.f≤y.f)) (fun a b c h1 h2=>by simp at*;grind) (fun a b=>by simp;grind) (l.filter fun s=>decide (Dk s))
  exact this.imp fun h=>by simpa using h
 have h:=Anb hs hp
 refine⟨h.canon,fun k=>?_,fun x hx=>?_,fun hne=>h.some fun e=>hne ?_⟩
 ·rw[show Keys (uni l) k↔_ from h.keys k]
  unfold Keys
  constructor<;>rintro⟨s,hs,hk⟩
  ·exact⟨s,hperm.mem_iff.1 hs,hk⟩
  ·exact⟨s,hperm.mem_iff.2 hs,hk⟩
 ·obtain⟨⟨y,hy,e1⟩,⟨z,hz,e2⟩⟩:=h.ends x hx
  exact⟨⟨y,hperm.mem_iff.1 hy,e1⟩,⟨z,hperm.mem_iff.1 hz,e2⟩⟩
 ·rw[e]at hperm
  exact List.nil_perm.1 hperm
theorem keys_filter {l:List Sp} {k:Ai}:Keys (l.filter fun s=>decide (Dk s)) k↔AnyH l k:=by
 unfold Keys AnyH
 constructor
 ·rintro⟨s,hs,hk⟩
  obtain⟨h1,h2⟩:=List.mem_filter.1 hs
  exact⟨s,h1,of_decide_eq_true h2,hk⟩
 ·rintro⟨s,hs,hr,hk⟩
  exact⟨s,List.mem_filter.2 ⟨hs,decide_eq_true hr⟩,hk⟩
theorem Aop (l:List Sp) (k:Ai):Keys (uni l) k↔AnyH l k:=by rw[(Atm l).keys,keys_filter]
theorem Qf (l:List Sp):Canon (uni l):=(Atm l).canon
theorem Bcv {l p:List Sp} (hperm:p.Perm (l.filter fun s=>decide (Dk s))) (hp:p.Pairwise fun x y=>x.f≤y.f):S2 p=uni l:=by
 have hs:∀s∈p,Sane s:=fun s hs=>(of_decide_eq_true (List.mem_filter.1 (hperm.mem_iff.1 hs)).2).2.2
 have h:=Anb hs hp
 refine Yk h.canon (Qf l) fun k=>?_
 rw[h.keys,Aop, ←keys_filter]
 unfold Keys
 constructor<;>rintro⟨s,hs,hk⟩
 ·exact⟨s,hperm.mem_iff.1 hs,hk⟩
 ·exact⟨s,hperm.mem_iff.2 hs,hk⟩

def runL {α S R:Type} (step:S→α→S ⊕ R) (fin:S→R):List α→S→R
 | [],s=>fin s
 |a::r,s=>match step s a with
  | .inl s'=>runL step fin r s'
  | .inr x=>x
def aft {α S R:Type} (step:S→α→S ⊕ R) (fin:S→R) (r:List α):S ⊕ R→R
 | .inl s'=>runL step fin r s'
 | .inr x=>x
theorem Kh {α S R:Type} {step:S→α→S ⊕ R} {fin:S→R} {a:α} {r:List α} {s:S}:runL step fin (a::r) s=aft step fin r (step s a):=by
 unfold aft;rw[runL]
structure RoundE {α S R:Type} (ks:List Nat) (st0:St) (l:List α) (step:S→α→S ⊕ R) (fin:S→R) (Ans:R) (vals:Nat→S→List (Nat × SV)) (inv:Nat→S→Prop) (k:Nat) (st:St):Prop where
 out:∃s',norm ks st=upd st0 (vals (k+1) s')∧inv (k+1) s'∧runL step fin (l.drop (k+1)) s'=Ans
theorem RoundE.by {α S R:Type} {ks:List Nat} {st0:St} {l:List α} {step:S→α→S ⊕ R} {fin:S→R} {Ans:R} {vals:Nat→S→List (Nat × SV)} {inv:Nat→S→Prop} {k:Nat} {st:St}
 (s':S) (h1:norm ks st=upd st0 (vals (k+1) s')) (h2:inv (k+1) s') (h3:runL step fin (l.drop (k+1)) s'=Ans):RoundE ks st0 l step fin Ans vals inv k st:=⟨s',h1,h2,h3⟩
theorem Aqs {x:Nat × SV} {K K':Nat→SV→Prop} (hK:∀a b,K a b→K' a b) (h:Aha x K):Aha x K':=by
 obtain⟨a,b⟩:=x
 cases a<;>cases b<;>exact hK _ _ h
theorem A2m {P:Program}:∀{s:Stm} {Q Q':Post} {st:St},(∀st,Q.nrm st→Q'.nrm st)→(∀i st,Q.ex i st→Q'.ex i st)→(∀st,Q.ret st→Q'.ret st)→wqS P s Q st→wqS P s Q' st:=by
 have mono:∀{m:M} {Q Q':St→Prop} (_:∀st,Q st→Q' st) {st:St},m.wq P Q st→m.wq P Q' st:=by
  intro m Q Q' hQ
  induction m with
  |get i k ih=>
   intro st h
   simp only[M.wq]at h ⊢
   have:∀{st0:St} {n:Nat} {K K':Nat→SV→Prop},(∀v sv,K v sv→K' v sv)→look st0 n K→look st0 n K':=by
    intro st0
    induction st0 with
    |nil=>intro n K K' _ h;exact h.elim
    |cons c r ih2=>
     intro n K K' hK h
     obtain⟨v,sv⟩:=c
     cases n with
     |zero=>exact hK _ _ h
     |succ n=>exact ih2 hK h
   exact this (fun v sv h=>ih _ _ h) h
  |getp i f k ih=>
   intro st h
   simp only[M.wq]at h ⊢
   have:∀{st0:St} {n:Nat} {K K':Nat→SV→Prop},(∀v sv,K v sv→K' v sv)→look st0 n K→look st0 n K':=by
    intro st0
    induction st0 with
    |nil=>intro n K K' _ h;exact h.elim
    |cons c r ih2=>
     intro n K K' hK h
     obtain⟨v,sv⟩:=c
     cases n with
     |zero=>exact hK _ _ h
     |succ n=>exact ih2 hK h
   exact this (fun v sv h=>Aqs (fun a b h=>ih _ _ h) h) h
  |set i ver sv k ih=>
   intro st h
   simp only[M.wq]at h ⊢
   have up:∀{st0:St} {n v:Nat} {x:SV} {K K':St→Prop},(∀st,K st→K' st)→upK st0 n v x K→upK st0 n v x K':=by
    intro st0
    induction st0 with
    |nil=>intro n v x K K' hK h;exact hK _ h
    |cons c r ih2=>
     intro n v x K K' hK h
     cases n with
     |zero=>exact hK _ h
     |succ n=>exact ih2 (fun st h=>hK _ h) h
   cases sv<;>exact up (fun st h=>ih h) h
  |done=>intro st h;exact hQ _ h
  |chk p=>intro st h;exact h
  |fail=>intro st h;exact h
  |need p k ih=>intro st ⟨h1,h2⟩;exact⟨h1,ih _ h2⟩
  |all p k ih=>intro st h b hb;exact ih _ (h b hb)
  |fact p k ih=>intro st h hp;exact ih (h hp)
  |ite b x y ihx ihy=>intro st h;exact⟨fun hb=>ihx (h.1 hb),fun hb=>ihy (h.2 hb)⟩
  |call f args k ih=>intro st ⟨Post,h1,h2⟩;exact⟨Post,h1,fun r as1 hp=>ih _ _ (h2 r as1 hp)⟩
 have monoL:∀{l:List Ao} {Q Q':St→Prop} (_:∀st,Q st→Q' st) {st:St},Ahr P l Q st→Ahr P l Q' st:=by
  intro l Q Q' hQ
  induction l with
  |nil=>intro st h;exact hQ _ h
  |cons i l ih=>
   intro st h
   show i.go P (Ahr P l Q') st
   have h:i.go P (Ahr P l Q) st:=h
   cases i with
   |inl d N f as1=>exact InlWp.mono h fun r st' h=>mono (fun st h=>ih h) h
   |_=>exact mono (fun st h=>ih h) h
 have monoZ:∀{m:M} {K K':St→List Rd→Log→List Prop→Prop} (_:∀st R L F,K st R L F→K' st R L F) {st:St} {R:List Rd} {L:Log} {F:List Prop},m.wz P K st R L F→m.wz P K' st R L F:=by
  intro m K K' hK
  induction m with
  |get i k ih=>
   intro st R L F h
   simp only[M.wz]at h ⊢
   have:∀{st0:St} {n:Nat} {K K':Nat→SV→Prop},(∀v sv,K v sv→K' v sv)→look st0 n K→look st0 n K':=by
    intro st0
    induction st0 with
    |nil=>intro n K K' _ h;exact h.elim
    |cons c r ih2=>
     intro n K K' hK h
     obtain⟨v,sv⟩:=c
     cases n with
     |zero=>exact hK _ _ h
     |succ n=>exact ih2 hK h
   exact this (fun v sv h=>ih _ _ h) h
  |getp i f k ih=>
   intro st R L F h
   simp only[M.wz]at h ⊢
   have:∀{st0:St} {n:Nat} {K K':Nat→SV→Prop},(∀v sv,K v sv→K' v sv)→look st0 n K→look st0 n K':=by
    intro st0
    induction st0 with
    |nil=>intro n K K' _ h;exact h.elim
    |cons c r ih2=>
     intro n K K' hK h
     obtain⟨v,sv⟩:=c
     cases n with
     |zero=>exact hK _ _ h
     |succ n=>exact ih2 hK h
   exact this (fun v sv h=>Aqs (fun a b h=>ih _ _ h) h) h
  |set i ver sv k ih=>
   intro st R L F h
   simp only[M.wz]at h ⊢
   have up:∀{st0:St} {n v:Nat} {x:SV} {K K':St→Prop},(∀st,K st→K' st)→upK st0 n v x K→upK st0 n v x K':=by
    intro st0
    induction st0 with
    |nil=>intro n v x K K' hK h;exact hK _ h
    |cons c r ih2=>
     intro n v x K K' hK h
     cases n with
     |zero=>exact hK _ h
     |succ n=>exact ih2 (fun st h=>hK _ h) h
   cases sv<;>exact up (fun st h=>ih h) h
  |done=>intro st R L F h;exact hK _ _ _ _ h
  |chk p=>intro st R L F h;exact h
  |fail=>intro st R L F h;exact h
  |need p k ih=>intro st R L F ⟨h1,h2⟩;exact⟨h1,ih _ h2⟩
  |all p k ih=>intro st R L F h;exact h
  |fact p k ih=>intro st R L F h;exact ih (F:=p::F) h
  |ite b x y ihx ihy=>intro st R L F h;exact⟨fun hb=>ihx (h.1 hb),fun hb=>ihy (h.2 hb)⟩
  |call f args k ih=>intro st R L F ⟨r0,as0,h1,h2⟩;exact⟨r0,as0,h1,ih _ _ h2⟩
 have monoZL:∀{l:List Ao} {K K':List Rec→St→Prop} (_:∀ds st,K ds st→K' ds st) {ds:List Rec} {st:St},Ami P l K ds st→Ami P l K' ds st:=by
  intro l K K' hK
  induction l with
  |nil=>intro ds st h;exact hK _ _ h
  |cons i l ih=>intro ds st h;exact monoZ (fun _ _ _ _ h=>ih h) h
 intro s
 induction s with
 |skip=>intro Q Q' st h1 h2 h3 h;exact h1 _ h
 |ops l=>intro Q Q' st h1 h2 h3 h;exact monoL h1 h
 |drw es l=>intro Q Q' st h1 h2 h3 h;exact monoZL (fun _ _ h=>⟨h.ok,h.fits,fun hf=>h1 _ (h.go hf)⟩) h
 |drwL es el l x=>
  intro Q Q' st h1 h2 h3 h
  refine monoZL (fun _ _ h=>⟨h.ok,h.fits,fun hf=>?_⟩) h
  have h4:=h.go hf
  cases x with
  |inl d N f as1=>exact InlWp.mono h4 fun r st' h=>mono h1 h
  |_=>exact mono h1 h4
 |seq a b iha ihb=>intro Q Q' st h1 h2 h3 h;exact iha (Q:=⟨wqS P b Q,Q.ex,Q.ret⟩) (Q':=⟨wqS P b Q',Q'.ex,Q'.ret⟩) (fun st h=>ihb h1 h2 h3 h) h2 h3 h
 |cond c a b iha ihb=>
  intro Q Q' st h1 h2 h3 h
  unfold wqS at h ⊢
  have aux:∀(i:I),(match i with| .bool t=>M.ite t (.chk (wqS P a Q)) (.chk (wqS P b Q))|_=>.fail).wq P (fun _=>False) st→(match i with| .bool t=>M.ite t (.chk (wqS P a Q')) (.chk (wqS P b Q'))|_=>.fail).wq P (fun _=>False) st:=by
   intro i h
   split at h
   ·exact⟨fun hb=>iha h1 h2 h3 (h.1 hb),fun hb=>ihb h1 h2 h3 (h.2 hb)⟩
   ·exact h.elim
  unfold rdB' at h ⊢
  cases c with
  |c x=>exact aux x h
  |nils e sz=>exact aux (.list []) h
  |t n=>
   simp only[Gx,M.wq]at h ⊢
   have:∀{st0:St} {n:Nat} {K K':Nat→SV→Prop},(∀v sv,K v sv→K' v sv)→look st0 n K→look st0 n K':=by
    intro st0
    induction st0 with
    |nil=>intro n K K' _ h;exact h.elim
    |cons c r ih2=>
     intro n K K' hK h
     obtain⟨v,sv⟩:=c
     cases n with
     |zero=>exact hK _ _ h
     |succ n=>exact ih2 hK h
   refine this (fun v sv h=>?_) h
   cases sv with
   |v x=>exact aux x h
   |_=>exact h.elim
 |block id a ih=>
  intro Q Q' st h1 h2 h3 h
  refine ih (Q:=⟨Q.nrm,brk id Q,Q.ret⟩) (Q':=⟨Q'.nrm,brk id Q',Q'.ret⟩) h1 ?_ h3 h
  intro i st h
  simp only[brk]at h ⊢
  split
  ·rename_i hi;rw[if_pos hi]at h;exact h1 _ h
  ·rename_i hi;rw[if_neg hi]at h;exact h2 _ _ h
 |loop ks a ih=>
  intro Q Q' st h1 h2 h3 ⟨X,J,R,μ,h4,h5⟩
  refine⟨X,J,R,μ,h4,fun x hx=>?_⟩
  have:∀{st0:St} {K K':St→Prop},(∀st,K st→K' st)→litK st0 K→litK st0 K':=by
   intro st0
   induction st0 with
   |nil=>intro K K' hK h;exact hK _ h
   |cons c r ih2=>
    intro K K' hK h
    obtain⟨v,sv⟩:=c
    refine ih2 (K:=fun r'=>svK sv fun sv=>K ((v,sv)::r')) (fun st h=>?_) h
    cases sv<;>exact hK _ h
  exact this (fun st h=>ih (Q:=⟨Round ks J R μ x,Q.ex,Q.ret⟩) (Q':=⟨Round ks J R μ x,Q'.ex,Q'.ret⟩) (fun _ h=>h) h2 h3 h) (h5 x hx)
 |exit id=>intro Q Q' st h1 h2 h3 h;exact h2 _ _ h
 |ret=>intro Q Q' st h1 h2 h3 h;exact h3 _ h
theorem Ajw:∀{st0:St} {K K':St→Prop},(∀st,K st→K' st)→litK st0 K→litK st0 K'
 | [],_,_,hK,h=>hK _ h
 |(v,sv)::r,K,K',hK,h=>by
  refine Ajw (st0:=r) (K:=fun r'=>svK sv fun sv=>K ((v,sv)::r')) (fun st h=>?_) h
  cases sv<;>exact hK _ h
theorem RoundE.aft {α S R:Type} {ks:List Nat} {st0:St} {l:List α} {step:S→α→S ⊕ R} {fin:S→R} {Ans:R} {vals:Nat→S→List (Nat × SV)} {inv:Nat→S→Prop} {k:Nat} {st:St} {s':S}
 (h3:Ab.aft step fin (l.drop (k+1)) (.inl s')=Ans) (h1:norm ks st=upd st0 (vals (k+1) s')) (h2:inv (k+1) s'):RoundE ks st0 l step fin Ans vals inv k st:=⟨s',h1,h2,h3⟩
theorem Ff {α S R:Type} {step:S→α→S ⊕ R} {fin:S→R} {r:List α} {x A:R} (h:Ab.aft step fin r (.inr x)=A):x=A:=h
theorem each {P:Program} {α S R:Type} {ks:List Nat} {a:Stm} {ex:Nat→St→Prop} {ret:St→Prop} {st:St} (l:List α) (step:S→α→S ⊕ R) (fin:S→R) (Ans:R) (vals:Nat→S→List (Nat × SV)) (inv:Nat→S→Prop) (s0:S)
 (h0:norm ks st=upd (norm ks st) (vals 0 s0)) (hR:inv 0 s0) (hA:runL step fin l s0=Ans)
 (hb:∀k s e,l[k]?=some e→k<l.length→inv k s→aft step fin (l.drop (k+1)) (step s e)=Ans→
   litK (upd (norm ks st) (vals k s)) (wqS P a ⟨RoundE ks (norm ks st) l step fin Ans vals inv k,ex,ret⟩))
 (he:∀s k,k=l.length→inv k s→fin s=Ans→litK (upd (norm ks st) (vals k s)) (wqS P a ⟨fun _=>False,ex,ret⟩)):
 LoopWq ks (fun K=>wqS P a ⟨K,ex,ret⟩) st:=by
 refine⟨Nat × S,fun x=>upd (norm ks st) (vals x.1 x.2),fun x=>x.1≤l.length∧inv x.1 x.2∧runL step fin (l.drop x.1) x.2=Ans,fun x=>l.length - x.1,⟨(0,s0),h0,Nat.zero_le _,hR,hA⟩,?_⟩
 rintro⟨k,s⟩ ⟨h1,h2,h3⟩
 dsimp only at h1 h2 h3 ⊢
 by_cases hk:k<l.length
 ·obtain⟨e,hek⟩:∃e,l[k]?=some e:=⟨_,List.getElem?_eq_getElem hk⟩
  have hke:l[k]=e:=by rw[List.getElem?_eq_getElem hk]at hek;simpa using hek
  rw[List.drop_eq_getElem_cons hk,hke,Kh]at h3
  refine Ajw (K:=wqS P a ⟨RoundE ks (norm ks st) l step fin Ans vals inv k,ex,ret⟩) (fun st' h=>A2m (Q:=⟨RoundE ks (norm ks st) l step fin Ans vals inv k,ex,ret⟩) ?_ (fun _ _ h=>h) (fun _ h=>h) h) (hb k s e hek hk h2 h3)
  rintro st1 ⟨s',g1,g2,g3⟩
  exact⟨(k+1,s'),g1,⟨hk,g2,g3⟩,by dsimp only;omega⟩
 ·have hk':k=l.length:=by omega
  rw[List.drop_eq_nil_of_le (by omega)]at h3
  refine Ajw (K:=wqS P a ⟨fun _=>False,ex,ret⟩) (fun st' h=>A2m (Q:=⟨fun _=>False,ex,ret⟩) ?_ (fun _ _ h=>h) (fun _ h=>h) h) (he s k hk' h2 h3)
  intro _ h
  exact h.elim
abbrev strs (m:List Ai):List I:=m.map I.str
theorem Z1 {m:List Ai} {k:Nat} {e:Ai} (h:m[k]?=some e):(strs m)[k]?=some (.str e):=by simp[h]
theorem Av {α:Type} {f:α→I} {l:List α} {k:Nat} {e:α} (h:l[k]?=some e):(l.map f)[Int.toNat (k:Int)]?=some (f e):=by
 rw[Int.toNat_natCast,List.getElem?_map,h]
 rfl
theorem size_map {α:Type} {f:α→I} {l:List α} {n:Nat} (h:∀a,(f a).size=n):∀u∈l.map f,u.size=n:=by
 intro u hu
 obtain⟨a,_,rfl⟩:=List.mem_map.1 hu
 exact h a
theorem Ah {x:I} {n:Nat} (h:x.size=n):∀u∈[x],u.size=n:=by
 intro u hu
 rw[List.mem_singleton]at hu
 subst hu
 exact h

theorem Az:(∀(p:Prop) [Decidable p],(decide p=true)=p)∧(∀(p:Prop) [Decidable p],(decide p=false)=¬p)∧(∀b:Bool,((!b)=true)=(b=false))∧(∀b:Bool,((!b)=false)=(b=true))∧
 (∀b:Bool,(¬b=true)=(b=false))∧(∀b:Bool,(¬b=false)=(b=true))∧(∀a b:Int,(¬a<b)=(b≤a))∧(∀a b:Int,(¬a≤b)=(b<a))∧
 (∀(α β:Type) (f:α→β) (l:List α),(l.map f).length=l.length)∧(∀(α:Type) (l m:List α),(l++m).length=l.length+m.length)∧(∀(α:Type) (a:α) (l:List α),(a::l).length=l.length+1)∧(∀(α:Type),([]:List α).length=0)∧
 (∀(α:Type) (l:List α) (i:Nat) (a:α),(l.set i a).length=l.length)∧(∀(α:Type) (n:Nat) (a:α),(List.replicate n a).length=n)∧(∀(α:Type) (i:Nat) (l:List α),(l.take i).length=min i l.length)∧(∀(α:Type) (i:Nat) (l:List α),(l.drop i).length=l.length - i)∧
 (∀n:Nat,Int.toNat (n:Int)=n)∧maxLen=9223372036854775807:=by
 refine⟨?_,?_,?_,?_,?_,?_,?_,?_,?_,?_,?_,?_,?_,?_,?_,?_,?_,rfl⟩<;>intros<;>simp
theorem Ad:(∀a b:Ai,Op.bytesLess a b=decide (a<b))∧(∀(p:Prop) [Decidable p],(decide p=true)=p)∧(∀(p:Prop) [Decidable p],(decide p=false)=¬p)∧(∀b:Bool,((!b)=true)=(b=false))∧(∀b:Bool,((!b)=false)=(b=true))∧
 (∀b:Bool,(¬b=true)=(b=false))∧(∀b:Bool,(¬b=false)=(b=true))∧(∀(α β:Type) (f:α→β) (l:List α),(l.map f).length=l.length)∧(∀n:Nat,Int.toNat (n:Int)=n):=by
 refine⟨G5,?_,?_,?_,?_,?_,?_,?_,?_⟩<;>intros<;>simp
theorem Ag {α:Type} {f:α→D} {l:List α} {n:Nat} (h:∀a,(f a).size=n):∀u∈l.map f,u.size=n:=by
 intro u hu
 obtain⟨a,_,rfl⟩:=List.mem_map.1 hu
 exact h a
theorem F5 {x:D} {n:Nat} (h:x.size=n):∀u∈[x],u.size=n:=by
 intro u hu
 rw[List.mem_singleton]at hu
 subst hu
 exact h
theorem Af {α:Type} {f:α→I} {l:List α} {n:Nat} (h:∀a,(f a).size=n):∀u∈(l.map f).map D.it,u.size=n:=by
 intro u hu
 obtain⟨x,hx,rfl⟩:=List.mem_map.1 hu
 obtain⟨a,_,rfl⟩:=List.mem_map.1 hx
 exact h a
theorem An {α β:Type} {f:α→β} {l:List α} {k:Nat} {e:α} (h:l[k]?=some e):(l.map f)[Int.toNat (k:Int)]?=some (f e):=by
 rw[Int.toNat_natCast,List.getElem?_map,h]
 rfl
theorem Ap {α β:Type} {f:α→β} {l:List α} {k:Nat} {e:α} (h:l[k]?=some e):(l.map f)[k]?=some (f e):=by
 rw[List.getElem?_map,h]
 rfl
theorem Ahs {P:Program} {m m':M} {Q:St→Prop} {st:St} (h:m=m') (hk:m'.wq P Q st):m.wq P Q st:=h ▸ hk
theorem Lr {P:Program} {m m':M} {K:St→List Rd→Log→List Prop→Prop} {st:St} {R:List Rd} {L:Log} {F:List Prop} (h:m=m') (hk:m'.wz P K st R L F):m.wz P K st R L F:=h ▸ hk
theorem D9 {v:Nat} {p:List Nat} {f:D→Option SV} {ver:Nat} {inv:List Nat} {t u:D} {r:SV} {K:Nat→SV→Prop} (ha:alive v inv p.length=true) (hat:D.at p t=some u) (hf:f u=some r)
 (hk:Aha (Nat.min (lv inv (p.length+1)) ver,r) K):seeK [(eyeP v p f ver (.own inv t)).2] (fun b=>natK (eyeP v p f ver (.own inv t)).1 fun a=>K a b):=by
 simp only[eyeP,ha,hat,seen,hf]
 exact hk
theorem X8 {v:Nat} {p:List Nat} {f:D→Option SV} {ver:Nat} {inv:List Nat} {t u:D} {r:SV} {K:Nat→SV→Prop} (ha:alive v inv (p.length+1)=true) (hat:D.at p t=some u) (hf:f u=some r)
 (hk:Aha (Nat.min (lv inv (p.length+1)) ver,r) K):seeK [(eyeH v p f ver (.own inv t)).2] (fun b=>natK (eyeH v p f ver (.own inv t)).1 fun a=>K a b):=by
 simp only[eyeH,ha,hat,seen,hf]
 exact hk

def retD:List Ret→(List D→M)→M
 | [],k=>k []
 | .t n::r,k=>Q3 (.t n) fun u=>retD r fun us=>k (u::us)
 | .cell n agg sz::r,k=>.get n fun ver sv=>match sv with
   | .own _ t=>match t with
     | .ptr u=>.need (u.isAgg=agg∧u.size=sz) fun _=>.set n (ver+1) .no (retD r fun us=>k (u::us))
     |_=>.fail
   |_=>.fail
def resD:List D→SV
 | [u]=>match u with
   | .it x=>.v x
   |u=>.own [] u
 |us=>.tupd us
def FinD (P:Program) (N:Nat) (rs:List Ret) (args:List SV) (R:SV→List SV→Prop) (st:St):Prop:=
 (retD rs fun us=>.chk fun st'=>Done (R (resD us) (D8 N st' 0 args)) (D8 N st' 0 args)).wp P (fun _=>False) st
def Awp (P:Program) (N:Nat) (rs:List Ret) (args:List SV) (R:SV→List SV→Prop) (st:St):Prop:=
 (retD rs fun us=>.chk fun st'=>Done (R (resD us) (D8 N st' 0 args)) (D8 N st' 0 args)).wq P (fun _=>False) st
def wqFD (P:Program) (N:Nat) (s:Stm) (rs:List Ret) (args:List SV) (R:SV→List SV→Prop):Prop:=
 litK (entry N args) fun st=>wqS P s ⟨Awp P N rs args R,noEx,Awp P N rs args R⟩ st
section
variable{P:Program}{N:Nat}{G:Mem}{σ:Lab}{Fr:Mem}{w0:Base}{w:World}{st:St}{a:Act}
theorem Aog {Q:St→Prop}:∀{rs:List Ret} {rv:List ResultVar} {k:List D→M} {G:Mem} {σ:Lab} {st:St},Rel G σ Fr w0 st a w→Fx P w0.n rv rs=true→(retD rs k).wp P Q st→
 ∃us cs bs G' σ' st',G.le G'∧Rel G' σ' Fr w0 st' a w∧(k us).wp P Q st'∧(rv.mapM (resV a.tmps)).run P w= .ok cs w∧RepVs G' w us cs bs∧bs.Nodup∧
  (∀b∈bs,G' b=none∧Fr b=none∧σ' b=none∧b<w.heap.size)∧(∀b∈bs,σ b≠none)∧∀b,σ b=none→G b=none→σ' b=none∧G' b=none
 | [],[],k,G,σ,st,hr,_,hq=>⟨[],[],[],G,σ,st,Mem.le.refl G,hr,hq,by simp,by simp[RepVs],List.nodup_nil,by simp,by simp,fun _ h1 h2=>⟨h1,h2⟩⟩
 | .t n::rs,.tmp m::rv,k,G,σ,st,hr,ho,hq=>by
   simp only[Fx,Bool.and_eq_true,beq_iff_eq,decide_eq_true_eq]at ho
   obtain⟨⟨rfl,h1⟩,h2⟩:=ho
   obtain⟨u,b1,G1,σ1,st1,g1,g2,g3,g4,g5,g6⟩:=Kb (x:=.tmp m) hr (by simp[Ax,h1]) hq
   obtain⟨us,cs,bs,G2,σ2,st2,q1,q2,q3,q4,q5,q6,q7,q8,q9⟩:=Aog g2 h2 g3
   obtain⟨f1,f2,f3,f4⟩:=g4.later q1 q9
   refine⟨u::us,a.tmps.getD m undef::cs,b1++bs,G2,σ2,st2,g1.trans q1,q2,q3,?_,?_,?_,?_,?_,?_⟩
   ·simp only[List.mapM_cons,resV,Sem.run_bind,Sem.run_pure,Result.andThen,q4]
   ·simp only[RepVs]
    exact⟨_,cs,b1,bs,rfl,rfl,f2,f1,q5⟩
   ·rw[List.nodup_append]
    refine⟨f3,q6,fun x hx y hy e=>?_⟩
    subst e
    exact q8 x hy (g4.2.2.2 x hx).2.2.1
   ·intro b hb
    rcases List.mem_append.1 hb with hb|hb
    ·exact f4 b hb
    ·exact q7 b hb
   ·intro b hb hn
    rcases List.mem_append.1 hb with hb'|hb'
    ·exact g5 b hb' hn
    ·by_cases hG:G b=none
     ·exact q8 b hb' (g6 b hn hG).1
     ·obtain⟨o,hob⟩:=Option.ne_none_iff_exists'.1 hG
      have:=g1 b o hob
      have:=q1 b o this
      rw[(q7 b hb').1]at this
      cases this
   ·intro b k1 k2
    obtain⟨k3,k4⟩:=g6 b k1 k2
    exact q9 b k3 k4
 | .cell n agg sz::rs,.cell m t::rv,k,G,σ,st,hr,ho,hq=>by
   simp only[Fx,Bool.and_eq_true,beq_iff_eq,decide_eq_true_eq]at ho
   obtain⟨⟨⟨rfl,h1⟩,ht⟩,h2⟩:=ho
   simp only[retD,M.wp]at hq
   cases hs:st[m]? with
   |none=>simp[hs]at hq
   |some cur=>
    obtain⟨ver,sv⟩:=cur
    simp only[hs]at hq
    split at hq
    ·rename_i inv tr
     split at hq
     ·rename_i u
      obtain⟨⟨rfl,rfl⟩,hq⟩:=hq
      have hown:OwnD G σ w m (.ptr u) (a.eval (.tmp m)):=hr.slot h1 hs
      obtain⟨bs0,r1,r2,r3,r4⟩:=hown
      rw[Fp r2]at r1
      simp only[RepD]at r1
      obtain⟨b,cells,ty,bu,e1,e2,e3,rfl⟩:=r1
      injection e1 with e1
      have hdrop:∀x∈b::bu,σ.drop m x=none:=fun x hx=>by
       obtain⟨kk,hk⟩:=r4 x hx
       simp[Lab.drop,hk]
      obtain⟨us,cs,bs,G2,σ2,st2,q1,q2,q3,q4,q5,q6,q7,q8,q9⟩:=Aog (hr.drop hs (Nat.lt_succ_self ver)) h2 hq
      have hf0:∀x∈bu,G x=none∧Fr x=none∧σ.drop m x=none∧x<w.heap.size:=fun x hx=>by
       obtain⟨kk,hk⟩:=r4 x (by simp[hx])
       obtain⟨k1,k2,k3⟩:=hr.wok.own x _ hk
       exact⟨k1,k2,hdrop x (by simp[hx]),k3⟩
      have hlen:=RepD.length e3
      have hone:=RepD.one e3
      obtain⟨v,hl,hvc,hva⟩:=Agz (P:=P) (w:=w) (t:=t) (agg:=u.isAgg) (b:=b) (off:=0) (bl:=cells) (pre:=[]) (cs:=cells.toList) (post:=[]) (by rw[hlen];exact ht) (by
       intro hag
       rw[hlen]
       cases u<;>first|rfl|(rename_i x;cases x<;>first|rfl|cases hag)|cases hag) e2 (by simp) rfl hone
      have hev:a.tmps.getD m undef= .pointer (some ⟨b,0,none⟩):=e1
      refine⟨u::us,v::cs,bu++bs,G2,σ2,st2,q1,q2,q3,?_,?_,?_,?_,?_,?_⟩
      ·simp only[List.mapM_cons,resV,hev,asAddr,Sem.run_bind,Sem.run_pure,Result.andThen,hl,q4]
      ·simp only[RepVs]
       exact⟨v,cs,bu,bs,rfl,rfl,hva,by rw[hvc];exact e3.tr q1 fun _ _=>rfl,q5⟩
      ·rw[List.nodup_append]
       refine⟨(List.nodup_cons.1 r3).2,q6,fun x hx y hy e=>?_⟩
       subst e
       exact q8 x hy (hf0 x hx).2.2.1
      ·intro x hx
       rcases List.mem_append.1 hx with hx|hx
       ·obtain⟨k1,k2,k3,k4⟩:=hf0 x hx
        obtain⟨k5,k6⟩:=q9 x k3 k1
        exact⟨k6,k2,k5,k4⟩
       ·exact q7 x hx
      ·intro x hx hn
       rcases List.mem_append.1 hx with hx|hx
       ·obtain⟨kk,hk⟩:=r4 x (by simp[hx])
        rw[hn]at hk;cases hk
       ·refine q8 x hx ?_
        simp[Lab.drop,hn]
      ·intro x k1 k2
       exact q9 x (by simp[Lab.drop,k1]) k2
     ·exact hq.elim
    ·exact hq.elim
 | [],_::_,_,_,_,_,_,ho,_=>by simp[Fx]at ho
 | .t _::_,[],_,_,_,_,_,ho,_=>by simp[Fx]at ho
 | .cell _ _ _::_,[],_,_,_,_,_,ho,_=>by simp[Fx]at ho
 | .t _::_,.cell _ _::_,_,_,_,_,_,ho,_=>by simp[Fx]at ho
 | .cell _ _ _::_,.tmp _::_,_,_,_,_,_,ho,_=>by simp[Fx]at ho
theorem A9j {fn:Func} {rs:List Ret} {args:List SV} {Post:SV→List SV→Prop} (hr:Fx P fn.ntmps fn.results.toList rs=true):Ends P fn args Post (FinD P fn.ntmps rs args Post):=by
 intro G Fr w cargs a w' G' σ' st hlen hn hG hr' hq
 let B:Base:=⟨w,fn.ntmps,cargs⟩
 refine⟨hr'.defers,?_⟩
 obtain⟨us,cs,bs,G2,σ2,st2,q1,q2,⟨q3,q3'⟩,q4,q5,q6,q7,q8,q9⟩:=Aog hr' hr hq
 have q3':=Vo q3'
 have hresM:(fn.results.mapM (resV a.tmps)).run P w'= .ok cs.toArray w':=by
  rw[Array.mapM_eq_mapM_toList,Sem.run_map,q4]
  rfl
 let σ3:Lab:=(σ2.unshift fn.ntmps).adopt args.length 0 bs
 have hun:∀{b s k},σ2.unshift fn.ntmps b=some (s,k)→σ2 b=some (fn.ntmps+s,k):=by
  intro b s k hb
  unfold Lab.unshift at hb
  split at hb
  ·rename_i s' k' h1
   split at hb
   ·rename_i hle
    simp only[Option.some.injEq,Prod.mk.injEq]at hb
    obtain⟨rfl,rfl⟩:=hb
    rw[h1,show fn.ntmps+(s' - fn.ntmps)=s' by omega]
   ·cases hb
  ·cases hb
 have hok2:WOk G2 (σ2.unshift fn.ntmps) Fr ⟨w,0, #[]⟩ w':=by
  refine⟨q2.wok.fixed,?_,?_,q2.wok.frame,q2.wok.os,q2.wok.tape,q2.wok.output,q2.wok.size,q2.wok.apart,q2.wok.amb⟩
  ·rintro b ⟨s,k⟩ hb
   exact q2.wok.own b _ (hun hb)
  ·rintro b b' ⟨s,k⟩ hb hb'
   exact q2.wok.inj b b' _ (hun hb) (hun hb')
 let σ2':Lab:=fun b=>match σ2.unshift fn.ntmps b with
  |some (s,k)=>if s<args.length then some (s,k)else none
  |none=>none
 have hle:∀{b lab},σ2' b=some lab→σ2.unshift fn.ntmps b=some lab∧lab.1<args.length:=by
  intro b lab hb
  simp only[σ2']at hb
  split at hb
  ·rename_i s k h1
   split at hb
   ·rename_i hlt;cases hb;exact⟨h1,hlt⟩
   ·cases hb
  ·cases hb
 have hok3:WOk G2 σ2' Fr ⟨w,0, #[]⟩ w':=⟨hok2.fixed,fun b lab hb=>hok2.own b lab (hle hb).1,fun b b' lab hb hb'=>hok2.inj b b' lab (hle hb).1 (hle hb').1,hok2.frame,hok2.os,hok2.tape,hok2.output,hok2.size,hok2.apart,hok2.amb⟩
 have hok4:WOk G2 (σ2'.adopt args.length 0 bs) Fr ⟨w,0, #[]⟩ w':=hok3.adopt (fun b k hb=>absurd (hle hb).2 (Nat.lt_irrefl _)) fun b hb=>⟨(q7 b hb).1,(q7 b hb).2.1,(q7 b hb).2.2.2⟩
 have hlabs:∀b∈bs,∃k,(σ2'.adopt args.length 0 bs) b=some (args.length,k):=fun b hb=>⟨_,Lab.adopt_new hb⟩
 have hresV:∃v,(results fn a.tmps).run P w'= .ok v w'∧(resD us).root=none∧RepOwn G2 (σ2'.adopt args.length 0 bs) w' args.length (resD us) v:=by
  rw[Xx,Sem.run_bind,hresM]
  match us,cs,q5,hlabs with
  | [],[],h5,hl=> 
    simp only[RepVs]at h5
    exact⟨.tuple #[],by simp[Result.andThen],rfl, #[],bs,rfl,by simp[RepVs,h5.2],q6,hl⟩
  | [u],cs,h5,hl=>
    simp only[RepVs]at h5
    obtain⟨v,_,b1,_,rfl,rfl,hva,hrv,rfl,rfl⟩:=h5
    refine⟨v,by simp[Result.andThen],?_⟩
    cases u with
    |it x=>
     refine⟨rfl,?_⟩
     show RepV G2 x v
     simp only[RepD]at hrv
     simp only[D.isAgg]at hva
     unfold RepV
     cases hx:x.isAgg with
     |true=>
      rw[hx]at hva
      obtain⟨a',rfl⟩:=Qh hva
      rw[if_pos rfl]
      exact⟨a',rfl,hrv.1⟩
     |false=>
      rw[hx]at hva
      rw[Fp hva]at hrv
      rw[if_neg (by simp)]
      exact hrv.1
    |_=>exact⟨rfl,b1,hrv,hva,by simpa using q6,fun b hb=>hl b (by simpa using hb)⟩
  |u::u'::us,cs,h5,hl=>
   have h5':=h5
   simp only[RepVs]at h5
   obtain⟨v,_,_,_,rfl,_,_,_,v',_,_,_,rfl,_⟩:=h5
   exact⟨.tuple (v::v'::_).toArray,by simp[Result.andThen],rfl,_,bs,rfl,h5',q6,hl⟩
 obtain⟨v,hv1,hv0,hv2⟩:=hresV
 refine⟨v,hv1,resD us,D8 fn.ntmps st2 0 args,v,G2,_,rfl,q3,hG.trans q1,hok4,hv0,hv2,Nt args 0,?_⟩
 intro i sv hi
 refine⟨q3' sv (List.mem_of_getElem? hi),?_⟩
 rw[Kx]at hi
 cases harg:args[i]? with
 |none=>simp[harg]at hi
 |some sv0=>
  have hil:i<args.length:=(List.getElem?_eq_some_iff.1 harg).1
  simp only[harg,Option.map_some,Option.some.injEq,Nat.zero_add]at hi
  split at hi
  ·cases hst:st2[fn.ntmps+i]? with
   |none=>simp only[hst]at hi;subst hi;trivial
   |some cur=>
    obtain⟨ver,sv1⟩:=cur
    simp only[hst]at hi
    subst hi
    have hrep:=q2.slots _ _ _ hst
    have hroot:=q3' sv1.clean (by
     apply List.mem_of_getElem? (i:=i)
     rw[Kx,harg]
     simp only[Option.map_some,Nat.zero_add,hst]
     rename_i hl
     rw[if_pos hl])
    rw[Af7]at hroot
    rw[RepSV.own hroot]at hrep
    have hval:val a B (fn.ntmps+i)=cargs.getD i undef:=by
     unfold val
     rw[Array.getD_eq_getD_getElem?,Array.getElem?_append_right (by rw[q2.n];exact Nat.le_add_right _ _),q2.n,Array.getD_eq_getD_getElem?]
     simp[B]
    rw[hval]at hrep
    rw[Ai1]
    refine RepOwn.tr hrep (Mem.le.refl G2) fun b k hb=>⟨?_,rfl⟩
    rw[Lab.adopt_old]
    ·simp only[σ2',Lab.unshift,hb]
     simp[hil]
    ·intro hm
     rw[(q7 b hm).2.2.1]at hb
     cases hb
  ·subst hi;trivial
theorem Fn.of_bodyD {f:FuncId} {fn:Func} {c:Code} {s:Stm} {rs:List Ret} {args:List SV} {Post:SV→List SV→Prop} {N:Nat} (hf:P.funcs[f]?=some fn) (hb:fn.body=some c) (hN:fn.ntmps=N)
 (hc:chkC P N c s=true) (hr:Fx P N fn.results.toList rs=true) (hn:args.length≤N) (h:wqFD P N s rs args Post):Fn P f args Post:=by
 subst hN
 refine Fn.of_code hf hb hc hn (A9j hr) ?_
 have h:=P2 h
 exact Art (Q:=⟨Awp P fn.ntmps rs args Post,noEx,Awp P fn.ntmps rs args Post⟩) (Q':=⟨FinD P fn.ntmps rs args Post,noEx,FinD P fn.ntmps rs args Post⟩) (fun st h=>M.wq_wp h) (fun _ _ h=>h) (fun st h=>M.wq_wp h) h
end
end Go.Ab
