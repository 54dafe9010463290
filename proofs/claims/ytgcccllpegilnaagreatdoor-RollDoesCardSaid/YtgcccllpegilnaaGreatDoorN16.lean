/- Lemmas for the last text. -/
import Derived.Test.YtgcccllpegilnaaGreatDoorA14
set_option linter.unusedVariables false
set_option linter.unusedSimpArgs false
set_option maxRecDepth 100000
set_option maxHeartbeats 4000000
namespace Go.Ab
open Go.Proofs
theorem Akk (a b:Ad):a<b∨a=b∨b<a:=by
 by_cases h:a<b
 ·exact .inl h
 ·by_cases h2:b<a
  ·exact .inr (.inr h2)
  ·exact .inr (.inl (List.le_antisymm (List.not_lt.1 h2) (List.not_lt.1 h)))
theorem Ux {lt:Nat→Bool} {L:Nat} (mono:∀h h',h≤h'→h'<L→lt h'=true→lt h=true):∀f i j,i≤j→j≤L→j - i≤f→(∀h,h<i→lt h=true)→(∀h,j≤h→h<L→lt h=false)→
 (∀h,h<bsGo lt f i j→lt h=true)∧(∀h,bsGo lt f i j≤h→h<L→lt h=false)
 |0,i,j,h1,h2,h3,h4,h5=>by
  obtain rfl:i=j:=by omega
  exact⟨h4,h5⟩
 |f+1,i,j,h1,h2,h3,h4,h5=>by
  unfold bsGo
  split
  ·rename_i hij
   split
   ·rename_i hl
    exact Ux mono f _ _ (by omega) h2 (by omega) (fun h hh=>mono h ((i+j) / 2) (by omega) (by omega) hl) h5
   ·rename_i hl
    refine Ux mono f _ _ (by omega) (by omega) (by omega) h4 (fun h hh hL=>?_)
    cases hx:lt h with
    |false=>rfl
    |true=>exact absurd (mono _ _ hh hL hx) hl
  ·obtain rfl:i=j:=by omega
   exact⟨h4,h5⟩
abbrev Dt {α:Type} (nm:α→Ad) (l:List α):Prop:=l.Pairwise fun a b=>nm a<nm b
def posOf {α:Type} (nm:α→Ad) (n:Ad):List α→Nat
 | []=>0
 |a::r=>if nm a<n then posOf nm n r+1 else 0
theorem Afa {α:Type} (nm:α→Ad) (n:Ad):∀l:List α,posOf nm n l≤l.length
 | []=>Nat.le_refl _
 |a::r=>by
  unfold posOf
  have:=Afa nm n r
  split<;>simp<;>omega
theorem Afb {α:Type} (nm:α→Ad) (n:Ad):∀(l:List α) (h:Nat),h<posOf nm n l→ltAt nm l n h=true
 | [],h,hh=>by simp[posOf]at hh
 |a::r,h,hh=>by
  unfold posOf at hh
  split at hh
  ·rename_i ha
   cases h with
   |zero=>simp[ltAt,ha]
   |succ h=>
    have:=Afb nm n r h (by omega)
    simpa[ltAt]using this
  ·omega
theorem Ae9 {α:Type} (nm:α→Ad) (n:Ad):∀(l:List α),posOf nm n l<l.length→ltAt nm l n (posOf nm n l)=false
 | [],h=>by simp[posOf]at h
 |a::r,h=>by
  unfold posOf at h ⊢
  split
  ·rename_i ha
   rw[if_pos ha]at h
   have:=Ae9 nm n r (by simpa using h)
   simpa[ltAt]using this
  ·rename_i ha
   simpa[ltAt]using ha
theorem X8 {α:Type} {nm:α→Ad} {l:List α} (hr:Dt nm l) (n:Ad):Az nm l n=posOf nm n l:=by
 have mono:∀h h',h≤h'→h'<l.length→ltAt nm l n h'=true→ltAt nm l n h=true:=by
  intro h h' hh hL hx
  rcases Nat.lt_or_ge h h' with hlt|hge
  ·have hp:=List.pairwise_iff_getElem.1 hr h h' (by omega) hL hlt
   unfold ltAt at hx ⊢
   rw[List.getElem?_eq_getElem hL]at hx
   rw[List.getElem?_eq_getElem (by omega:h<l.length)]
   simp only[Option.any_some,decide_eq_true_eq]at hx ⊢
   exact List.lt_trans hp hx
  ·obtain rfl:h=h':=by omega
   exact hx
 obtain⟨k1,k2⟩:=Ux mono l.length 0 l.length (Nat.zero_le _) (Nat.le_refl _) (Nat.sub_le _ _) (fun h hh=>by omega) (fun h h1 h2=>by omega)
 have hle:=H5 nm l n
 have hpl:=Afa nm n l
 change (∀h,h<Az nm l n→_)at k1
 change (∀h,Az nm l n≤h→_)at k2
 rcases Nat.lt_trichotomy (Az nm l n) (posOf nm n l)with h|h|h
 ·have a1:=Afb nm n l _ h
  rw[k2 _ (Nat.le_refl _) (by omega)]at a1
  cases a1
 ·exact h
 ·have a1:=k1 _ h
  rw[Ae9 nm n l (by omega)]at a1
  cases a1
theorem Wo {α:Type} {p:α→Bool}:∀(k:Nat) (l:List α),(∀x∈l,p x=false)→findAt p k l= -1
 |_,[],_=>rfl
 |k,a::r,h=>by
  unfold findAt
  rw[if_neg (by rw[h a (List.mem_cons_self ..)];simp)]
  exact Wo (k+1) r fun x hx=>h x (List.mem_cons_of_mem _ hx)
theorem Aeg {α:Type} {nm:α→Ad} {n:Ad}:∀{l:List α} (k:Nat),Dt nm l→findAt (fun t=>decide (nm t=n)) k l=if((l[posOf nm n l]?).any fun x=>decide (nm x=n))=true then((k+posOf nm n l:Nat):Int)else -1
 | [],_,_=>by simp[findAt,posOf]
 |a::r,k,h=>by
  obtain⟨h1,h2⟩:=List.pairwise_cons.1 h
  unfold findAt posOf
  rcases Akk (nm a) n with ha|ha|ha
  ·have hne:nm a≠n:=by rintro rfl;exact List.lt_irrefl _ ha
   rw[if_neg (by simp[hne]),if_pos ha,Aeg (k+1) h2]
   simp only[List.getElem?_cons_succ]
   split
   ·congr 1;omega
   ·rfl
  ·subst ha
   rw[if_pos (by simp),if_neg (List.lt_irrefl _)]
   simp
  ·have hne:nm a≠n:=by rintro rfl;exact List.lt_irrefl _ ha
   have hnl:¬nm a<n:=fun h=>List.lt_irrefl _ (List.lt_trans h ha)
   rw[if_neg (by simp[hne]),if_neg hnl]
   simp only[List.getElem?_cons_zero,Option.any_some,decide_eq_true_eq,hne,if_false]
   refine Wo _ _ fun x hx=>?_
   have:=List.lt_trans ha (h1 x hx)
   simp only[decide_eq_false_iff_not]
   rintro rfl
   exact List.lt_irrefl _ this
theorem Ad7 {α:Type} {nm:α→Ad} {l:List α} (hr:Dt nm l) (n:Ad):Bv nm l n=(l[posOf nm n l]?).any fun x=>decide (nm x=n):=by
 unfold Bv
 rw[X8 hr]
theorem Adk {α:Type} {nm:α→Ad} {l:List α} (hr:Dt nm l) (n:Ad):findAt (fun t=>decide (nm t=n)) 0 l=if Bv nm l n=true then((Az nm l n:Nat):Int)else -1:=by
 rw[Aeg 0 hr,Ad7 hr,X8 hr,Nat.zero_add]
theorem Ai3 {α:Type} {nm:α→Ad} {n:Ad} {x:α}:∀{l:List α},Dt nm l→((l[posOf nm n l]?).any fun x=>decide (nm x=n))=false→B2 (fun e=>decide (n<nm e)) x l=C2 (posOf nm n l) x l
 | [],_,_=>rfl
 |a::r,h,hf=>by
  obtain⟨h1,h2⟩:=List.pairwise_cons.1 h
  unfold B2
  unfold posOf at hf ⊢
  rcases Akk (nm a) n with ha|ha|ha
  ·have hnl:¬n<nm a:=fun h=>List.lt_irrefl _ (List.lt_trans h ha)
   rw[if_pos ha]at hf
   rw[if_neg (by simpa using hnl),if_pos ha,Ai3 h2 (by simpa using hf)]
   simp[C2]
  ·subst ha
   rw[if_neg (List.lt_irrefl _)]at hf
   simp at hf
  ·have hnl:¬nm a<n:=fun h=>List.lt_irrefl _ (List.lt_trans h ha)
   rw[if_pos (by simpa using ha),if_neg hnl]
   rfl
theorem Ym {α:Type} {nm:α→Ad} {l:List α} (hr:Dt nm l) {n:Ad} (x:α) (hf:Bv nm l n=false):B2 (fun e=>decide (n<nm e)) x l=C2 (Az nm l n) x l:=by
 rw[X8 hr]
 exact Ai3 hr (by rw[←Ad7 hr];exact hf)

open Go.Proofs
structure Roll.Sorted (r:Roll):Prop where
 T:Dt Ten.name r.tens
 U:Dt Usr.name r.usrs
 X:Dt Rol.name r.rols
 R:∀u∈r.usrs,Dt Cj u.roles
theorem Gq {α:Type} (p:α→Bool):∀(k:Nat) (l:List α),(l.find? p=none∧findAt p k l= -1)∨∃(j:Nat) (x:α),findAt p k l=((k+j:Nat):Int)∧l[j]?=some x∧l.find? p=some x
 |k,[]=>.inl ⟨rfl,rfl⟩
 |k,a::r=>by
  by_cases h:p a=true
  ·exact .inr ⟨0,a,by simp[findAt,h],rfl,by simp[h]⟩
  ·rcases Gq p (k+1) r with⟨h1,h2⟩|⟨j,x,h1,h2,h3⟩
   ·exact .inl ⟨by simp[h,h1],by simp[findAt,h,h2]⟩
   ·exact .inr ⟨j+1,x,by rw[findAt,if_neg h,h1];congr 1;omega,by simpa using h2,by simp[h,h3]⟩
theorem Ari (l:List Ten) (n:Ad):((getT l n).2=false∧findAt (fun t=>decide (t.name=n)) 0 l= -1)∨((getT l n).2=true∧0≤findAt (fun t=>decide (t.name=n)) 0 l):=by
 unfold getT
 rcases Gq (fun t:Ten=>decide (t.name=n)) 0 l with⟨h1,h2⟩|⟨j,x,h1,h2,h3⟩
 ·rw[h1,h2];exact .inl ⟨rfl,rfl⟩
 ·rw[h3,h1];exact .inr ⟨rfl,by omega⟩
theorem Arh (l:List Rol) (n:Ad):((getR l n).2=false∧findAt (fun t=>decide (t.name=n)) 0 l= -1)∨∃(j:Nat) (x:Rol),(getR l n)=(x,true)∧findAt (fun t=>decide (t.name=n)) 0 l=(j:Int)∧l[j]?=some x:=by
 unfold getR
 rcases Gq (fun t:Rol=>decide (t.name=n)) 0 l with⟨h1,h2⟩|⟨j,x,h1,h2,h3⟩
 ·rw[h1,h2];exact .inl ⟨rfl,rfl⟩
 ·rw[h3,h1];exact .inr ⟨j,x,rfl,by omega,h2⟩
theorem X9 {nm:Ad→Ad} (hnm:nm=Cj) {l:List Ad} (hr:Dt nm l) (n:Ad):Bv nm l n=l.any fun e=>decide (e=n):=by
 subst hnm
 have h:=Adk hr n
 rcases Gq (fun t:Ad=>decide (Cj t=n)) 0 l with⟨h1,h2⟩|⟨j,x,h1,h2,h3⟩
 ·rw[h2]at h
  cases hb:Bv Cj l n with
  |true=>rw[hb]at h;simp at h
  |false=>
   symm
   rw[List.any_eq_false]
   intro y hy
   have:=List.find?_eq_none.1 h1 y hy
   simpa using this
 ·rw[h1]at h
  cases hb:Bv Cj l n with
  |false=>rw[hb]at h;simp at h
  |true=>
   symm
   rw[List.any_eq_true]
   exact⟨x,List.mem_of_getElem? h2,by simpa using List.find?_some h3⟩
theorem Aj1 {l:List Ad} (hr:Dt Cj l) (n:Ad) (hb:Bv Cj l n=true):Da (Az Cj l n) l=l.filter fun e=> !decide (e=n):=by
 rw[Ad7 hr]at hb
 rw[X8 hr]
 induction l with
 |nil=>simp[posOf]at hb
 |cons a r ih=>
  obtain⟨h1,h2⟩:=List.pairwise_cons.1 hr
  unfold posOf at hb ⊢
  by_cases ha:Cj a<n
  ·rw[if_pos ha]at hb ⊢
   have hne:¬a=n:=by rintro rfl;exact List.lt_irrefl _ ha
   have:=ih h2 (by simpa using hb)
   simp only[Da,List.take_succ_cons,List.drop_succ_cons,List.cons_append]at this ⊢
   rw[this,List.filter_cons,if_pos (by simp[hne])]
  ·rw[if_neg ha]at hb ⊢
   simp only[List.getElem?_cons_zero,Option.any_some,decide_eq_true_eq]at hb
   obtain rfl:a=n:=hb
   rw[List.filter_cons,if_neg (by simp)]
   simp only[Da,List.take_zero,List.nil_append,Nat.zero_add,List.drop_succ_cons,List.drop_zero]
   symm
   rw[List.filter_eq_self]
   intro x hx
   have h3:a<x:=h1 x hx
   simp only[Bool.not_eq_true',decide_eq_false_iff_not]
   rintro rfl
   exact List.lt_irrefl _ h3
theorem Arx (r:Roll) (h:r.Sorted) (c:Cmd):DoP r c=doM r c:=by
 unfold DoP doM
 split
 ·rfl
 split
 ·rfl
 rename_i k1 k2
 have ht:=fun n=>Adk h.T n
 have hu:=fun n=>Adk h.U n
 have hx:=fun n=>Adk h.X n
 have gt:=Ari r.tens c.other
 have gr:=Arh r.rols c.other
 rcases(by omega:c.kind=4∨c.kind=5∨c.kind=6∨c.kind=7∨c.kind=8∨c.kind=9∨c.kind=10∨c.kind=11∨c.kind=12∨c.kind=13∨c.kind=14)with hk|hk|hk|hk|hk|hk|hk|hk|hk|hk|hk
 ·simp only[doP,hk,Int.reduceEq,true_or,if_true]
  simp only[Ff,Fe,hk,ht,true_and,Int.reduceEq,if_true]
  cases hn:Co c.name<;>cases h1:Ej c.bytes<;>cases h2:Ej c.keys<;>cases hb:Bv Ten.name r.tens c.name<;>by_cases h8:8≤(r.tens.length:Int)<;>simp[h8]
  rw[Ym h.T _ hb]
 ·simp only[doP,hk,Int.reduceEq,or_true,if_true,if_false]
  simp only[Ff,E9,hk,ht,false_and,Int.reduceEq,if_true,if_false]
  cases h1:Ej c.bytes<;>cases h2:Ej c.keys<;>cases hb:Bv Ten.name r.tens c.name<;>simp
 ·have w1:(64<(c.word.length:Int))=¬c.word.length≤64:=by rw[eq_iff_iff];omega
  have w2:(64<(c.salt.length:Int))=¬c.salt.length≤64:=by rw[eq_iff_iff];omega
  simp only[doP,hk,Int.reduceEq,or_true,true_or,or_self,if_true,if_false]
  simp only[Cc,Kj,hk,hu,w1,w2,Int.reduceEq,if_true,if_false]
  rcases gt with⟨g1,g2⟩|⟨g1,g2⟩<;>rw[g1]<;>cases hn:Co c.name<;>by_cases l1:c.word.length≤64<;>by_cases l2:c.salt.length≤64<;>cases hb:Bv Usr.name r.usrs c.name<;>by_cases h8:16≤(r.usrs.length:Int)<;>simp[l1,l2,h8,g2,Int.not_lt.2]
  all_goals exact(Ym h.U _ hb).symm
 ·have w1:(64<(c.word.length:Int))=¬c.word.length≤64:=by rw[eq_iff_iff];omega
  have w2:(64<(c.salt.length:Int))=¬c.salt.length≤64:=by rw[eq_iff_iff];omega
  simp only[doP,hk,Int.reduceEq,or_true,true_or,or_self,if_true,if_false]
  simp only[Cc,Hi,hk,hu,w1,w2,Int.reduceEq,if_true,if_false]
  by_cases l1:c.word.length≤64<;>by_cases l2:c.salt.length≤64<;>cases hb:Bv Usr.name r.usrs c.name<;>simp[l1,l2]
  obtain⟨x,hx, -⟩:=Ep hb
  rw[hx]
  simp
 ·simp only[doP,hk,Int.reduceEq,or_true,true_or,or_self,if_true,if_false]
  simp only[Cc,E7,hk,hu,Int.reduceEq,if_true,if_false,Adq]
  cases hb:Bv Usr.name r.usrs c.name<;>by_cases hr:c.name=[114,111,111,116]<;>simp[hr,Da]
 ·simp only[doP,hk,Int.reduceEq,or_true,true_or,or_self,if_true,if_false]
  simp only[Bi,Kg,hk,hx,Int.reduceEq,if_true,if_false]
  rcases gt with⟨g1,g2⟩|⟨g1,g2⟩<;>rw[g1]<;>cases hn:Co c.name<;>cases hb:Bv Rol.name r.rols c.name<;>by_cases h8:16≤(r.rols.length:Int)<;>simp[h8,g2,Int.not_lt.2]
  all_goals exact(Ym h.X _ hb).symm
 ·simp only[doP,hk,Int.reduceEq,or_true,true_or,or_self,if_true,if_false]
  simp only[Bi,He,hk,hx,false_and,Int.reduceEq,if_true,if_false]
  cases hb:Bv Rol.name r.rols c.name<;>simp[Da]
 ·simp only[doP,hk,Int.reduceEq,or_true,true_or,or_self,if_true,if_false]
  simp only[Bi,E4,hk,hx,false_and,true_and,Int.reduceEq,if_true,if_false]
  cases hg:(decide (Bj c.grant.sp)&&(c.grant.r||c.grant.w))<;>cases hb:Bv Rol.name r.rols c.name<;>simp
  obtain⟨x,hx, -⟩:=Ep hb
  rw[hx]
  dsimp only
  have hnn:¬((Az Rol.name r.rols c.name:Nat):Int)<0:=by omega
  by_cases hm:c.grant∈x.grants<;>by_cases h8:8≤(x.grants.length:Int)<;>simp[h8,hnn,hm]
 ·simp only[doP,hk,Int.reduceEq,or_true,true_or,or_self,if_true,if_false]
  simp only[Bi,Dp,hk,hx,false_and,true_and,Int.reduceEq,if_true,if_false]
  cases hg:decide (Bj c.grant.sp)<;>cases hb:Bv Rol.name r.rols c.name<;>simp
  obtain⟨x,hx, -⟩:=Ep hb
  rw[hx]
  dsimp only
  by_cases h8:8<((revM x.grants c.grant.sp).length:Int)<;>simp[h8]
 ·simp only[doP,hk,Int.reduceEq,or_true,true_or,or_self,if_true,if_false]
  simp only[Dv,Du,hk,hu,hx,false_and,true_and,Int.reduceEq,if_true,if_false]
  cases hb:Bv Usr.name r.usrs c.name<;>simp
  obtain⟨u,hux, -⟩:=Ep hb
  rw[hux]
  dsimp only
  have hru:=h.R u (List.mem_of_getElem? hux)
  rw[←hx c.other]
  simp only[X9 rfl hru c.other]
  rcases gr with⟨g1,g2⟩|⟨j,x,g1,g2,g3⟩
  ·rw[g1,g2];simp
  ·rw[g1,g2]
   simp only[Int.toNat_natCast,g3]
   have hins:=fun hm:¬c.other∈u.roles=>Ym hru (n:=c.other) c.other (by rw[X9 rfl hru,List.any_eq_false];intro y hy;simp only[decide_eq_true_eq];rintro rfl;exact hm hy)
   have hnn:¬((Az Usr.name r.usrs c.name:Nat):Int)<0:=by omega
   have hnj:¬(j:Int)<0:=by omega
   by_cases ht:x.ten=u.ten<;>by_cases hm:c.other∈u.roles<;>by_cases h8:4≤(u.roles.length:Int)<;>simp[ht,h8,hnn,hnj,hm]
   all_goals rw[hins hm]
 ·simp only[doP,hk,Int.reduceEq,or_true,true_or,or_self,if_true,if_false]
  simp only[Dv,Du,hk,hu,hx,false_and,true_and,Int.reduceEq,if_true,if_false]
  cases hb:Bv Usr.name r.usrs c.name<;>simp
  obtain⟨u,hux, -⟩:=Ep hb
  rw[hux]
  dsimp only
  have hru:=h.R u (List.mem_of_getElem? hux)
  have hdf:=Aj1 hru c.other
  rw[X9 rfl hru c.other]at hdf
  simp only[X9 rfl hru c.other]
  have hnn:¬((Az Usr.name r.usrs c.name:Nat):Int)<0:=by omega
  cases haa:(u.roles.any fun e=>decide (e=c.other))with
  |false=>
   simp only[haa]
   simp[hnn]
   intro hm
   have:=List.any_eq_false.1 haa _ hm
   simp at this
  |true=>
   have:=hdf haa
   simp only[haa,this]
   simp[hnn]
   obtain⟨y,hy,he⟩:=List.any_eq_true.1 haa
   simp only[decide_eq_true_eq]at he
   subst he
   exact hy
set_option maxHeartbeats 40000000

open Go.Proofs
def bigC (c:Cmd):Bool:=decide (1000<c.name.length)||decide (1000<c.other.length)||decide (1000<c.word.length)||decide (1000<c.salt.length)||decide (1000<c.grant.sp.f.length)||decide (1000<c.grant.sp.t.length)
def Kk (l:List Cmd):Bool:=decide (80<l.length)||l.any bigC
theorem Aa5 (c:Cmd):bigC c=true↔(1000<c.name.length∨1000<c.other.length∨1000<c.word.length∨1000<c.salt.length∨1000<c.grant.sp.f.length∨1000<c.grant.sp.t.length):=by
 unfold bigC
 simp only[Bool.or_eq_true,decide_eq_true_eq,or_assoc]
theorem Agu (l:List Cmd) (hl:l.length≤maxLen):Fn Tryz.prog Px [.v (.list (l.map Cmd.toI))] (Is (.v (.bool (Kk l))) [.no]):=by
 refine N6 ?_ (by simp)
 repeat'((conv=>whnf);first|(refine eI ?_ ?_;focus (and_intros<;>exact rfl))|(intro hfact))
 all_goals(try(conv=>whnf))
 refine LoopWq.by (X:=Nat) (fun k=>[(7,.v (.int .i64 k))]) (fun k=>k≤l.length∧k≤80∧∀x∈l.take k,bigC x=false) (fun k=>l.length - k)
  0 (by kernel_rfl) ⟨Nat.zero_le _,Nat.zero_le _,by simp⟩ ?_
 rintro k ⟨h1,h2,h3⟩
 by_cases hk:k<l.length
 ·obtain⟨e,he⟩:∃e,l[k]?=some e:=⟨_,List.getElem?_eq_getElem hk⟩
  have hlt:¬decide ((k:Int)<((l.map Cmd.toI).length:Int))=false:=by simp[hk]
  have hem:=List.mem_of_getElem? he
  have hB:=Aa5 e
  have hgt:bigC e=true∨80≤k→Kk l=true:=fun h=>by
   unfold Kk
   rw[Bool.or_eq_true]
   rcases h with h|h
   ·exact .inr (List.any_eq_true.2 ⟨e,hem,h⟩)
   ·exact .inl (by simp;omega)
  generalize hG:Kk l=G at hgt ⊢
  repeat'((conv=>whnf);first|(apply aI<;>intro hb<;>first|exact absurd hb (by first|assumption|decide)|((try rw[hb]);(try simp only[Aa]at hb)))|(refine eI ?_ ?_;focus (and_intros<;>first|omega|exact rfl|(simp;done)))|(intro hfact)|((try dsimp only);first|rw[Au he]|rw[Am he]|rw[An he]))
  all_goals(try(conv=>whnf))
  all_goals first
   |(obtain rfl:G=true:=hgt (by rw[hB];omega)
     exact Done.mk ⟨by kernel_rfl,by kernel_rfl⟩ (by kernel_rfl))
   |(refine Round.by (k+1) ?_ ⟨hk,by omega,?_⟩ (by omega)
     ·rw[Ae hk hl]
      show norm _ _=upd _ _
      kernel_rfl
     ·intro x hx
      rw[List.take_add_one,he]at hx
      simp only[Option.toList_some,List.mem_append,List.mem_singleton]at hx
      rcases hx with hx|rfl
      ·exact h3 x hx
      ·cases hbx:bigC x with
       |false=>rfl
       |true=>rw[hbx]at hB;have:=hB.1 rfl;omega)
 ·have hlt:¬decide ((k:Int)<((l.map Cmd.toI).length:Int))=true:=by simp;omega
  have hG:Kk l=false:=by
   unfold Kk
   rw[List.take_of_length_le (by omega)]at h3
   rw[Bool.or_eq_false_iff]
   exact⟨by simp;omega,List.any_eq_false.2 fun x hx=>by simp[h3 x hx]⟩
  rw[hG]
  repeat'((conv=>whnf);(apply aI<;>intro hb<;>first|exact absurd hb (by assumption)|((try rw[hb]);(try simp only[Aa]at hb))))
  all_goals(try(conv=>whnf))
  exact Done.mk ⟨by kernel_rfl,by kernel_rfl⟩ (by kernel_rfl)
set_option maxHeartbeats 4000000

open Go.Proofs
structure Roll.Fit (r:Roll):Prop where
 hV:1≤r.rev∧r.rev≤1099511627776
 hT:r.tens.length≤8
 hU:r.usrs.length≤16
 hX:r.rols.length≤16
 hR:∀u∈r.usrs,u.roles.length≤4
 hG:∀x∈r.rols,x.grants.length≤8
theorem Roll.Fit.small {r:Roll} (h:r.Fit):r.Small:=
 ⟨by have:=h.hT;omega,by have:=h.hU;omega,by have:=h.hX;omega,fun u hu=>by have:=h.hR u hu;omega,fun x hx=>by have:=h.hG x hx;omega⟩
theorem Ko {α:Type} {gt:α→Bool} {x y:α}:∀{l:List α},y∈B2 gt x l↔y=x∨y∈l
 | []=>by simp[B2]
 |a::r=>by
  unfold B2
  split
  ·simp
  ·simp only[List.mem_cons,Ko (l:=r)]
   constructor
   ·rintro(h|h|h)<;>simp[h]
   ·rintro(h|h|h)<;>simp[h]
theorem Hu {α:Type} {l:List α} {j:Nat} {x y:α} (h:y∈l.set j x):y=x∨y∈l:=(List.mem_or_eq_of_mem_set h).symm
theorem Arb {r:Roll} (hf:r.Fit) (c:Cmd):(doM r c).1.Fit:=by
 obtain⟨hV,hT,hU,hX,hR,hG⟩:=hf
 unfold doM
 split
 ·exact⟨hV,hT,hU,hX,hR,hG⟩
 split
 ·exact⟨hV,hT,hU,hX,hR,hG⟩
 rename_i h1 h2
 have hV':1≤r.rev+1∧r.rev+1≤1099511627776:=by omega
 split
 ·unfold Fe
  repeat' split
  all_goals first|exact⟨hV,hT,hU,hX,hR,hG⟩|skip
  refine⟨hV',?_,hU,hX,hR,hG⟩
  rw[F5];omega
 split
 ·unfold E9
  repeat' split
  all_goals first|exact⟨hV,hT,hU,hX,hR,hG⟩|skip
  exact⟨hV',by simpa using hT,hU,hX,hR,hG⟩
 split
 ·unfold Kj
  repeat' split
  all_goals first|exact⟨hV,hT,hU,hX,hR,hG⟩|skip
  refine⟨hV',hT,?_,hX,?_,hG⟩
  ·rw[F5];omega
  ·intro u hu
   rcases Ko.1 hu with rfl|hu
   ·simp
   ·exact hR u hu
 split
 ·unfold Hi
  repeat' split
  all_goals first|exact⟨hV,hT,hU,hX,hR,hG⟩|skip
  rename_i u hu
  refine⟨hV',hT,by simpa using hU,hX,?_,hG⟩
  intro v hv
  rcases Hu hv with rfl|hv
  ·exact hR u (List.mem_of_getElem? hu)
  ·exact hR v hv
 split
 ·unfold E7
  repeat' split
  all_goals first|exact⟨hV,hT,hU,hX,hR,hG⟩|skip
  refine⟨hV',hT,?_,hX,?_,hG⟩
  ·simp;omega
  ·intro v hv
   rcases List.mem_append.1 hv with hv|hv
   ·exact hR v (List.mem_of_mem_take hv)
   ·exact hR v (List.mem_of_mem_drop hv)
 split
 ·unfold Kg
  repeat' split
  all_goals first|exact⟨hV,hT,hU,hX,hR,hG⟩|skip
  refine⟨hV',hT,hU,?_,hR,?_⟩
  ·rw[F5];omega
  ·intro u hu
   rcases Ko.1 hu with rfl|hu
   ·simp
   ·exact hG u hu
 split
 ·unfold He
  repeat' split
  all_goals first|exact⟨hV,hT,hU,hX,hR,hG⟩|skip
  refine⟨hV',hT,by simpa using hU,?_,?_,?_⟩
  ·simp;omega
  ·intro v hv
   obtain⟨u,hu,rfl⟩:=List.mem_map.1 hv
   exact Nat.le_trans (List.length_filter_le _ _) (hR u hu)
  ·intro v hv
   rcases List.mem_append.1 hv with hv|hv
   ·exact hG v (List.mem_of_mem_take hv)
   ·exact hG v (List.mem_of_mem_drop hv)
 split
 ·unfold E4
  repeat' split
  all_goals first|exact⟨hV,hT,hU,hX,hR,hG⟩|skip
  refine⟨hV',hT,hU,by simpa using hX,hR,?_⟩
  intro v hv
  rcases Hu hv with rfl|hv
  ·simp;omega
  ·exact hG v hv
 split
 ·unfold Dp
  repeat' split
  all_goals first|exact⟨hV,hT,hU,hX,hR,hG⟩|skip
  refine⟨hV',hT,hU,by simpa using hX,hR,?_⟩
  intro v hv
  rcases Hu hv with rfl|hv
  ·dsimp only;omega
  ·exact hG v hv
 ·unfold Du
  repeat' split
  all_goals first|exact⟨hV,hT,hU,hX,hR,hG⟩|skip
  ·rename_i u hu _ _
   refine⟨hV',hT,by simpa using hU,hX,?_,hG⟩
   intro v hv
   rcases Hu hv with rfl|hv
   ·exact Nat.le_trans (List.length_filter_le _ _) (hR u (List.mem_of_getElem? hu))
   ·exact hR v hv
  ·refine⟨hV',hT,by simpa using hU,hX,?_,hG⟩
   intro v hv
   rcases Hu hv with rfl|hv
   ·rw[F5];omega
   ·exact hR v hv
theorem Ai5 (a b:Ad):(Ea a b).Fit:=⟨⟨by show(1:Int)≤1;omega,by show(1:Int)≤1099511627776;omega⟩,Nat.zero_le _,by show 1≤16;decide,Nat.zero_le _,by intro u hu;simp[Ea]at hu;subst hu;simp,by intro x hx;simp[Ea]at hx⟩

open Go.Proofs
theorem Ng {α:Type} {nm:α→Ad} {y:α} {n:Ad} (hy:nm y=n):∀{l:List α},Dt nm l→(∀x∈l,nm x≠n)→Dt nm (B2 (fun e=>decide (n<nm e)) y l)
 | [],_,_=>by simp[B2]
 |a::r,h,hn=>by
  obtain⟨h1,h2⟩:=List.pairwise_cons.1 h
  unfold B2
  by_cases hlt:n<nm a
  ·rw[if_pos (by simpa using hlt)]
   refine List.pairwise_cons.2 ⟨fun x hx=>?_,h⟩
   rw[hy]
   rcases List.mem_cons.1 hx with rfl|hx
   ·exact hlt
   ·exact List.lt_trans hlt (h1 x hx)
  ·rw[if_neg (by simpa using hlt)]
   have ha:nm a<n:=by
    rcases Akk (nm a) n with h|h|h
    ·exact h
    ·exact absurd h (hn a (List.mem_cons_self ..))
    ·exact absurd h hlt
   refine List.pairwise_cons.2 ⟨fun x hx=>?_,Ng hy h2 fun x hx=>hn x (List.mem_cons_of_mem _ hx)⟩
   rcases Ko.1 hx with rfl|hx
   ·rw[hy];exact ha
   ·exact h1 x hx
theorem Ap8 {α:Type} {nm:α→Ad} {l:List α}:Dt nm l↔(l.map nm).Pairwise (· < ·):=List.pairwise_map.symm
theorem J5 {α:Type} {nm:α→Ad} {l:List α} {j:Nat} {x y:α} (hr:Dt nm l) (h:l[j]?=some x) (hn:nm y=nm x):Dt nm (l.set j y):=by
 rw[Ap8]at hr ⊢
 have:(l.set j y).map nm=l.map nm:=by
  rw[List.map_set,hn]
  obtain⟨hj,hx⟩:=List.getElem?_eq_some_iff.1 h
  apply List.ext_getElem?
  intro i
  rw[List.getElem?_set]
  split
  ·rename_i e;subst e;simp[hj,hx]
  ·rfl
 rw[this]
 exact hr
theorem Afh {α:Type} {nm:α→Ad} {l:List α} (hr:Dt nm l) (j:Nat):Dt nm (l.take j++l.drop (j+1)):=by
 rw[←List.eraseIdx_eq_take_drop_succ]
 exact hr.sublist (List.eraseIdx_sublist ..)
theorem Aq3 {α:Type} {p:α→Bool} {l:List α} (h:findAt p 0 l<0):∀x∈l,p x=false:=by
 rcases Gq p 0 l with⟨h1,_⟩|⟨j,x,h1,_⟩
 ·intro x hx
  have:=List.find?_eq_none.1 h1 x hx
  simpa using this
 ·omega
theorem Aq4 {α:Type} {p:α→Bool} {l:List α} (h:¬findAt p 0 l<0):∃x,l[(findAt p 0 l).toNat]?=some x∧p x=true:=by
 rcases Gq p 0 l with⟨_,h1⟩|⟨j,x,h1,h2,h3⟩
 ·omega
 ·refine⟨x,?_,List.find?_some h3⟩
  rw[h1]
  simpa using h2
theorem Aj2 {r:Roll} (h:r.Sorted) (c:Cmd):(doM r c).1.Sorted:=by
 obtain⟨hT,hU,hX,hR⟩:=h
 have h0:r.Sorted:=⟨hT,hU,hX,hR⟩
 have nn:∀{α:Type} {nm:α→Ad} {l:List α} {n:Ad},findAt (fun t=>decide (nm t=n)) 0 l<0→∀x∈l,nm x≠n:=fun h x hx=>by simpa using Aq3 h x hx
 unfold doM
 split
 ·exact h0
 split
 ·exact h0
 split
 ·unfold Fe
  repeat' split
  all_goals try exact h0
  exact⟨Ng (nm:=Ten.name) (n:=c.name) rfl hT (nn (show r.tenAt c.name<0 by omega)),hU,hX,hR⟩
 split
 ·unfold E9
  repeat' split
  all_goals try exact h0
  rename_i hn
  obtain⟨x,hx,hp⟩:=Aq4 hn
  exact⟨J5 hT hx (by simpa using(of_decide_eq_true hp).symm),hU,hX,hR⟩
 split
 ·unfold Kj
  repeat' split
  all_goals try exact h0
  refine⟨hT,Ng (nm:=Usr.name) (n:=c.name) rfl hU (nn (show r.usrAt c.name<0 by omega)),hX,fun u hu=>?_⟩
  rcases Ko.1 hu with rfl|hu
  ·exact List.Pairwise.nil
  ·exact hR u hu
 split
 ·unfold Hi
  repeat' split
  all_goals try exact h0
  rename_i hn _ u hu
  refine⟨hT,J5 hU hu rfl,hX,fun v hv=>?_⟩
  rcases Hu hv with rfl|hv
  ·exact hR u (List.mem_of_getElem? hu)
  ·exact hR v hv
 split
 ·unfold E7
  repeat' split
  all_goals try exact h0
  refine⟨hT,Afh hU _,hX,fun v hv=>?_⟩
  rcases List.mem_append.1 hv with hv|hv
  ·exact hR v (List.mem_of_mem_take hv)
  ·exact hR v (List.mem_of_mem_drop hv)
 split
 ·unfold Kg
  repeat' split
  all_goals try exact h0
  exact⟨hT,hU,Ng (nm:=Rol.name) (n:=c.name) rfl hX (nn (show r.rolAt c.name<0 by omega)),hR⟩
 split
 ·unfold He
  repeat' split
  all_goals try exact h0
  refine⟨hT,List.pairwise_map.2 hU,Afh hX _,fun v hv=>?_⟩
  obtain⟨u,hu,rfl⟩:=List.mem_map.1 hv
  exact(hR u hu).filter _
 split
 ·unfold E4
  repeat' split
  all_goals try exact h0
  rename_i x hx _ _
  exact⟨hT,hU,J5 hX hx rfl,hR⟩
 split
 ·unfold Dp
  repeat' split
  all_goals try exact h0
  rename_i x hx _
  exact⟨hT,hU,J5 hX hx rfl,hR⟩
 ·unfold Du
  repeat' split
  all_goals try exact h0
  ·rename_i u hu _ _
   refine⟨hT,J5 hU hu rfl,hX,fun v hv=>?_⟩
   rcases Hu hv with rfl|hv
   ·exact(hR u (List.mem_of_getElem? hu)).filter _
   ·exact hR v hv
  ·rename_i u hu _ _ _ x hx _ ha _
   refine⟨hT,J5 hU hu rfl,hX,fun v hv=>?_⟩
   rcases Hu hv with rfl|hv
   ·exact Ng (nm:=Cj) rfl (hR u (List.mem_of_getElem? hu)) fun y hy=>by
     intro e
     apply ha
     exact List.any_eq_true.2 ⟨y,hy,by simpa using e⟩
   ·exact hR v hv
theorem Yu (a b:Ad):(Ea a b).Sorted:=⟨List.Pairwise.nil,by simp[Ea],List.Pairwise.nil,by intro u hu;simp[Ea]at hu;subst hu;exact List.Pairwise.nil⟩
set_option maxHeartbeats 40000000

open Go.Proofs
def next (r:Roll) (c:Cmd):Roll:=(doM r c).1
def Ys (l:List Cmd):Roll:=l.foldl next (Ea [115] [119])
theorem U4:∀(l:List Cmd) (r:Roll),r.Fit→r.Sorted→(l.foldl next r).Fit∧(l.foldl next r).Sorted
 | [],r,h1,h2=>⟨h1,h2⟩
 |c::l,r,h1,h2=>U4 l _ (Arb h1 c) (Aj2 h2 c)
theorem Aqe (r:Roll) (hf:r.Fit) (hs:r.Sorted) (c:Cmd) (hc:c.salt.length≤100000∧c.word.length≤100000):Fn Tryz.prog Aa4 [.v r.toI,.v c.toI] (Is (.tup [.i (doM r c).1.toI,.i (.int .i64 (doM r c).2)]) [.no,.no]):=by
 rw[←Arx r hs c]
 exact J6 r hf.small c hc (by have:=hf.hV;omega)
theorem Amk (l:List Cmd) (hl:l.length≤maxLen) (hb:∀c∈l,bigC c=false):Fn Tryz.prog Re [.v (.list (l.map Cmd.toI))] (Is (.tup [.i (Ys l).toI,.i (Ys l).toI,.i (.bool true)]) [.no]):=by
 refine Qs ?_ (by simp)
 have n1:=Acd [115] [119] (by simp) (by simp)
 have n2:=Aqh [115] [119] (by simp) (by simp)
 have g0:=Ai5 [115] [119]
 have g1:=Yu [115] [119]
 unfold Ys
 generalize Ea [115] [119]=R0 at*
 repeat'((conv=>whnf);first|(refine eI ?_ ?_;focus (and_intros<;>first|omega|exact rfl|(intro _ hh;cases hh;done)|(simp;done)|decide))|(intro hfact)|(refine CallWp.mk ⟨_,n1,?_⟩;rintro _ _ ⟨rfl,rfl⟩)|(refine CallWp.mk ⟨_,n2,?_⟩;rintro _ _ ⟨rfl,rfl⟩))
 all_goals(try(conv=>whnf))
 obtain⟨R,hR⟩:∃R:Nat→Roll,R=fun k=>(l.take k).foldl next R0:=⟨_,rfl⟩
 have hR0:R 0=R0:=by rw[hR];rfl
 have hRl:l.foldl next R0=R l.length:=by rw[hR];simp
 have hRg:∀k,(R k).Fit∧(R k).Sorted:=fun k=>by rw[hR];exact U4 _ _ g0 g1
 have hRs:∀k e,l[k]?=some e→R (k+1)=next (R k) e:=fun k e he=>by
  rw[hR]
  simp only[List.take_add_one,he,Option.toList_some,List.foldl_append,List.foldl_cons,List.foldl_nil]
 rw[hRl]
 clear hR hRl
 refine LoopWq.by (X:=Nat) (fun k=>[(5,.box (.one (.i (R k).toI))),(7,.box (.one (.i (R k).toI))),(25,.v (.int .i64 k))]) (fun k=>k≤l.length) (fun k=>l.length - k)
  0 (by rw[hR0];kernel_rfl) (Nat.zero_le _) ?_
 intro k hk
 by_cases hk2:k<l.length
 ·obtain⟨e,he⟩:∃e,l[k]?=some e:=⟨_,List.getElem?_eq_getElem hk2⟩
  have hlt:¬decide ((k:Int)<((l.map Cmd.toI).length:Int))=false:=by simp[hk2]
  have hbe:¬bigC e=true:=by rw[hb e (List.mem_of_getElem? he)];simp
  rw[Aa5]at hbe
  obtain⟨hf,hs⟩:=hRg k
  have d1:=Aqe (R k) hf hs e (by omega)
  have d2:=Arv (R k) hf.small e (by have:=hf.hV;omega) (by omega)
  have hnx:=hRs k e he
  unfold next at hnx
  obtain⟨Rk,hRk⟩:∃x,x=R k:=⟨_,rfl⟩
  rw[←hRk]at hf hs d1 d2 hnx ⊢
  obtain⟨X,hX⟩:∃X,X=doM Rk e:=⟨_,rfl⟩
  rw[←hX]at d1 d2 hnx
  obtain⟨a,b⟩:=X
  dsimp only at hnx d1 d2
  clear hX
  repeat'((conv=>whnf);first|(apply aI<;>intro hb<;>first|exact absurd hb (by assumption)|((try rw[hb]);(try simp only[Aa]at hb)))|(refine eI ?_ ?_;focus (and_intros<;>first|omega|exact rfl|(intro _ hh;cases hh;done)|(simp;done)|decide))|((with_reducible apply Drawn.by0);(focus kernel_rfl);intro hfact;(try simp only[dRS]at hfact))|((try dsimp only);first|rw[Au he]|rw[Am he]|rw[An he])|(refine CallWp.mk ⟨_,d1,?_⟩;rintro _ _ ⟨rfl,rfl⟩)|(refine CallWp.mk ⟨_,d2,?_⟩;rintro _ _ ⟨rfl,rfl⟩))
  all_goals(try(conv=>whnf))
  all_goals first
   |(exfalso;have ht:¬True:=(by assumption);exact ht True.intro)
   |(refine Round.by (k+1) ?_ hk2 (by omega)
     rw[Ae hk2 hl,hnx]
     show norm _ _=upd _ _
     kernel_rfl)
 ·have hlt:¬decide ((k:Int)<((l.map Cmd.toI).length:Int))=true:=by simp;omega
  obtain rfl:k=l.length:=by omega
  repeat'((conv=>whnf);first|(apply aI<;>intro hb<;>first|exact absurd hb (by assumption)|((try rw[hb]);(try simp only[Aa]at hb)))|(refine eI ?_ ?_;focus (and_intros<;>first|omega|exact rfl))|((with_reducible apply Drawn.by0);(focus kernel_rfl);intro hfact;(try simp only[dRS]at hfact)))
  all_goals(try(conv=>whnf))
  exact Done.mk ⟨by kernel_rfl,by kernel_rfl⟩ (by kernel_rfl)

open Go.Proofs
theorem Amo (r:Roll) (hs:r.Small):Fn Tryz.prog Ro [.v r.toI,.v r.toI] (Is (.v (.bool true)) [.no,.no]):=by
 refine Q1 ?_ (by simp)
 obtain⟨b1,b2,b3,b4,b5⟩:=hs
 repeat'((conv=>whnf);first|(apply aI<;>intro hb<;>first|exact absurd hb (by decide)|((try rw[hb]);(try simp only[Aa]at hb)))|(refine eI ?_ ?_;focus (and_intros<;>first|omega|exact rfl|(simp;done)))|(intro hfact))
 all_goals(try(conv=>whnf))
 all_goals first|(exfalso;have ht:¬True:=(by assumption);exact ht True.intro)|(exfalso;simp at hb;done)|skip
 refine LoopWq.by (X:=Nat) (fun k=>[(5,.v (.int .i64 k))]) (fun k=>k≤r.tens.length) (fun k=>r.tens.length - k)
  0 (by kernel_rfl) (Nat.zero_le _) ?_
 intro k hk
 by_cases hk2:k<r.tens.length
 ·obtain⟨e,he⟩:∃e,r.tens[k]?=some e:=⟨_,List.getElem?_eq_getElem hk2⟩
  have hlt:¬decide ((k:Int)<((r.tens.map Ten.toI).length:Int))=false:=by simp[hk2]
  repeat'((conv=>whnf);first|(apply aI<;>intro hb<;>first|exact absurd hb (by assumption)|((try rw[hb]);(try simp only[Aa]at hb)))|(refine eI ?_ ?_;focus (and_intros<;>first|omega|exact rfl|(simp;done)))|(intro hfact)|((with_reducible apply Drawn.by0);(focus kernel_rfl);intro hfact;(try simp only[dRS]at hfact))|((try dsimp only);first|rw[Au he]|rw[Am he]|rw[An he]))
  all_goals(try(conv=>whnf))
  all_goals first|(exfalso;have ht:¬True:=(by assumption);exact ht True.intro)|(exfalso;simp at hb;done)|skip
  refine Round.by (k+1) ?_ hk2 (by omega)
  rw[Ae (n:=r.tens.length) hk2 (by simp only[maxLen];omega)]
  show norm _ _=upd _ _
  kernel_rfl
 have hlt:¬decide ((k:Int)<((r.tens.map Ten.toI).length:Int))=true:=by simp;omega
 obtain rfl:k=r.tens.length:=by omega
 clear hk hk2
 repeat'((conv=>whnf);first|(apply aI<;>intro hb<;>first|exact absurd hb (by assumption)|((try rw[hb]);(try simp only[Aa]at hb)))|(refine eI ?_ ?_;focus (and_intros<;>first|omega|exact rfl|(simp;done)))|(intro hfact))
 all_goals(try(conv=>whnf))
 refine LoopWq.by (X:=Nat) (fun k=>[(6,.v (.int .i64 k))]) (fun k=>k≤r.usrs.length) (fun k=>r.usrs.length - k)
  0 (by kernel_rfl) (Nat.zero_le _) ?_
 clear hlt
 intro k hk
 by_cases hk2:k<r.usrs.length
 ·obtain⟨u,he⟩:∃e,r.usrs[k]?=some e:=⟨_,List.getElem?_eq_getElem hk2⟩
  have hlt:¬decide ((k:Int)<((r.usrs.map Usr.toI).length:Int))=false:=by simp[hk2]
  have hul:=b4 u (List.mem_of_getElem? he)
  repeat'((conv=>whnf);first|(apply aI<;>intro hb<;>first|exact absurd hb (by first|assumption|decide)|((try rw[hb]);(try simp only[Aa]at hb)))|(refine eI ?_ ?_;focus (and_intros<;>first|omega|exact rfl|(simp;done)))|(intro hfact)|((with_reducible apply Drawn.by0);(focus kernel_rfl);intro hfact;(try simp only[dRS]at hfact))|((try dsimp only);first|rw[Au he]|rw[Am he]|rw[An he]))
  all_goals(try(conv=>whnf))
  all_goals first|(exfalso;have ht:¬True:=(by assumption);exact ht True.intro)|(exfalso;simp at hb;done)|skip
  refine LoopWq.by (X:=Nat) (fun j=>[(9,.v (.int .i64 j))]) (fun j=>j≤u.roles.length) (fun j=>u.roles.length - j)
   0 (by kernel_rfl) (Nat.zero_le _) ?_
  intro j hj
  by_cases hj2:j<u.roles.length
  ·obtain⟨e,hje⟩:∃e,u.roles[j]?=some e:=⟨_,List.getElem?_eq_getElem hj2⟩
   have hlt2:¬decide ((j:Int)<((strs u.roles).length:Int))=false:=by simp[hj2]
   repeat'((conv=>whnf);first|(apply aI<;>intro hb<;>first|exact absurd hb (by assumption)|((try rw[hb]);(try simp only[Aa]at hb)))|(refine eI ?_ ?_;focus (and_intros<;>first|omega|exact rfl|(simp;done)))|(intro hfact)|((with_reducible apply Drawn.by0);(focus kernel_rfl);intro hfact;(try simp only[dRS]at hfact))|((try dsimp only);first|rw[Au hje]|rw[Am hje]|rw[An hje]))
   all_goals(try(conv=>whnf))
   all_goals first|(exfalso;have ht:¬True:=(by assumption);exact ht True.intro)|(exfalso;simp at hb;done)|skip
   refine Round.by (j+1) ?_ hj2 (by omega)
   rw[Ae (n:=u.roles.length) hj2 (by simp only[maxLen];omega)]
   show norm _ _=upd _ _
   kernel_rfl
  ·have hlt2:¬decide ((j:Int)<((strs u.roles).length:Int))=true:=by simp;omega
   obtain rfl:j=u.roles.length:=by omega
   repeat'((conv=>whnf);first|(apply aI<;>intro hb<;>first|exact absurd hb (by assumption)|((try rw[hb]);(try simp only[Aa]at hb)))|(refine eI ?_ ?_;focus (and_intros<;>first|omega|exact rfl|(simp;done)))|(intro hfact))
   all_goals(try(conv=>whnf))
   refine Round.by (k+1) ?_ hk2 (by omega)
   rw[Ae (n:=r.usrs.length) hk2 (by simp only[maxLen];omega)]
   show norm _ _=upd _ _
   kernel_rfl
 have hlt:¬decide ((k:Int)<((r.usrs.map Usr.toI).length:Int))=true:=by simp;omega
 obtain rfl:k=r.usrs.length:=by omega
 clear hk hk2
 repeat'((conv=>whnf);first|(apply aI<;>intro hb<;>first|exact absurd hb (by assumption)|((try rw[hb]);(try simp only[Aa]at hb)))|(refine eI ?_ ?_;focus (and_intros<;>first|omega|exact rfl|(simp;done)))|(intro hfact))
 all_goals(try(conv=>whnf))
 refine LoopWq.by (X:=Nat) (fun k=>[(10,.v (.int .i64 k))]) (fun k=>k≤r.rols.length) (fun k=>r.rols.length - k)
  0 (by kernel_rfl) (Nat.zero_le _) ?_
 clear hlt
 intro k hk
 by_cases hk2:k<r.rols.length
 ·obtain⟨u,he⟩:∃e,r.rols[k]?=some e:=⟨_,List.getElem?_eq_getElem hk2⟩
  have hlt:¬decide ((k:Int)<((r.rols.map Rol.toI).length:Int))=false:=by simp[hk2]
  have hul:=b5 u (List.mem_of_getElem? he)
  repeat'((conv=>whnf);first|(apply aI<;>intro hb<;>first|exact absurd hb (by first|assumption|decide)|((try rw[hb]);(try simp only[Aa]at hb)))|(refine eI ?_ ?_;focus (and_intros<;>first|omega|exact rfl|(simp;done)))|(intro hfact)|((with_reducible apply Drawn.by0);(focus kernel_rfl);intro hfact;(try simp only[dRS]at hfact))|((try dsimp only);first|rw[Au he]|rw[Am he]|rw[An he]))
  all_goals(try(conv=>whnf))
  all_goals first|(exfalso;have ht:¬True:=(by assumption);exact ht True.intro)|(exfalso;simp at hb;done)|skip
  refine LoopWq.by (X:=Nat) (fun j=>[(13,.v (.int .i64 j))]) (fun j=>j≤u.grants.length) (fun j=>u.grants.length - j)
   0 (by kernel_rfl) (Nat.zero_le _) ?_
  intro j hj
  by_cases hj2:j<u.grants.length
  ·obtain⟨e,hje⟩:∃e,u.grants[j]?=some e:=⟨_,List.getElem?_eq_getElem hj2⟩
   have hlt2:¬decide ((j:Int)<((u.grants.map Gra.toI).length:Int))=false:=by simp[hj2]
   repeat'((conv=>whnf);first|(apply aI<;>intro hb<;>first|exact absurd hb (by assumption)|((try rw[hb]);(try simp only[Aa]at hb)))|(refine eI ?_ ?_;focus (and_intros<;>first|omega|exact rfl|(simp;done)))|(intro hfact)|((with_reducible apply Drawn.by0);(focus kernel_rfl);intro hfact;(try simp only[dRS]at hfact))|((try dsimp only);first|rw[Au hje]|rw[Am hje]|rw[An hje]))
   all_goals(try(conv=>whnf))
   all_goals first|(exfalso;have ht:¬True:=(by assumption);exact ht True.intro)|(exfalso;simp at hb;done)|skip
   refine Round.by (j+1) ?_ hj2 (by omega)
   rw[Ae (n:=u.grants.length) hj2 (by simp only[maxLen];omega)]
   show norm _ _=upd _ _
   kernel_rfl
  ·have hlt2:¬decide ((j:Int)<((u.grants.map Gra.toI).length:Int))=true:=by simp;omega
   obtain rfl:j=u.grants.length:=by omega
   repeat'((conv=>whnf);first|(apply aI<;>intro hb<;>first|exact absurd hb (by assumption)|((try rw[hb]);(try simp only[Aa]at hb)))|(refine eI ?_ ?_;focus (and_intros<;>first|omega|exact rfl|(simp;done)))|(intro hfact))
   all_goals(try(conv=>whnf))
   refine Round.by (k+1) ?_ hk2 (by omega)
   rw[Ae (n:=r.rols.length) hk2 (by simp only[maxLen];omega)]
   show norm _ _=upd _ _
   kernel_rfl
 have hlt:¬decide ((k:Int)<((r.rols.map Rol.toI).length:Int))=true:=by simp;omega
 obtain rfl:k=r.rols.length:=by omega
 clear hk hk2
 repeat'((conv=>whnf);first|(apply aI<;>intro hb<;>first|exact absurd hb (by assumption)|((try rw[hb]);(try simp only[Aa]at hb)))|(refine eI ?_ ?_;focus (and_intros<;>first|omega|exact rfl|(simp;done)))|(intro hfact))
 all_goals(try(conv=>whnf))
 exact Done.mk ⟨by kernel_rfl,by kernel_rfl⟩ (by kernel_rfl)

open Go.Proofs
theorem Anj (l:List Usr) (n:Ad):(getU l n=(⟨[],[],[],[],[]⟩,false)∧findAt (fun t=>decide (t.name=n)) 0 l= -1)∨∃(j:Nat) (x:Usr),getU l n=(x,true)∧findAt (fun t=>decide (t.name=n)) 0 l=(j:Int)∧x.name=n:=by
 unfold getU
 rcases Gq (fun t:Usr=>decide (t.name=n)) 0 l with⟨h1,h2⟩|⟨j,x,h1,h2,h3⟩
 ·rw[h1,h2];exact .inl ⟨rfl,rfl⟩
 ·rw[h3,h1];exact .inr ⟨j,x,rfl,by omega,by simpa using List.find?_some h3⟩
theorem Anh (l:List Rol) (n:Ad):((getR l n).2=false∧findAt (fun t=>decide (t.name=n)) 0 l= -1)∨∃(j:Nat) (x:Rol),getR l n=(x,true)∧findAt (fun t=>decide (t.name=n)) 0 l=(j:Int)∧x.name=n:=by
 unfold getR
 rcases Gq (fun t:Rol=>decide (t.name=n)) 0 l with⟨h1,h2⟩|⟨j,x,h1,h2,h3⟩
 ·rw[h1,h2];exact .inl ⟨rfl,rfl⟩
 ·rw[h3,h1];exact .inr ⟨j,x,rfl,by omega,by simpa using List.find?_some h3⟩
theorem Ani (l:List Ten) (n:Ad):((getT l n).2=false∧findAt (fun t=>decide (t.name=n)) 0 l= -1)∨∃(j:Nat) (x:Ten),getT l n=(x,true)∧findAt (fun t=>decide (t.name=n)) 0 l=(j:Int)∧x.name=n:=by
 unfold getT
 rcases Gq (fun t:Ten=>decide (t.name=n)) 0 l with⟨h1,h2⟩|⟨j,x,h1,h2,h3⟩
 ·rw[h1,h2];exact .inl ⟨rfl,rfl⟩
 ·rw[h3,h1];exact .inr ⟨j,x,rfl,by omega,by simpa using List.find?_some h3⟩
theorem Adg (l:List Cmd) (hl:l.length≤maxLen):Fn Tryz.prog Le [.v (.list (l.map Cmd.toI))] (Is (.v (.bool true)) [.no]):=by
 refine K4 ?_ (by simp)
 have aw:=Agh
 have gr:=Agu l hl
 cases hg:Kk l with
 |true=>
  rw[hg]at gr
  repeat'((conv=>whnf);first|(apply aI<;>intro hb<;>first|exact absurd hb (by decide)|((try rw[hb]);(try simp only[Aa]at hb)))|(refine eI ?_ ?_;focus (and_intros<;>first|(intro _ hh;cases hh;done)|(simp;done)|decide))|(refine CallWp.mk ⟨_,aw,?_⟩;rintro _ _ ⟨rfl,rfl⟩)|(refine CallWp.mk ⟨_,gr,?_⟩;rintro _ _ ⟨rfl,rfl⟩))
  all_goals(try(conv=>whnf))
  exact Done.mk ⟨by kernel_rfl,by kernel_rfl⟩ (by kernel_rfl)
 |false=>
 rw[hg]at gr
 have hb:∀c∈l,bigC c=false:=by
  unfold Kk at hg
  rw[Bool.or_eq_false_iff]at hg
  intro c hc
  have:=List.any_eq_false.1 hg.2 c hc
  simpa using this
 have md:=Amk l hl hb
 have hf:=(U4 l (Ea [115] [119]) (Ai5 _ _) (Yu _ _)).1
 change (Ys l).Fit at hf
 generalize Ys l=R at*
 have sm:=Amo R hf.small
 repeat'((conv=>whnf);first|(apply aI<;>intro hb<;>first|exact absurd hb (by decide)|((try rw[hb]);(try simp only[Aa]at hb)))|(refine eI ?_ ?_;focus (and_intros<;>first|omega|exact rfl|(intro _ hh;cases hh;done)|(simp;done)|decide))|(intro hfact)|(refine CallWp.mk ⟨_,aw,?_⟩;rintro _ _ ⟨rfl,rfl⟩)|(refine CallWp.mk ⟨_,gr,?_⟩;rintro _ _ ⟨rfl,rfl⟩)|(refine CallWp.mk ⟨_,md,?_⟩;rintro _ _ ⟨rfl,rfl⟩)|(refine CallWp.mk ⟨_,sm,?_⟩;rintro _ _ ⟨rfl,rfl⟩))
 all_goals(try(conv=>whnf))
 refine LoopWq.by (X:=Nat) (fun k=>[(34,.v (.int .i64 k))]) (fun k=>k≤l.length) (fun k=>l.length - k)
  0 (by kernel_rfl) (Nat.zero_le _) ?_
 intro k hk
 by_cases hk2:k<l.length
 ·obtain⟨e,he⟩:∃e,l[k]?=some e:=⟨_,List.getElem?_eq_getElem hk2⟩
  have hlt:¬decide ((k:Int)<((l.map Cmd.toI).length:Int))=false:=by simp[hk2]
  have q1:=Uk R hf.small e.name
  have q2:=Uj R hf.small e.name
  have q3:=Jj R hf.small e.name
  have p1:=Cg R e.name (by have:=hf.hU;omega)
  have p2:=Ca R e.name (by have:=hf.hX;omega)
  have p3:=Bn R e.name (by have:=hf.hT;omega)
  unfold Roll.usrAt at p1
  unfold Roll.rolAt at p2
  unfold Roll.tenAt at p3
  clear aw gr md sm hb hg
  iterate 4 (all_goals(try((conv=>whnf);first
   |(refine aI (fun hb=>?_) (fun hb=>?_)<;>first|(exact absurd hb (by first|assumption|decide))|(with_reducible exact absurd hb Bool.false_ne_true)|(with_reducible exact absurd hb.symm Bool.false_ne_true)|(exfalso;first|(simp only[Ag]at hb<;>omega)|omega)|((try rw[hb]);(try simp only[Aa]at hb);(try subst hb)))
   |(refine eI ?_ ?_;focus (and_intros<;>first|(with_reducible exact sz18 _)|(with_reducible exact Ar9 _)|(with_reducible exact Asa _)|(with_reducible exact Asb _)|omega|exact rfl|assumption|(intro _ hh;cases hh;done)|exact A0 (by rfl)|exact size_map (fun _=>rfl)|exact Aqd rfl|exact take_size (fun _=>rfl)|exact B5 rfl|exact Am8 (fun _=>rfl)|exact Am7 (fun _=>rfl)|(simp only[Ag];omega)|(simp;done)|decide))
   |(intro hfact)
   |((try dsimp only);first|rw[Au he]|rw[Am he]|rw[An he]))))
  generalize hKK:wqS Tryz.prog _ _=KK
  as_aux_lemma=>
   repeat'((conv=>whnf);(refine eI ?_ ?_;focus (and_intros<;>first|omega|exact rfl)))
   all_goals(try(conv=>whnf))
   rw[←hKK]
   clear hKK he
   rcases Anj R.usrs e.name with⟨u1,u2⟩|⟨ju,xu,u1,u2,u3⟩<;>rcases Anh R.rols e.name with⟨x1,x2⟩|⟨jx,xx,x1,x2,x3⟩<;>rcases Ani R.tens e.name with⟨t1,t2⟩|⟨jt,xt,t1,t2,t3⟩
   all_goals rw[u2]at p1
   all_goals rw[x2]at p2
   all_goals rw[t2]at p3
   all_goals rw[u1]at q1
   all_goals first|rw[x1]at q2|(rw[←Prod.eta (getR R.rols e.name),x1]at q2;generalize (getR R.rols e.name).1=yx at q2)
   all_goals first|rw[t1]at q3|(rw[←Prod.eta (getT R.tens e.name),t1]at q3;generalize (getT R.tens e.name).1=yt at q3)
   all_goals clear u1 u2 x1 x2 t1 t2
   all_goals
    as_aux_lemma=>
     repeat'((conv=>whnf);first|(apply aI<;>intro hb<;>first|exact absurd hb (by first|assumption|decide)|with_reducible exact absurd hb.symm Bool.false_ne_true|((try rw[hb]);(try simp only[Aa]at hb)))|(refine eI ?_ ?_;focus (and_intros<;>first|omega|exact rfl|(intro _ hh;cases hh;done)|(simp;done)|decide))|(refine CallWp.mk ⟨_,q1,?_⟩;rintro _ _ ⟨rfl,rfl⟩)|(refine CallWp.mk ⟨_,q2,?_⟩;rintro _ _ ⟨rfl,rfl⟩)|(refine CallWp.mk ⟨_,q3,?_⟩;rintro _ _ ⟨rfl,rfl⟩)|(refine CallWp.mk ⟨_,p1,?_⟩;rintro _ _ ⟨rfl,rfl⟩)|(refine CallWp.mk ⟨_,p2,?_⟩;rintro _ _ ⟨rfl,rfl⟩)|(refine CallWp.mk ⟨_,p3,?_⟩;rintro _ _ ⟨rfl,rfl⟩))
     all_goals(try(conv=>whnf))
     all_goals first
      |contradiction
      |(exfalso;have ht:¬True:=(by assumption);exact ht True.intro)
      |(refine Round.by (k+1) ?_ hk2 (by omega)
        rw[Ae hk2 hl]
        show norm _ _=upd _ _
        kernel_rfl)
 ·have hlt:¬decide ((k:Int)<((l.map Cmd.toI).length:Int))=true:=by simp;omega
  repeat'((conv=>whnf);(apply aI<;>intro hb<;>first|exact absurd hb (by assumption)|((try rw[hb]);(try simp only[Aa]at hb))))
  all_goals(try(conv=>whnf))
  exact Done.mk ⟨by kernel_rfl,by kernel_rfl⟩ (by kernel_rfl)
end Go.Ab
