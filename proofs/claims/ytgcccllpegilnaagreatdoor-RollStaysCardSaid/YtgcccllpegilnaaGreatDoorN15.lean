/- Lemmas -/
import Derived.Test.YtgcccllpegilnaaGreatDoorM1
set_option linter.unusedVariables false
set_option linter.unusedSimpArgs false
set_option maxRecDepth 100000
set_option maxHeartbeats 4000000
namespace Go.Ab
open Go.Proofs
structure Roll.Sorted (r:Roll):Prop where
 T:H5 Ten.name r.tens
 U:H5 Usr.name r.usrs
 X:H5 Rol.name r.rols
 R:∀u∈r.usrs,H5 Gi u.roles
theorem Qp {α:Type} (p:α→Bool):∀(k:Nat) (l:List α),(l.find? p=none∧findAt p k l= -1)∨∃(j:Nat) (x:α),findAt p k l=((k+j:Nat):Int)∧l[j]?=some x∧l.find? p=some x
 |k,[]=>.inl ⟨rfl,rfl⟩
 |k,a::r=>by
  by_cases h:p a=true
  ·exact .inr ⟨0,a,by simp[findAt,h],rfl,by simp[h]⟩
  ·rcases Qp p (k+1) r with⟨h1,h2⟩|⟨j,x,h1,h2,h3⟩
   ·exact .inl ⟨by simp[h,h1],by simp[findAt,h,h2]⟩
   ·exact .inr ⟨j+1,x,by rw[findAt,if_neg h,h1];congr 1;omega,by simpa using h2,by simp[h,h3]⟩
theorem Bg1 (l:List Ten) (n:Ai):((getT l n).2=false∧findAt (fun t=>decide (t.name=n)) 0 l= -1)∨((getT l n).2=true∧0≤findAt (fun t=>decide (t.name=n)) 0 l):=by
 unfold getT
 rcases Qp (fun t:Ten=>decide (t.name=n)) 0 l with⟨h1,h2⟩|⟨j,x,h1,h2,h3⟩
 ·rw[h1,h2];exact .inl ⟨rfl,rfl⟩
 ·rw[h3,h1];exact .inr ⟨rfl,by omega⟩
theorem Bgy (l:List Rol) (n:Ai):((getR l n).2=false∧findAt (fun t=>decide (t.name=n)) 0 l= -1)∨∃(j:Nat) (x:Rol),(getR l n)=(x,true)∧findAt (fun t=>decide (t.name=n)) 0 l=(j:Int)∧l[j]?=some x:=by
 unfold getR
 rcases Qp (fun t:Rol=>decide (t.name=n)) 0 l with⟨h1,h2⟩|⟨j,x,h1,h2,h3⟩
 ·rw[h1,h2];exact .inl ⟨rfl,rfl⟩
 ·rw[h3,h1];exact .inr ⟨j,x,rfl,by omega,h2⟩
theorem Ao5 {nm:Ai→Ai} (hnm:nm=Gi) {l:List Ai} (hr:H5 nm l) (n:Ai):Et nm l n=l.any fun e=>decide (e=n):=by
 subst hnm
 have h:=Aws hr n
 rcases Qp (fun t:Ai=>decide (Gi t=n)) 0 l with⟨h1,h2⟩|⟨j,x,h1,h2,h3⟩
 ·rw[h2]at h
  cases hb:Et Gi l n with
  |true=>rw[hb]at h;simp at h
  |false=>
   symm
   rw[List.any_eq_false]
   intro y hy
   have:=List.find?_eq_none.1 h1 y hy
   simpa using this
 ·rw[h1]at h
  cases hb:Et Gi l n with
  |false=>rw[hb]at h;simp at h
  |true=>
   symm
   rw[List.any_eq_true]
   exact⟨x,List.mem_of_getElem? h2,by simpa using List.find?_some h3⟩
theorem A6e {l:List Ai} (hr:H5 Gi l) (n:Ai) (hb:Et Gi l n=true):H6 (Ch Gi l n) l=l.filter fun e=> !decide (e=n):=by
 rw[Axs hr]at hb
 rw[Ao4 hr]
 induction l with
 |nil=>simp[posOf]at hb
 |cons a r ih=>
  obtain⟨h1,h2⟩:=List.pairwise_cons.1 hr
  unfold posOf at hb ⊢
  by_cases ha:Gi a<n
  ·rw[if_pos ha]at hb ⊢
   have hne:¬a=n:=by rintro rfl;exact List.lt_irrefl _ ha
   have:=ih h2 (by simpa using hb)
   simp only[H6,List.take_succ_cons,List.drop_succ_cons,List.cons_append]at this ⊢
   rw[this,List.filter_cons,if_pos (by simp[hne])]
  ·rw[if_neg ha]at hb ⊢
   simp only[List.getElem?_cons_zero,Option.any_some,decide_eq_true_eq]at hb
   obtain rfl:a=n:=hb
   rw[List.filter_cons,if_neg (by simp)]
   simp only[H6,List.take_zero,List.nil_append,Nat.zero_add,List.drop_succ_cons,List.drop_zero]
   symm
   rw[List.filter_eq_self]
   intro x hx
   have h3:a<x:=h1 x hx
   simp only[Bool.not_eq_true',decide_eq_false_iff_not]
   rintro rfl
   exact List.lt_irrefl _ h3
theorem Bhq (r:Roll) (h:r.Sorted) (c:Cmd):DoP r c=doM r c:=by
 unfold DoP doM
 split
 ·rfl
 split
 ·rfl
 rename_i k1 k2
 have ht:=fun n=>Aws h.T n
 have hu:=fun n=>Aws h.U n
 have hx:=fun n=>Aws h.X n
 have gt:=Bg1 r.tens c.other
 have gr:=Bgy r.rols c.other
 rcases(by omega:c.kind=4∨c.kind=5∨c.kind=6∨c.kind=7∨c.kind=8∨c.kind=9∨c.kind=10∨c.kind=11∨c.kind=12∨c.kind=13∨c.kind=14)with hk|hk|hk|hk|hk|hk|hk|hk|hk|hk|hk
 ·simp only[doP,hk,Int.reduceEq,true_or,if_true]
  simp only[M5,Mb,hk,ht,true_and,Int.reduceEq,if_true]
  cases hn:D2 c.name<;>cases h1:Dq c.bytes<;>cases h2:Dq c.keys<;>cases hb:Et Ten.name r.tens c.name<;>by_cases h8:8≤(r.tens.length:Int)<;>simp[h8]
  rw[Aqd h.T _ hb]
 ·simp only[doP,hk,Int.reduceEq,or_true,if_true,if_false]
  simp only[M5,L8,hk,ht,false_and,Int.reduceEq,if_true,if_false]
  cases h1:Dq c.bytes<;>cases h2:Dq c.keys<;>cases hb:Et Ten.name r.tens c.name<;>simp
 ·have w1:(64<(c.word.length:Int))=¬c.word.length≤64:=by rw[eq_iff_iff];omega
  have w2:(64<(c.salt.length:Int))=¬c.salt.length≤64:=by rw[eq_iff_iff];omega
  simp only[doP,hk,Int.reduceEq,or_true,true_or,or_self,if_true,if_false]
  simp only[Fz,T7,hk,hu,w1,w2,Int.reduceEq,if_true,if_false]
  rcases gt with⟨g1,g2⟩|⟨g1,g2⟩<;>rw[g1]<;>cases hn:D2 c.name<;>by_cases l1:c.word.length≤64<;>by_cases l2:c.salt.length≤64<;>cases hb:Et Usr.name r.usrs c.name<;>by_cases h8:16≤(r.usrs.length:Int)<;>simp[l1,l2,h8,g2,Int.not_lt.2]
  all_goals exact(Aqd h.U _ hb).symm
 ·have w1:(64<(c.word.length:Int))=¬c.word.length≤64:=by rw[eq_iff_iff];omega
  have w2:(64<(c.salt.length:Int))=¬c.salt.length≤64:=by rw[eq_iff_iff];omega
  simp only[doP,hk,Int.reduceEq,or_true,true_or,or_self,if_true,if_false]
  simp only[Fz,Q6,hk,hu,w1,w2,Int.reduceEq,if_true,if_false]
  by_cases l1:c.word.length≤64<;>by_cases l2:c.salt.length≤64<;>cases hb:Et Usr.name r.usrs c.name<;>simp[l1,l2]
  obtain⟨x,hx, -⟩:=Lv hb
  rw[hx]
  simp
 ·simp only[doP,hk,Int.reduceEq,or_true,true_or,or_self,if_true,if_false]
  simp only[Fz,L3,hk,hu,Int.reduceEq,if_true,if_false,Aw2]
  cases hb:Et Usr.name r.usrs c.name<;>by_cases hr:c.name=[114,111,111,116]<;>simp[hr,H6]
 ·simp only[doP,hk,Int.reduceEq,or_true,true_or,or_self,if_true,if_false]
  simp only[D5,Tz,hk,hx,Int.reduceEq,if_true,if_false]
  rcases gt with⟨g1,g2⟩|⟨g1,g2⟩<;>rw[g1]<;>cases hn:D2 c.name<;>cases hb:Et Rol.name r.rols c.name<;>by_cases h8:16≤(r.rols.length:Int)<;>simp[h8,g2,Int.not_lt.2]
  all_goals exact(Aqd h.X _ hb).symm
 ·simp only[doP,hk,Int.reduceEq,or_true,true_or,or_self,if_true,if_false]
  simp only[D5,Qo,hk,hx,false_and,Int.reduceEq,if_true,if_false]
  cases hb:Et Rol.name r.rols c.name<;>simp[H6]
 ·simp only[doP,hk,Int.reduceEq,or_true,true_or,or_self,if_true,if_false]
  simp only[D5,Lx,hk,hx,false_and,true_and,Int.reduceEq,if_true,if_false]
  cases hg:(decide (Dk c.grant.sp)&&(c.grant.r||c.grant.w))<;>cases hb:Et Rol.name r.rols c.name<;>simp
  obtain⟨x,hx, -⟩:=Lv hb
  rw[hx]
  dsimp only
  have hnn:¬((Ch Rol.name r.rols c.name:Nat):Int)<0:=by omega
  by_cases hm:c.grant∈x.grants<;>by_cases h8:8≤(x.grants.length:Int)<;>simp[h8,hnn,hm]
 ·simp only[doP,hk,Int.reduceEq,or_true,true_or,or_self,if_true,if_false]
  simp only[D5,Hu,hk,hx,false_and,true_and,Int.reduceEq,if_true,if_false]
  cases hg:decide (Dk c.grant.sp)<;>cases hb:Et Rol.name r.rols c.name<;>simp
  obtain⟨x,hx, -⟩:=Lv hb
  rw[hx]
  dsimp only
  by_cases h8:8<((revM x.grants c.grant.sp).length:Int)<;>simp[h8]
 ·simp only[doP,hk,Int.reduceEq,or_true,true_or,or_self,if_true,if_false]
  simp only[J7,Jv,hk,hu,hx,false_and,true_and,Int.reduceEq,if_true,if_false]
  cases hb:Et Usr.name r.usrs c.name<;>simp
  obtain⟨u,hux, -⟩:=Lv hb
  rw[hux]
  dsimp only
  have hru:=h.R u (List.mem_of_getElem? hux)
  rw[←hx c.other]
  simp only[Ao5 rfl hru c.other]
  rcases gr with⟨g1,g2⟩|⟨j,x,g1,g2,g3⟩
  ·rw[g1,g2];simp
  ·rw[g1,g2]
   simp only[Int.toNat_natCast,g3]
   have hins:=fun hm:¬c.other∈u.roles=>Aqd hru (n:=c.other) c.other (by rw[Ao5 rfl hru,List.any_eq_false];intro y hy;simp only[decide_eq_true_eq];rintro rfl;exact hm hy)
   have hnn:¬((Ch Usr.name r.usrs c.name:Nat):Int)<0:=by omega
   have hnj:¬(j:Int)<0:=by omega
   by_cases ht:x.ten=u.ten<;>by_cases hm:c.other∈u.roles<;>by_cases h8:4≤(u.roles.length:Int)<;>simp[ht,h8,hnn,hnj,hm]
   all_goals rw[hins hm]
 ·simp only[doP,hk,Int.reduceEq,or_true,true_or,or_self,if_true,if_false]
  simp only[J7,Jv,hk,hu,hx,false_and,true_and,Int.reduceEq,if_true,if_false]
  cases hb:Et Usr.name r.usrs c.name<;>simp
  obtain⟨u,hux, -⟩:=Lv hb
  rw[hux]
  dsimp only
  have hru:=h.R u (List.mem_of_getElem? hux)
  have hdf:=A6e hru c.other
  rw[Ao5 rfl hru c.other]at hdf
  simp only[Ao5 rfl hru c.other]
  have hnn:¬((Ch Usr.name r.usrs c.name:Nat):Int)<0:=by omega
  cases haa:(u.roles.any fun e=>decide (e=c.other))with
  |false=>
   simp only[haa]
   simp[hnn]
   intro hm
   have:=List.any_eq_false.1 haa _ hm
   simp at this
  |true=>
   have:=hdf haa
   simp only[haa,this]
   simp[hnn]
   obtain⟨y,hy,he⟩:=List.any_eq_true.1 haa
   simp only[decide_eq_true_eq]at he
   subst he
   exact hy
set_option maxHeartbeats 40000000

open Go.Proofs
def bigC (c:Cmd):Bool:=decide (1000<c.name.length)||decide (1000<c.other.length)||decide (1000<c.word.length)||decide (1000<c.salt.length)||decide (1000<c.grant.sp.f.length)||decide (1000<c.grant.sp.t.length)
def Vx (l:List Cmd):Bool:=decide (80<l.length)||l.any bigC
theorem Atq (c:Cmd):bigC c=true↔(1000<c.name.length∨1000<c.other.length∨1000<c.word.length∨1000<c.salt.length∨1000<c.grant.sp.f.length∨1000<c.grant.sp.t.length):=by
 unfold bigC
 simp only[Bool.or_eq_true,decide_eq_true_eq,or_assoc]
theorem A13 (l:List Cmd) (hl:l.length≤maxLen):Fn Tryz.prog Ab8 [.v (.list (l.map Cmd.toI))] (Is (.v (.bool (Vx l))) [.no]):=by
 refine Aaq ?_ (by simp)
 repeat'((conv=>whnf);first|(refine eI ?_ ?_;focus (and_intros<;>exact rfl))|(intro hfact))
 all_goals(try(conv=>whnf))
 refine LoopWq.by (X:=Nat) (fun k=>[(7,.v (.int .i64 k))]) (fun k=>k≤l.length∧k≤80∧∀x∈l.take k,bigC x=false) (fun k=>l.length - k)
  0 (by kernel_rfl) ⟨Nat.zero_le _,Nat.zero_le _,by simp⟩ ?_
 rintro k ⟨h1,h2,h3⟩
 by_cases hk:k<l.length
 ·obtain⟨e,he⟩:∃e,l[k]?=some e:=⟨_,List.getElem?_eq_getElem hk⟩
  have hlt:¬decide ((k:Int)<((l.map Cmd.toI).length:Int))=false:=by simp[hk]
  have hem:=List.mem_of_getElem? he
  have hB:=Atq e
  have hgt:bigC e=true∨80≤k→Vx l=true:=fun h=>by
   unfold Vx
   rw[Bool.or_eq_true]
   rcases h with h|h
   ·exact .inr (List.any_eq_true.2 ⟨e,hem,h⟩)
   ·exact .inl (by simp;omega)
  generalize hG:Vx l=G at hgt ⊢
  repeat'((conv=>whnf);first|(apply aI<;>intro hb<;>first|exact absurd hb (by first|assumption|decide)|((try rw[hb]);(try simp only[Ad]at hb)))|(refine eI ?_ ?_;focus (and_intros<;>first|omega|exact rfl|(simp;done)))|(intro hfact)|((try dsimp only);first|rw[Av he]|rw[An he]|rw[Ap he]))
  all_goals(try(conv=>whnf))
  all_goals first
   |(obtain rfl:G=true:=hgt (by rw[hB];omega)
     (apply dK<;>kernel_rfl))
   |(refine Round.by (k+1) ?_ ⟨hk,by omega,?_⟩ (by omega)
     ·rw[Ak hk hl]
      show norm _ _=upd _ _
      kernel_rfl
     ·intro x hx
      rw[List.take_add_one,he]at hx
      simp only[Option.toList_some,List.mem_append,List.mem_singleton]at hx
      rcases hx with hx|rfl
      ·exact h3 x hx
      ·cases hbx:bigC x with
       |false=>rfl
       |true=>rw[hbx]at hB;have:=hB.1 rfl;omega)
 ·have hlt:¬decide ((k:Int)<((l.map Cmd.toI).length:Int))=true:=by simp;omega
  have hG:Vx l=false:=by
   unfold Vx
   rw[List.take_of_length_le (by omega)]at h3
   rw[Bool.or_eq_false_iff]
   exact⟨by simp;omega,List.any_eq_false.2 fun x hx=>by simp[h3 x hx]⟩
  rw[hG]
  repeat'((conv=>whnf);(apply aI<;>intro hb<;>first|exact absurd hb (by assumption)|((try rw[hb]);(try simp only[Ad]at hb))))
  all_goals(try(conv=>whnf))
  (apply dK<;>kernel_rfl)
set_option maxHeartbeats 4000000

open Go.Proofs
structure Roll.Fit (r:Roll):Prop where
 hV:1≤r.rev∧r.rev≤1099511627776
 hT:r.tens.length≤8
 hU:r.usrs.length≤16
 hX:r.rols.length≤16
 hR:∀u∈r.usrs,u.roles.length≤4
 hG:∀x∈r.rols,x.grants.length≤8
theorem Roll.Fit.small {r:Roll} (h:r.Fit):r.Small:=
 ⟨by have:=h.hT;omega,by have:=h.hU;omega,by have:=h.hX;omega,fun u hu=>by have:=h.hR u hu;omega,fun x hx=>by have:=h.hG x hx;omega⟩
theorem Gn {α:Type} {gt:α→Bool} {x y:α}:∀{l:List α},y∈E8 gt x l↔y=x∨y∈l
 | []=>by simp[E8]
 |a::r=>by
  unfold E8
  split
  ·simp
  ·simp only[List.mem_cons,Gn (l:=r)]
   constructor
   ·rintro(h|h|h)<;>simp[h]
   ·rintro(h|h|h)<;>simp[h]
theorem Jy {α:Type} {l:List α} {j:Nat} {x y:α} (h:y∈l.set j x):y=x∨y∈l:=(List.mem_or_eq_of_mem_set h).symm
theorem Bgt {r:Roll} (hf:r.Fit) (c:Cmd):(doM r c).1.Fit:=by
 obtain⟨hV,hT,hU,hX,hR,hG⟩:=hf
 unfold doM
 split
 ·exact⟨hV,hT,hU,hX,hR,hG⟩
 split
 ·exact⟨hV,hT,hU,hX,hR,hG⟩
 rename_i h1 h2
 have hV':1≤r.rev+1∧r.rev+1≤1099511627776:=by omega
 split
 ·unfold Mb
  repeat' split
  all_goals first|exact⟨hV,hT,hU,hX,hR,hG⟩|skip
  refine⟨hV',?_,hU,hX,hR,hG⟩
  rw[Px];omega
 split
 ·unfold L8
  repeat' split
  all_goals first|exact⟨hV,hT,hU,hX,hR,hG⟩|skip
  exact⟨hV',by simpa using hT,hU,hX,hR,hG⟩
 split
 ·unfold T7
  repeat' split
  all_goals first|exact⟨hV,hT,hU,hX,hR,hG⟩|skip
  refine⟨hV',hT,?_,hX,?_,hG⟩
  ·rw[Px];omega
  ·intro u hu
   rcases Gn.1 hu with rfl|hu
   ·simp
   ·exact hR u hu
 split
 ·unfold Q6
  repeat' split
  all_goals first|exact⟨hV,hT,hU,hX,hR,hG⟩|skip
  rename_i u hu
  refine⟨hV',hT,by simpa using hU,hX,?_,hG⟩
  intro v hv
  rcases Jy hv with rfl|hv
  ·exact hR u (List.mem_of_getElem? hu)
  ·exact hR v hv
 split
 ·unfold L3
  repeat' split
  all_goals first|exact⟨hV,hT,hU,hX,hR,hG⟩|skip
  refine⟨hV',hT,?_,hX,?_,hG⟩
  ·simp;omega
  ·intro v hv
   rcases List.mem_append.1 hv with hv|hv
   ·exact hR v (List.mem_of_mem_take hv)
   ·exact hR v (List.mem_of_mem_drop hv)
 split
 ·unfold Tz
  repeat' split
  all_goals first|exact⟨hV,hT,hU,hX,hR,hG⟩|skip
  refine⟨hV',hT,hU,?_,hR,?_⟩
  ·rw[Px];omega
  ·intro u hu
   rcases Gn.1 hu with rfl|hu
   ·simp
   ·exact hG u hu
 split
 ·unfold Qo
  repeat' split
  all_goals first|exact⟨hV,hT,hU,hX,hR,hG⟩|skip
  refine⟨hV',hT,by simpa using hU,?_,?_,?_⟩
  ·simp;omega
  ·intro v hv
   obtain⟨u,hu,rfl⟩:=List.mem_map.1 hv
   exact Nat.le_trans (List.length_filter_le _ _) (hR u hu)
  ·intro v hv
   rcases List.mem_append.1 hv with hv|hv
   ·exact hG v (List.mem_of_mem_take hv)
   ·exact hG v (List.mem_of_mem_drop hv)
 split
 ·unfold Lx
  repeat' split
  all_goals first|exact⟨hV,hT,hU,hX,hR,hG⟩|skip
  refine⟨hV',hT,hU,by simpa using hX,hR,?_⟩
  intro v hv
  rcases Jy hv with rfl|hv
  ·simp;omega
  ·exact hG v hv
 split
 ·unfold Hu
  repeat' split
  all_goals first|exact⟨hV,hT,hU,hX,hR,hG⟩|skip
  refine⟨hV',hT,hU,by simpa using hX,hR,?_⟩
  intro v hv
  rcases Jy hv with rfl|hv
  ·dsimp only;omega
  ·exact hG v hv
 ·unfold Jv
  repeat' split
  all_goals first|exact⟨hV,hT,hU,hX,hR,hG⟩|skip
  ·rename_i u hu _ _
   refine⟨hV',hT,by simpa using hU,hX,?_,hG⟩
   intro v hv
   rcases Jy hv with rfl|hv
   ·exact Nat.le_trans (List.length_filter_le _ _) (hR u (List.mem_of_getElem? hu))
   ·exact hR v hv
  ·refine⟨hV',hT,by simpa using hU,hX,?_,hG⟩
   intro v hv
   rcases Jy hv with rfl|hv
   ·rw[Px];omega
   ·exact hR v hv
theorem Bs (a b:Ai):(A5b a b).Fit:=⟨⟨by show(1:Int)≤1;omega,by show(1:Int)≤1099511627776;omega⟩,Nat.zero_le _,by show 1≤16;decide,Nat.zero_le _,by intro u hu;simp[A5b]at hu;subst hu;simp,by intro x hx;simp[A5b]at hx⟩

open Go.Proofs
theorem Zv {α:Type} {nm:α→Ai} {y:α} {n:Ai} (hy:nm y=n):∀{l:List α},H5 nm l→(∀x∈l,nm x≠n)→H5 nm (E8 (fun e=>decide (n<nm e)) y l)
 | [],_,_=>by simp[E8]
 |a::r,h,hn=>by
  obtain⟨h1,h2⟩:=List.pairwise_cons.1 h
  unfold E8
  by_cases hlt:n<nm a
  ·rw[if_pos (by simpa using hlt)]
   refine List.pairwise_cons.2 ⟨fun x hx=>?_,h⟩
   rw[hy]
   rcases List.mem_cons.1 hx with rfl|hx
   ·exact hlt
   ·exact List.lt_trans hlt (h1 x hx)
  ·rw[if_neg (by simpa using hlt)]
   have ha:nm a<n:=by
    rcases A7q (nm a) n with h|h|h
    ·exact h
    ·exact absurd h (hn a (List.mem_cons_self ..))
    ·exact absurd h hlt
   refine List.pairwise_cons.2 ⟨fun x hx=>?_,Zv hy h2 fun x hx=>hn x (List.mem_cons_of_mem _ hx)⟩
   rcases Gn.1 hx with rfl|hx
   ·rw[hy];exact ha
   ·exact h1 x hx
theorem Qa {α:Type} {nm:α→Ai} {l:List α}:H5 nm l↔(l.map nm).Pairwise (· < ·):=List.pairwise_map.symm
theorem Vd {α:Type} {nm:α→Ai} {l:List α} {j:Nat} {x y:α} (hr:H5 nm l) (h:l[j]?=some x) (hn:nm y=nm x):H5 nm (l.set j y):=by
 rw[Qa]at hr ⊢
 have:(l.set j y).map nm=l.map nm:=by
  rw[List.map_set,hn]
  obtain⟨hj,hx⟩:=List.getElem?_eq_some_iff.1 h
  apply List.ext_getElem?
  intro i
  rw[List.getElem?_set]
  split
  ·rename_i e;subst e;simp[hj,hx]
  ·rfl
 rw[this]
 exact hr
theorem A0p {α:Type} {nm:α→Ai} {l:List α} (hr:H5 nm l) (j:Nat):H5 nm (l.take j++l.drop (j+1)):=by
 rw[←List.eraseIdx_eq_take_drop_succ]
 exact hr.sublist (List.eraseIdx_sublist ..)
theorem A4f {α:Type} {p:α→Bool} {l:List α} (h:findAt p 0 l<0):∀x∈l,p x=false:=by
 rcases Qp p 0 l with⟨h1,_⟩|⟨j,x,h1,_⟩
 ·intro x hx
  have:=List.find?_eq_none.1 h1 x hx
  simpa using this
 ·omega
theorem Um {α:Type} {p:α→Bool} {l:List α} (h:¬findAt p 0 l<0):∃x,l[(findAt p 0 l).toNat]?=some x∧p x=true:=by
 rcases Qp p 0 l with⟨_,h1⟩|⟨j,x,h1,h2,h3⟩
 ·omega
 ·refine⟨x,?_,List.find?_some h3⟩
  rw[h1]
  simpa using h2
theorem A6f {r:Roll} (h:r.Sorted) (c:Cmd):(doM r c).1.Sorted:=by
 obtain⟨hT,hU,hX,hR⟩:=h
 have h0:r.Sorted:=⟨hT,hU,hX,hR⟩
 have nn:∀{α:Type} {nm:α→Ai} {l:List α} {n:Ai},findAt (fun t=>decide (nm t=n)) 0 l<0→∀x∈l,nm x≠n:=fun h x hx=>by simpa using A4f h x hx
 unfold doM
 split
 ·exact h0
 split
 ·exact h0
 split
 ·unfold Mb
  repeat' split
  all_goals try exact h0
  exact⟨Zv (nm:=Ten.name) (n:=c.name) rfl hT (nn (show r.tenAt c.name<0 by omega)),hU,hX,hR⟩
 split
 ·unfold L8
  repeat' split
  all_goals try exact h0
  rename_i hn
  obtain⟨x,hx,hp⟩:=Um hn
  exact⟨Vd hT hx (by simpa using(of_decide_eq_true hp).symm),hU,hX,hR⟩
 split
 ·unfold T7
  repeat' split
  all_goals try exact h0
  refine⟨hT,Zv (nm:=Usr.name) (n:=c.name) rfl hU (nn (show r.usrAt c.name<0 by omega)),hX,fun u hu=>?_⟩
  rcases Gn.1 hu with rfl|hu
  ·exact List.Pairwise.nil
  ·exact hR u hu
 split
 ·unfold Q6
  repeat' split
  all_goals try exact h0
  rename_i hn _ u hu
  refine⟨hT,Vd hU hu rfl,hX,fun v hv=>?_⟩
  rcases Jy hv with rfl|hv
  ·exact hR u (List.mem_of_getElem? hu)
  ·exact hR v hv
 split
 ·unfold L3
  repeat' split
  all_goals try exact h0
  refine⟨hT,A0p hU _,hX,fun v hv=>?_⟩
  rcases List.mem_append.1 hv with hv|hv
  ·exact hR v (List.mem_of_mem_take hv)
  ·exact hR v (List.mem_of_mem_drop hv)
 split
 ·unfold Tz
  repeat' split
  all_goals try exact h0
  exact⟨hT,hU,Zv (nm:=Rol.name) (n:=c.name) rfl hX (nn (show r.rolAt c.name<0 by omega)),hR⟩
 split
 ·unfold Qo
  repeat' split
  all_goals try exact h0
  refine⟨hT,List.pairwise_map.2 hU,A0p hX _,fun v hv=>?_⟩
  obtain⟨u,hu,rfl⟩:=List.mem_map.1 hv
  exact(hR u hu).filter _
 split
 ·unfold Lx
  repeat' split
  all_goals try exact h0
  rename_i x hx _ _
  exact⟨hT,hU,Vd hX hx rfl,hR⟩
 split
 ·unfold Hu
  repeat' split
  all_goals try exact h0
  rename_i x hx _
  exact⟨hT,hU,Vd hX hx rfl,hR⟩
 ·unfold Jv
  repeat' split
  all_goals try exact h0
  ·rename_i u hu _ _
   refine⟨hT,Vd hU hu rfl,hX,fun v hv=>?_⟩
   rcases Jy hv with rfl|hv
   ·exact(hR u (List.mem_of_getElem? hu)).filter _
   ·exact hR v hv
  ·rename_i u hu _ _ _ x hx _ ha _
   refine⟨hT,Vd hU hu rfl,hX,fun v hv=>?_⟩
   rcases Jy hv with rfl|hv
   ·exact Zv (nm:=Gi) rfl (hR u (List.mem_of_getElem? hu)) fun y hy=>by
     intro e
     apply ha
     exact List.any_eq_true.2 ⟨y,hy,by simpa using e⟩
   ·exact hR v hv
theorem Be (a b:Ai):(A5b a b).Sorted:=⟨List.Pairwise.nil,by simp[A5b],List.Pairwise.nil,by intro u hu;simp[A5b]at hu;subst hu;exact List.Pairwise.nil⟩
set_option maxHeartbeats 40000000

open Go.Proofs
def next (r:Roll) (c:Cmd):Roll:=(doM r c).1
theorem Bk (r:Roll) (hf:r.Fit) (hs:r.Sorted) (c:Cmd) (hc:c.salt.length≤100000∧c.word.length≤100000):Fn Tryz.prog A87 [.v r.toI,.v c.toI] (Is (.tup [.i (doM r c).1.toI,.i (.int .i64 (doM r c).2)]) [.no,.no]):=by
 rw[←Bhq r hs c]
 exact Ve r hf.small c hc (by have:=hf.hV;omega)

open Go.Proofs
abbrev rT (x:Rol × Bool):D:=bif x.2 then .it (Rol.toI ⟨x.1.name,x.1.ten,[]⟩)else x.1.toD
abbrev rI (x:Rol × Bool):Rol:=bif x.2 then⟨x.1.name,x.1.ten,[]⟩else x.1
theorem Bu (x:Rol × Bool):(rT x).toI=some (rI x).toI:=by
 obtain⟨x,b⟩:=x
 cases b<;>simp[rT,rI,D.toI,toIs,Bn, -List.map_map]
theorem Bc:∀L:List (Rol × Bool),toIs (L.map rT)=some ((L.map rI).map Rol.toI)
 | []=>rfl
 |x::L=>by simp only[List.map_cons,toIs,Bu,Bc L]
def IsO (d:D) (r:Roll):Prop:=∃(a b:List D) (L:List (Rol × Bool)),d= .st [.it (.int .i64 r.rev),.vec Cc 3 a,.vec B3 5 b,.vec B2 3 (L.map rT)]∧toIs a=some (r.tens.map Ten.toI)∧toIs b=some (r.usrs.map Usr.toI)∧L.map rI=r.rols
theorem A1 (l:List Rol):(l.map fun x=>(x,false)).map rT=l.map Rol.toD:=by exact List.map_map
theorem A0 (l:List Rol):(l.map fun x=>(x,false)).map rI=l:=by
 rw[List.map_map]
 exact List.map_id _
theorem Aq (r:Roll):IsO r.toD r:=⟨_,_,r.rols.map (fun x=>(x,false)),by rw[A1],Bn _,Qg _,A0 _⟩
theorem Bh (r:Roll) (c:Cmd):IsO (Q4 r c) (Fz r c).1:=by
 unfold Q4
 split
 ·rename_i h
  obtain⟨h6,h0⟩:=h
  have hP:(Fz r c).1= {r with usrs:=Hk (Ch Usr.name r.usrs c.name) ⟨c.name,c.other,c.salt,Hj c.salt c.word,[]⟩ r.usrs}:=by
   revert h0
   unfold Fz
   rw[if_pos h6]
   repeat' split
   all_goals simp
  rw[hP]
  exact⟨_,_,r.rols.map (fun x=>(x,false)),by rw[A1],Bn _,Arj (d:=Usr.toD) (f:=Usr.toI) (Qg r.usrs) _ _,A0 _⟩
 ·exact Aq _
theorem Bg (r:Roll) (c:Cmd):IsO (Lp r c) (D5 r c).1:=by
 unfold Lp
 split
 ·rename_i h
  obtain⟨h6,h0⟩:=h
  have hP:(D5 r c).1= {r with rols:=Hk (Ch Rol.name r.rols c.name) ⟨c.name,c.other,[]⟩ r.rols}:=by
   revert h0
   unfold D5
   rw[if_pos h6]
   repeat' split
   all_goals simp
  rw[hP]
  refine⟨_,_,Hk (Ch Rol.name r.rols c.name) (⟨c.name,c.other,[]⟩,true) (r.rols.map fun x=>(x,false)),?_,Bn _,Qg _,?_⟩
  ·have:(Hk (Ch Rol.name r.rols c.name) ((⟨c.name,c.other,[]⟩:Rol),true) (r.rols.map fun x=>(x,false))).map rT=Hk (Ch Rol.name r.rols c.name) (.it (Rol.toI ⟨c.name,c.other,[]⟩)) (r.rols.map Rol.toD):=by
    simp only[Hk, ←List.map_take, ←List.map_drop,List.map_append,List.map_cons,A1]
    rfl
   rw[this]
  ·simp only[Hk, ←List.map_take, ←List.map_drop,List.map_append,List.map_cons,A0]
   rfl
 ·exact Aq _
theorem Bb (r:Roll) (c:Cmd):IsO (doD r c) (doP r c).1:=by
 unfold doD doP
 split
 ·exact Aq _
 split
 ·exact Bh r c
 split
 ·exact Aq _
 ·exact Bg r c
def Bj (n:Int):D→D
 | .st (_::l)=>.st (.it (.int .i64 n)::l)
 |d=>d
def DoT (r:Roll) (c:Cmd):D:=
 if c.kind<4∨14<c.kind then r.toD
 else if 1099511627776≤r.rev then r.toD
 else if(doP r c).2=0 then Bj (r.rev+1) (doD r c)
 else r.toD
theorem Br (r:Roll) (c:Cmd):IsO (DoT r c) (DoP r c).1:=by
 unfold DoT DoP
 split
 ·exact Aq _
 split
 ·exact Aq _
 split
 ·obtain⟨a,b,L,h,h1,h2,h3⟩:=Bb r c
  exact⟨a,b,L,by rw[h];rfl,h1,h2,h3⟩
 ·exact Aq _
theorem Bm (r:Roll) (hs:r.Small) (c:Cmd) (hc:c.salt.length≤100000∧c.word.length≤100000) (hrev: -9223372036854775808≤r.rev):Fn Tryz.prog A87 [.v r.toI,.v c.toI] (Is (.tupd [DoT r c,.it (.int .i64 (DoP r c).2)]) [.no,.no]):=by
 refine A3c ?_ (by simp)
 have cp:=A1t r hs
 unfold DoP DoT
 by_cases k1:c.kind<4∨14<c.kind
 ·rw[if_pos k1,if_pos k1]
  repeat'((conv=>whnf);first
   |(refine aI (fun hb=>?_) (fun hb=>?_)<;>first|(exact absurd hb (by first|assumption|decide))|(with_reducible exact absurd hb Bool.false_ne_true)|(with_reducible exact absurd hb.symm Bool.false_ne_true)|(exfalso;first|(simp only[Az]at hb<;>omega)|omega)|((try rw[hb]);(try simp only[Ad]at hb);(try subst hb)))
   |(refine eI ?_ ?_;focus (and_intros<;>first|omega|exact rfl|assumption|(intro _ hh;cases hh;done)|exact B8 (by rfl)|exact size_map (fun _=>rfl)|exact Ah rfl|exact take_size (fun _=>rfl)|exact F5 rfl|exact Ag (fun _=>rfl)|exact Af (fun _=>rfl)|(simp only[Az];omega)|(simp;done)|decide))
   |(intro hfact)
   |(refine CallWp.mk ⟨_,cp,?_⟩;rintro _ _ ⟨rfl,rfl⟩))
  all_goals(try(conv=>whnf))
  all_goals first|(exfalso;omega)|(apply dK<;>kernel_rfl)
 rw[if_neg k1,if_neg k1]
 by_cases k2:1099511627776≤r.rev
 ·rw[if_pos k2,if_pos k2]
  repeat'((conv=>whnf);first
   |(refine aI (fun hb=>?_) (fun hb=>?_)<;>first|(exact absurd hb (by first|assumption|decide))|(with_reducible exact absurd hb Bool.false_ne_true)|(with_reducible exact absurd hb.symm Bool.false_ne_true)|(exfalso;first|(simp only[Az]at hb<;>omega)|omega)|((try rw[hb]);(try simp only[Ad]at hb);(try subst hb)))
   |(refine eI ?_ ?_;focus (and_intros<;>first|omega|exact rfl|assumption|(intro _ hh;cases hh;done)|exact B8 (by rfl)|exact size_map (fun _=>rfl)|exact Ah rfl|exact take_size (fun _=>rfl)|exact F5 rfl|exact Ag (fun _=>rfl)|exact Af (fun _=>rfl)|(simp only[Az];omega)|(simp;done)|decide))
   |(intro hfact)
   |(refine CallWp.mk ⟨_,cp,?_⟩;rintro _ _ ⟨rfl,rfl⟩))
  all_goals(try(conv=>whnf))
  all_goals first|(exfalso;omega)|(apply dK<;>kernel_rfl)
 rw[if_neg k2,if_neg k2]
 have hd:=Be1 r hs c hc (by omega)
 obtain⟨a,b,L,hD, -⟩:=Bb r c
 rw[Bgu]at hD
 rw[hD]at hd ⊢
 have hw:IntKind.i64.wrap (r.rev+1)=r.rev+1:=Cf (by omega)
 generalize doP r c=X at*
 obtain⟨n,x⟩:=X
 dsimp only[Bj]at*
 by_cases k3:x=0
 ·rw[if_pos k3,if_pos k3]
  repeat'((conv=>whnf);first
   |(refine aI (fun hb=>?_) (fun hb=>?_)<;>first|(exact absurd hb (by first|assumption|decide))|(with_reducible exact absurd hb Bool.false_ne_true)|(with_reducible exact absurd hb.symm Bool.false_ne_true)|(exfalso;first|(simp only[Az]at hb<;>omega)|omega)|((try rw[hb]);(try simp only[Ad]at hb);(try subst hb)))
   |(refine eI ?_ ?_;focus (and_intros<;>first|omega|exact rfl|assumption|(intro _ hh;cases hh;done)|exact B8 (by rfl)|exact size_map (fun _=>rfl)|exact Ah rfl|exact take_size (fun _=>rfl)|exact F5 rfl|exact Ag (fun _=>rfl)|exact Af (fun _=>rfl)|(simp only[Az];omega)|(simp;done)|decide))
   |(intro hfact)
   |(refine CallWp.mk ⟨_,cp,?_⟩;rintro _ _ ⟨rfl,rfl⟩)
   |(refine CallWp.mk ⟨_,hd,?_⟩;rintro _ _ ⟨rfl,rfl⟩)
   |((try dsimp only);rw[hw]))
  all_goals(try(conv=>whnf))
  all_goals first|(exfalso;omega)|(apply dK<;>kernel_rfl)
 ·rw[if_neg k3,if_neg k3]
  repeat'((conv=>whnf);first
   |(refine aI (fun hb=>?_) (fun hb=>?_)<;>first|(exact absurd hb (by first|assumption|decide))|(with_reducible exact absurd hb Bool.false_ne_true)|(with_reducible exact absurd hb.symm Bool.false_ne_true)|(exfalso;first|(simp only[Az]at hb<;>omega)|omega)|((try rw[hb]);(try simp only[Ad]at hb);(try subst hb)))
   |(refine eI ?_ ?_;focus (and_intros<;>first|omega|exact rfl|assumption|(intro _ hh;cases hh;done)|exact B8 (by rfl)|exact size_map (fun _=>rfl)|exact Ah rfl|exact take_size (fun _=>rfl)|exact F5 rfl|exact Ag (fun _=>rfl)|exact Af (fun _=>rfl)|(simp only[Az];omega)|(simp;done)|decide))
   |(intro hfact)
   |(refine CallWp.mk ⟨_,cp,?_⟩;rintro _ _ ⟨rfl,rfl⟩)
   |(refine CallWp.mk ⟨_,hd,?_⟩;rintro _ _ ⟨rfl,rfl⟩)
   |((try dsimp only);rw[hw]))
  all_goals(try(conv=>whnf))
  all_goals first|(exfalso;omega)|(apply dK<;>kernel_rfl)

open Go.Proofs
theorem Arc (r:Roll) (hs:r.Small):Fn Tryz.prog Aea [.v r.toI,.v r.toI] (Is (.v (.bool true)) [.no,.no]):=by
 refine Adm ?_ (by simp)
 obtain⟨b1,b2,b3,b4,b5⟩:=hs
 repeat'((conv=>whnf);first|(apply aI<;>intro hb<;>first|exact absurd hb (by decide)|((try rw[hb]);(try simp only[Ad]at hb)))|(refine eI ?_ ?_;focus (and_intros<;>first|omega|exact rfl|(simp;done)))|(intro hfact))
 all_goals(try(conv=>whnf))
 all_goals first|(exfalso;have ht:¬True:=(by assumption);exact ht True.intro)|(exfalso;simp at hb;done)|skip
 refine LoopWq.by (X:=Nat) (fun k=>[(5,.v (.int .i64 k))]) (fun k=>k≤r.tens.length) (fun k=>r.tens.length - k)
  0 (by kernel_rfl) (Nat.zero_le _) ?_
 intro k hk
 by_cases hk2:k<r.tens.length
 ·obtain⟨e,he⟩:∃e,r.tens[k]?=some e:=⟨_,List.getElem?_eq_getElem hk2⟩
  have hlt:¬decide ((k:Int)<((r.tens.map Ten.toI).length:Int))=false:=by simp[hk2]
  repeat'((conv=>whnf);first|(apply aI<;>intro hb<;>first|exact absurd hb (by assumption)|((try rw[hb]);(try simp only[Ad]at hb)))|(refine eI ?_ ?_;focus (and_intros<;>first|omega|exact rfl|(simp;done)))|(intro hfact)|((with_reducible apply Drawn.by0);(focus kernel_rfl);intro hfact;(try simp only[dRS]at hfact))|((try dsimp only);first|rw[Av he]|rw[An he]|rw[Ap he]))
  all_goals(try(conv=>whnf))
  all_goals first|(exfalso;have ht:¬True:=(by assumption);exact ht True.intro)|(exfalso;simp at hb;done)|skip
  refine Round.by (k+1) ?_ hk2 (by omega)
  rw[Ak (n:=r.tens.length) hk2 (by simp only[maxLen];omega)]
  show norm _ _=upd _ _
  kernel_rfl
 have hlt:¬decide ((k:Int)<((r.tens.map Ten.toI).length:Int))=true:=by simp;omega
 obtain rfl:k=r.tens.length:=by omega
 clear hk hk2
 repeat'((conv=>whnf);first|(apply aI<;>intro hb<;>first|exact absurd hb (by assumption)|((try rw[hb]);(try simp only[Ad]at hb)))|(refine eI ?_ ?_;focus (and_intros<;>first|omega|exact rfl|(simp;done)))|(intro hfact))
 all_goals(try(conv=>whnf))
 refine LoopWq.by (X:=Nat) (fun k=>[(6,.v (.int .i64 k))]) (fun k=>k≤r.usrs.length) (fun k=>r.usrs.length - k)
  0 (by kernel_rfl) (Nat.zero_le _) ?_
 clear hlt
 intro k hk
 by_cases hk2:k<r.usrs.length
 ·obtain⟨u,he⟩:∃e,r.usrs[k]?=some e:=⟨_,List.getElem?_eq_getElem hk2⟩
  have hlt:¬decide ((k:Int)<((r.usrs.map Usr.toI).length:Int))=false:=by simp[hk2]
  have hul:=b4 u (List.mem_of_getElem? he)
  repeat'((conv=>whnf);first|(apply aI<;>intro hb<;>first|exact absurd hb (by first|assumption|decide)|((try rw[hb]);(try simp only[Ad]at hb)))|(refine eI ?_ ?_;focus (and_intros<;>first|omega|exact rfl|(simp;done)))|(intro hfact)|((with_reducible apply Drawn.by0);(focus kernel_rfl);intro hfact;(try simp only[dRS]at hfact))|((try dsimp only);first|rw[Av he]|rw[An he]|rw[Ap he]))
  all_goals(try(conv=>whnf))
  all_goals first|(exfalso;have ht:¬True:=(by assumption);exact ht True.intro)|(exfalso;simp at hb;done)|skip
  refine LoopWq.by (X:=Nat) (fun j=>[(9,.v (.int .i64 j))]) (fun j=>j≤u.roles.length) (fun j=>u.roles.length - j)
   0 (by kernel_rfl) (Nat.zero_le _) ?_
  intro j hj
  by_cases hj2:j<u.roles.length
  ·obtain⟨e,hje⟩:∃e,u.roles[j]?=some e:=⟨_,List.getElem?_eq_getElem hj2⟩
   have hlt2:¬decide ((j:Int)<((strs u.roles).length:Int))=false:=by simp[hj2]
   repeat'((conv=>whnf);first|(apply aI<;>intro hb<;>first|exact absurd hb (by assumption)|((try rw[hb]);(try simp only[Ad]at hb)))|(refine eI ?_ ?_;focus (and_intros<;>first|omega|exact rfl|(simp;done)))|(intro hfact)|((with_reducible apply Drawn.by0);(focus kernel_rfl);intro hfact;(try simp only[dRS]at hfact))|((try dsimp only);first|rw[Av hje]|rw[An hje]|rw[Ap hje]))
   all_goals(try(conv=>whnf))
   all_goals first|(exfalso;have ht:¬True:=(by assumption);exact ht True.intro)|(exfalso;simp at hb;done)|skip
   refine Round.by (j+1) ?_ hj2 (by omega)
   rw[Ak (n:=u.roles.length) hj2 (by simp only[maxLen];omega)]
   show norm _ _=upd _ _
   kernel_rfl
  ·have hlt2:¬decide ((j:Int)<((strs u.roles).length:Int))=true:=by simp;omega
   obtain rfl:j=u.roles.length:=by omega
   repeat'((conv=>whnf);first|(apply aI<;>intro hb<;>first|exact absurd hb (by assumption)|((try rw[hb]);(try simp only[Ad]at hb)))|(refine eI ?_ ?_;focus (and_intros<;>first|omega|exact rfl|(simp;done)))|(intro hfact))
   all_goals(try(conv=>whnf))
   refine Round.by (k+1) ?_ hk2 (by omega)
   rw[Ak (n:=r.usrs.length) hk2 (by simp only[maxLen];omega)]
   show norm _ _=upd _ _
   kernel_rfl
 have hlt:¬decide ((k:Int)<((r.usrs.map Usr.toI).length:Int))=true:=by simp;omega
 obtain rfl:k=r.usrs.length:=by omega
 clear hk hk2
 repeat'((conv=>whnf);first|(apply aI<;>intro hb<;>first|exact absurd hb (by assumption)|((try rw[hb]);(try simp only[Ad]at hb)))|(refine eI ?_ ?_;focus (and_intros<;>first|omega|exact rfl|(simp;done)))|(intro hfact))
 all_goals(try(conv=>whnf))
 refine LoopWq.by (X:=Nat) (fun k=>[(10,.v (.int .i64 k))]) (fun k=>k≤r.rols.length) (fun k=>r.rols.length - k)
  0 (by kernel_rfl) (Nat.zero_le _) ?_
 clear hlt
 intro k hk
 by_cases hk2:k<r.rols.length
 ·obtain⟨u,he⟩:∃e,r.rols[k]?=some e:=⟨_,List.getElem?_eq_getElem hk2⟩
  have hlt:¬decide ((k:Int)<((r.rols.map Rol.toI).length:Int))=false:=by simp[hk2]
  have hul:=b5 u (List.mem_of_getElem? he)
  repeat'((conv=>whnf);first|(apply aI<;>intro hb<;>first|exact absurd hb (by first|assumption|decide)|((try rw[hb]);(try simp only[Ad]at hb)))|(refine eI ?_ ?_;focus (and_intros<;>first|omega|exact rfl|(simp;done)))|(intro hfact)|((with_reducible apply Drawn.by0);(focus kernel_rfl);intro hfact;(try simp only[dRS]at hfact))|((try dsimp only);first|rw[Av he]|rw[An he]|rw[Ap he]))
  all_goals(try(conv=>whnf))
  all_goals first|(exfalso;have ht:¬True:=(by assumption);exact ht True.intro)|(exfalso;simp at hb;done)|skip
  refine LoopWq.by (X:=Nat) (fun j=>[(13,.v (.int .i64 j))]) (fun j=>j≤u.grants.length) (fun j=>u.grants.length - j)
   0 (by kernel_rfl) (Nat.zero_le _) ?_
  intro j hj
  by_cases hj2:j<u.grants.length
  ·obtain⟨e,hje⟩:∃e,u.grants[j]?=some e:=⟨_,List.getElem?_eq_getElem hj2⟩
   have hlt2:¬decide ((j:Int)<((u.grants.map Gra.toI).length:Int))=false:=by simp[hj2]
   repeat'((conv=>whnf);first|(apply aI<;>intro hb<;>first|exact absurd hb (by assumption)|((try rw[hb]);(try simp only[Ad]at hb)))|(refine eI ?_ ?_;focus (and_intros<;>first|omega|exact rfl|(simp;done)))|(intro hfact)|((with_reducible apply Drawn.by0);(focus kernel_rfl);intro hfact;(try simp only[dRS]at hfact))|((try dsimp only);first|rw[Av hje]|rw[An hje]|rw[Ap hje]))
   all_goals(try(conv=>whnf))
   all_goals first|(exfalso;have ht:¬True:=(by assumption);exact ht True.intro)|(exfalso;simp at hb;done)|skip
   refine Round.by (j+1) ?_ hj2 (by omega)
   rw[Ak (n:=u.grants.length) hj2 (by simp only[maxLen];omega)]
   show norm _ _=upd _ _
   kernel_rfl
  ·have hlt2:¬decide ((j:Int)<((u.grants.map Gra.toI).length:Int))=true:=by simp;omega
   obtain rfl:j=u.grants.length:=by omega
   repeat'((conv=>whnf);first|(apply aI<;>intro hb<;>first|exact absurd hb (by assumption)|((try rw[hb]);(try simp only[Ad]at hb)))|(refine eI ?_ ?_;focus (and_intros<;>first|omega|exact rfl|(simp;done)))|(intro hfact))
   all_goals(try(conv=>whnf))
   refine Round.by (k+1) ?_ hk2 (by omega)
   rw[Ak (n:=r.rols.length) hk2 (by simp only[maxLen];omega)]
   show norm _ _=upd _ _
   kernel_rfl
 have hlt:¬decide ((k:Int)<((r.rols.map Rol.toI).length:Int))=true:=by simp;omega
 obtain rfl:k=r.rols.length:=by omega
 clear hk hk2
 repeat'((conv=>whnf);first|(apply aI<;>intro hb<;>first|exact absurd hb (by assumption)|((try rw[hb]);(try simp only[Ad]at hb)))|(refine eI ?_ ?_;focus (and_intros<;>first|omega|exact rfl|(simp;done)))|(intro hfact))
 all_goals(try(conv=>whnf))
 (apply dK<;>kernel_rfl)
end Go.Ab
