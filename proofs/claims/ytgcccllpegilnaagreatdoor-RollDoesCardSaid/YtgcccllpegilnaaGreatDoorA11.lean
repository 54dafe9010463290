/- Lemmas for the last text. -/
import Derived.Test.YtgcccllpegilnaaGreatDoorA0
set_option linter.unusedVariables false
set_option linter.unusedSimpArgs false
set_option maxRecDepth 100000
namespace Go.Ab
open Go.Proofs
theorem Hc (s:Sp):Fn Tryz.prog Ad1 [.v s.toI] (Is (.v (.bool (decide (Bj s)))) [.no]):=by
 refine Ac8 ?_ (by simp)
 repeat'((conv=>whnf);first|(apply aI<;>intro hb<;>first|exact absurd hb (by decide)|((try rw[hb]);(try simp only[Aa]at hb)))|(refine eI ?_ ?_;focus (and_intros<;>first|omega|exact rfl|(simp;done)))|(intro hfact))
 all_goals(try(conv=>whnf))
 all_goals(refine Done.mk ⟨SV.bool_congr ?_,by kernel_rfl⟩ (by kernel_rfl))
 all_goals(simp[Bj,Cu]at*;grind)
theorem Cy (s:Sp):Fn Tryz.prog P0 [.v s.toI] (Is (.v (.bool (decide (Bj s)))) [.no]):=by
 refine N9 ?_ (by simp)
 repeat'((conv=>whnf);first|(apply aI<;>intro hb<;>first|exact absurd hb (by decide)|((try rw[hb]);(try simp only[Aa]at hb)))|(refine eI ?_ ?_;focus (and_intros<;>first|omega|exact rfl|(simp;done)))|(intro hfact))
 all_goals(try(conv=>whnf))
 all_goals(refine Done.mk ⟨SV.bool_congr ?_,by kernel_rfl⟩ (by kernel_rfl))
 all_goals(simp[Bj,Cu]at*;grind)
theorem T6 (s:Sp) (k:Ad):Fn Tryz.prog Sx [.v s.toI,.v (.str k)] (Is (.v (.bool (decide (SpH s k)))) [.no,.no]):=by
 refine Sd ?_ (by simp)
 repeat'((conv=>whnf);first|(apply aI<;>intro hb<;>first|exact absurd hb (by decide)|((try rw[hb]);(try simp only[Aa]at hb)))|(refine eI ?_ ?_;focus (and_intros<;>first|omega|exact rfl|(simp;done))))
 all_goals(try(conv=>whnf))
 all_goals(refine Done.mk ⟨SV.bool_congr ?_,by kernel_rfl⟩ (by kernel_rfl))
 all_goals(simp[SpH,Cu]at*;grind)
theorem Zg (k:Ad):Fn Tryz.prog Uu [.v (.str k)] (Is (.v (.bool false)) [.no]):=by
 refine Ut ?_ (by simp)
 (conv=>whnf)
 all_goals(try(conv=>whnf))
 exact Done.mk ⟨SV.bool_congr (by simp),by kernel_rfl⟩ (by kernel_rfl)
def cmpS (a b:Ad):Int:=if a<b then -1 else if b<a then 1 else 0
theorem Jg (a b:Ad):Fn Tryz.prog Sv [.v (.str a),.v (.str b)] (Is (.v (.int .i64 (cmpS a b))) [.no,.no]):=by
 refine Sb ?_ (by simp)
 repeat'((conv=>whnf);first|(apply aI<;>intro hb<;>first|exact absurd hb (by decide)|((try rw[hb]);(try simp only[Aa]at hb)))|(refine eI ?_ ?_;focus (and_intros<;>first|(intro _ hh;cases hh;done)|(simp;done)|decide))|(refine CallWp.mk ⟨_,Zg _,?_⟩;rintro _ _ ⟨rfl,rfl⟩))
 all_goals(try(conv=>whnf))
 all_goals(refine Done.mk ⟨congrArg (fun n=>SV.v (.int .i64 n)) ?_,by kernel_rfl⟩ (by kernel_rfl))
 all_goals(simp[cmpS,Cu]at* <;>grind)
def Fm (a b:Ad):Int:=if a=b then 0 else if a=[]then 1 else if b=[]then -1 else cmpS a b
theorem Kv (a b:Ad):Fn Tryz.prog Ahj [.v (.str a),.v (.str b)] (Is (.v (.int .i64 (Fm a b))) [.no,.no]):=by
 refine Ae7 ?_ (by simp)
 repeat'((conv=>whnf);first|(refine aI (fun hb=>?_) (fun hb=>?_)<;>((try rw[hb]);(try simp only[Aa]at hb);(try subst hb)))|(refine eI ?_ ?_;focus (and_intros<;>first|(intro _ hh;cases hh;done)|(simp;done)|decide))|(refine CallWp.mk ⟨_,Jg _ _,?_⟩;rintro _ _ ⟨rfl,rfl⟩))
 all_goals(try(conv=>whnf))
 all_goals(refine Done.mk ⟨congrArg (fun n=>SV.v (.int .i64 n)) ?_,by kernel_rfl⟩ (by kernel_rfl))
 all_goals(simp[Fm]at* <;>grind)
def SpIn (a b:Sp):Prop:=Bj a∧Bj b∧b.f≤a.f∧Fm a.t b.t≤0
instance (a b:Sp):Decidable (SpIn a b):=by unfold SpIn;infer_instance
set_option maxHeartbeats 1000000

open Go.Proofs
abbrev sps (l:List Sp):List I:=l.map Sp.toI
theorem J9 (l:List Sp):∀u∈sps l,u.size=2:=by
 intro u hu
 obtain⟨e,_,rfl⟩:=List.mem_map.1 hu
 rfl
theorem J8 {l:List Sp} {k:Nat} {e:Sp} (h:l[k]?=some e):(sps l)[k]?=some e.toI:=by simp[h]
theorem Aa0 (s:Sp):Fn Tryz.prog Z0 [.v s.toI] (Is (.v (.bool (!decide (Bj s)))) [.no]):=by
 refine Yv ?_ (by simp)
 repeat'((conv=>whnf);first|(refine eI ?_ ?_;focus (and_intros<;>first|omega|exact rfl|(intro _ hh;cases hh;done)|(simp;done)|decide))|(refine CallWp.mk ⟨_,Hc _,?_⟩;rintro _ _ ⟨rfl,rfl⟩))
 all_goals(try(conv=>whnf))
 exact Done.mk ⟨rfl,by kernel_rfl⟩ (by kernel_rfl)
theorem Ait (l:List Sp) (hl:l.length≤1000000):Fn Tryz.prog G5 [.v (.list (sps l))] (Is (.vec 34 2 (sps l)) [.no]):=by
 refine Gd ?_ (by simp)
 have h1:(([]:List I).length+(sps l).length)*32≤140737488355328:=by simp;omega
 have h2:([]:List I).length+(sps l).length≤maxLen:=by simp[maxLen];omega
 have h3:=J9 l
 repeat'((conv=>whnf);first|(refine aI (fun hb=>?_) (fun hb=>?_)<;>((try rw[hb]);(try subst hb)))|(refine eI ?_ ?_;focus (and_intros<;>first|omega|exact rfl|(simp;done)))|(intro hfact))
 all_goals(try(conv=>whnf))
 ·refine Done.mk ⟨congrArg (fun l=>SV.vec 34 2 l) ?_,by kernel_rfl⟩ (by kernel_rfl)
  simp_all
 ·exact Done.mk ⟨congrArg (fun l=>SV.vec 34 2 l) (List.nil_append _),by kernel_rfl⟩ (by kernel_rfl)
theorem Kn {e sz:Nat} {l:List I} {n:Nat} {u:I} (h:l[n]?=some u):(SV.vec e sz l).hit 0 [n]=some (n*sz+0,.item u):=by
 have:u.sub []=some (0,u):=by cases u<;>rfl
 simp[SV.hit,hitV,h,hitI,this]
def badB (s:Sp):Bool:= !decide (Bj s)
def idxF (p:Sp→Bool):Nat→List Sp→Int
 |_,[]=> -1
 |k,s::r=>if p s=true then k else idxF p (k+1) r
theorem Amj (l:List Sp) (hl:l.length≤1000000):Fn Tryz.prog Fh [.v (.list (sps l)),.v (.fn 139)] (Is (.v (.int .i64 (idxF badB 0 l))) [.no,.no]):=by
 refine E8 ?_ (by simp)
 have hmax:l.length≤maxLen:=by simp only[maxLen];omega
 repeat'((conv=>whnf);first|(refine eI ?_ ?_;focus (and_intros<;>exact rfl))|(intro hfact))
 all_goals(try(conv=>whnf))
 refine LoopWq.by (X:=Nat) (fun x=>[(8,.v (.int .i64 x))]) (fun x=>x≤l.length∧idxF badB x (l.drop x)=idxF badB 0 l) (fun x=>l.length - x)
  0 (by kernel_rfl) ⟨Nat.zero_le _,rfl⟩ ?_
 rintro k ⟨h1,h2⟩
 by_cases hk:k<l.length
 ·obtain⟨e,he⟩:∃e,l[k]?=some e:=⟨_,List.getElem?_eq_getElem hk⟩
  have hg:(sps l)[Int.toNat (k:Int)]?=some e.toI:=J8 he
  have hlt:¬decide ((k:Int)<((sps l).length:Int))=false:=by simp[hk]
  have hkl:Int.toNat (k:Int)<(sps l).length:=by simp[hk]
  have hke:l[k]=e:=by rw[List.getElem?_eq_getElem hk]at he;simpa using he
  rw[List.drop_eq_getElem_cons hk,hke]at h2
  repeat'((conv=>whnf);first|(apply aI<;>intro hb<;>first|exact absurd hb (by assumption)|((try rw[hb]);(try simp only[Aa]at hb)))|(refine eI ?_ ?_;focus (and_intros<;>first|omega|exact rfl|(intro _ hh;cases hh;done)|(simp;done)|decide))|((try dsimp only);rw[hg])|(refine CallWp.mk ⟨_,Aa0 _,?_⟩;rintro _ _ ⟨rfl,rfl⟩))
  all_goals(try(conv=>whnf))
  ·refine Done.mk ⟨congrArg (fun n=>SV.v (.int .i64 n)) ?_,by kernel_rfl⟩ (by kernel_rfl)
   rw[←h2,idxF,if_pos (by first|assumption|simp[badB, *])]
  ·refine Round.by (k+1) ?_ ?_ ?_
   ·rw[Ae hk hmax]
    show norm _ _=upd _ _
    kernel_rfl
   ·refine⟨hk,?_⟩
    rw[←h2,idxF,if_neg (by have:=hb;simp only[badB];simp at this ⊢;exact this)]
   ·show l.length - (k+1)<l.length - k
    omega
 ·have hlt:¬decide ((k:Int)<((sps l).length:Int))=true:=by simp;omega
  repeat'((conv=>whnf);(apply aI<;>intro hb<;>first|exact absurd hb (by assumption)|((try rw[hb]);(try simp only[Aa]at hb))))
  all_goals(try(conv=>whnf))
  refine Done.mk ⟨congrArg (fun n=>SV.v (.int .i64 n)) ?_,by kernel_rfl⟩ (by kernel_rfl)
  rw[←h2,List.drop_eq_nil_of_le (by omega)]
  rfl
set_option maxHeartbeats 8000000

open Go.Proofs
structure Ten where
 (name:Ad) (mb ks:Int)
 deriving DecidableEq
structure Gra where
 (sp:Sp) (r w:Bool)
 deriving DecidableEq
structure Usr where
 (name ten salt hash:Ad) (roles:List Ad)
 deriving DecidableEq
structure Rol where
 (name ten:Ad) (grants:List Gra)
 deriving DecidableEq
structure Roll where
 (rev:Int) (tens:List Ten) (usrs:List Usr) (rols:List Rol)
 deriving DecidableEq
abbrev Ten.toI (t:Ten):I:=.agg [.str t.name,.int .i64 t.mb,.int .i64 t.ks]
abbrev Gra.toI (g:Gra):I:=.agg [g.sp.toI,.bool g.r,.bool g.w]
abbrev Usr.toI (u:Usr):I:=.agg [.str u.name,.str u.ten,.str u.salt,.str u.hash,.list (strs u.roles)]
abbrev Rol.toI (x:Rol):I:=.agg [.str x.name,.str x.ten,.list (x.grants.map Gra.toI)]
abbrev Roll.toI (r:Roll):I:=.agg [.int .i64 r.rev,.list (r.tens.map Ten.toI),.list (r.usrs.map Usr.toI),.list (r.rols.map Rol.toI)]
def findAt {α:Type} (p:α→Bool):Nat→List α→Int
 |_,[]=> -1
 |k,a::r=>if p a then k else findAt p (k+1) r
abbrev Roll.tenAt (r:Roll) (n:Ad):Int:=findAt (fun t:Ten=>decide (t.name=n)) 0 r.tens
abbrev Roll.usrAt (r:Roll) (n:Ad):Int:=findAt (fun t:Usr=>decide (t.name=n)) 0 r.usrs
abbrev Roll.rolAt (r:Roll) (n:Ad):Int:=findAt (fun t:Rol=>decide (t.name=n)) 0 r.rols

open Go.Proofs
theorem Cv {α:Type} (p:α→Bool):∀(k:Nat) (l:List α),findAt p k l= -1∨∃j:Nat,findAt p k l=(k+j:Nat)∧j<l.length∧∃a,l[j]?=some a∧p a=true
 |_,[]=>.inl rfl
 |k,a::r=>by
  unfold findAt
  by_cases h:p a=true
  ·rw[if_pos h]
   exact .inr ⟨0,rfl,by simp,a,rfl,h⟩
  ·rw[if_neg h]
   rcases Cv p (k+1) r with h1|⟨j,h1,h2,a',h3,h4⟩
   ·exact .inl h1
   ·exact .inr ⟨j+1,by rw[h1];congr 1;omega,by simp;omega,a',by simpa using h3,h4⟩
theorem Bn (r:Roll) (n:Ad) (hl:r.tens.length≤1000000):Fn Tryz.prog Nt [.v r.toI,.v (.str n)] (Is (.v (.int .i64 (r.tenAt n))) [.no,.no]):=by
 refine Nb ?_ (by simp)
 have hm:r.tens.length≤maxLen:=by simp only[maxLen];omega
 (conv=>whnf)
 all_goals(try(conv=>whnf))
 refine LoopWq.by (X:=Nat) (fun x=>[(5,.v (.int .i64 x))]) (fun x=>x≤r.tens.length∧findAt (fun t:Ten=>decide (t.name=n)) x (r.tens.drop x)=r.tenAt n) (fun x=>r.tens.length - x)
  0 (by kernel_rfl) ⟨Nat.zero_le _,rfl⟩ ?_
 rintro k ⟨h1,h2⟩
 by_cases hk:k<r.tens.length
 case neg=>
  have hlt:¬decide ((k:Int)<((r.tens.map Ten.toI).length:Int))=true:=by simp;omega
  rw[List.drop_eq_nil_of_le (by omega)]at h2
  repeat'((conv=>whnf);first|(apply aI<;>intro hb<;>first|exact absurd hb (by assumption)|((try rw[hb]);(try simp only[Aa]at hb)))|(refine eI ?_ ?_;focus (and_intros<;>first|omega|exact rfl|(simp;done)))|(intro hfact))
  all_goals(try(conv=>whnf))
  exact Done.mk ⟨congrArg (fun n=>SV.v (.int .i64 n)) h2,by kernel_rfl⟩ (by kernel_rfl)
 obtain⟨e,he⟩:∃e,r.tens[k]?=some e:=⟨_,List.getElem?_eq_getElem hk⟩
 have hg:=Au (f:=Ten.toI) he
 have hlt:¬decide ((k:Int)<((r.tens.map Ten.toI).length:Int))=false:=by simp[hk]
 have hkl:Int.toNat (k:Int)<(r.tens.map Ten.toI).length:=by simp[hk]
 have hke:r.tens[k]=e:=by rw[List.getElem?_eq_getElem hk]at he;simpa using he
 rw[List.drop_eq_getElem_cons hk,hke,findAt]at h2
 by_cases hn:e.name=n
 ·have n1:¬decide (e.name=n)=false:=by simp[hn]
  rw[if_pos (by simpa using hn)]at h2
  repeat'((conv=>whnf);first|(apply aI<;>intro hb<;>first|exact absurd hb (by assumption)|((try rw[hb]);(try simp only[Aa]at hb);(try subst hb)))|(refine eI ?_ ?_;focus (and_intros<;>first|omega|exact rfl|(simp;done)))|(intro hfact)|((try dsimp only);rw[hg]))
  all_goals(try(conv=>whnf))
  exact Done.mk ⟨congrArg (fun n=>SV.v (.int .i64 n)) h2,by kernel_rfl⟩ (by kernel_rfl)
 ·have n1:¬decide (e.name=n)=true:=by simp[hn]
  rw[if_neg (by simpa using hn)]at h2
  repeat'((conv=>whnf);first|(apply aI<;>intro hb<;>first|exact absurd hb (by assumption)|((try rw[hb]);(try simp only[Aa]at hb)))|(refine eI ?_ ?_;focus (and_intros<;>first|omega|exact rfl|(simp;done)))|(intro hfact)|((try dsimp only);rw[hg]))
  all_goals(try(conv=>whnf))
  refine Round.by (k+1) ?_ ⟨hk,h2⟩ (by omega)
  rw[Ae hk hm]
  show norm _ _=upd _ _
  kernel_rfl
theorem Cg (r:Roll) (n:Ad) (hl:r.usrs.length≤1000000):Fn Tryz.prog Rp [.v r.toI,.v (.str n)] (Is (.v (.int .i64 (r.usrAt n))) [.no,.no]):=by
 refine Q2 ?_ (by simp)
 have hm:r.usrs.length≤maxLen:=by simp only[maxLen];omega
 (conv=>whnf)
 all_goals(try(conv=>whnf))
 refine LoopWq.by (X:=Nat) (fun x=>[(5,.v (.int .i64 x))]) (fun x=>x≤r.usrs.length∧findAt (fun t:Usr=>decide (t.name=n)) x (r.usrs.drop x)=r.usrAt n) (fun x=>r.usrs.length - x)
  0 (by kernel_rfl) ⟨Nat.zero_le _,rfl⟩ ?_
 rintro k ⟨h1,h2⟩
 by_cases hk:k<r.usrs.length
 case neg=>
  have hlt:¬decide ((k:Int)<((r.usrs.map Usr.toI).length:Int))=true:=by simp;omega
  rw[List.drop_eq_nil_of_le (by omega)]at h2
  repeat'((conv=>whnf);first|(apply aI<;>intro hb<;>first|exact absurd hb (by assumption)|((try rw[hb]);(try simp only[Aa]at hb)))|(refine eI ?_ ?_;focus (and_intros<;>first|omega|exact rfl|(simp;done)))|(intro hfact))
  all_goals(try(conv=>whnf))
  exact Done.mk ⟨congrArg (fun n=>SV.v (.int .i64 n)) h2,by kernel_rfl⟩ (by kernel_rfl)
 obtain⟨e,he⟩:∃e,r.usrs[k]?=some e:=⟨_,List.getElem?_eq_getElem hk⟩
 have hg:=Au (f:=Usr.toI) he
 have hlt:¬decide ((k:Int)<((r.usrs.map Usr.toI).length:Int))=false:=by simp[hk]
 have hkl:Int.toNat (k:Int)<(r.usrs.map Usr.toI).length:=by simp[hk]
 have hke:r.usrs[k]=e:=by rw[List.getElem?_eq_getElem hk]at he;simpa using he
 rw[List.drop_eq_getElem_cons hk,hke,findAt]at h2
 by_cases hn:e.name=n
 ·have n1:¬decide (e.name=n)=false:=by simp[hn]
  rw[if_pos (by simpa using hn)]at h2
  repeat'((conv=>whnf);first|(apply aI<;>intro hb<;>first|exact absurd hb (by assumption)|((try rw[hb]);(try simp only[Aa]at hb);(try subst hb)))|(refine eI ?_ ?_;focus (and_intros<;>first|omega|exact rfl|(simp;done)))|(intro hfact)|((try dsimp only);rw[hg]))
  all_goals(try(conv=>whnf))
  exact Done.mk ⟨congrArg (fun n=>SV.v (.int .i64 n)) h2,by kernel_rfl⟩ (by kernel_rfl)
 ·have n1:¬decide (e.name=n)=true:=by simp[hn]
  rw[if_neg (by simpa using hn)]at h2
  repeat'((conv=>whnf);first|(apply aI<;>intro hb<;>first|exact absurd hb (by assumption)|((try rw[hb]);(try simp only[Aa]at hb)))|(refine eI ?_ ?_;focus (and_intros<;>first|omega|exact rfl|(simp;done)))|(intro hfact)|((try dsimp only);rw[hg]))
  all_goals(try(conv=>whnf))
  refine Round.by (k+1) ?_ ⟨hk,h2⟩ (by omega)
  rw[Ae hk hm]
  show norm _ _=upd _ _
  kernel_rfl
theorem Ca (r:Roll) (n:Ad) (hl:r.rols.length≤1000000):Fn Tryz.prog Rn [.v r.toI,.v (.str n)] (Is (.v (.int .i64 (r.rolAt n))) [.no,.no]):=by
 refine Q0 ?_ (by simp)
 have hm:r.rols.length≤maxLen:=by simp only[maxLen];omega
 (conv=>whnf)
 all_goals(try(conv=>whnf))
 refine LoopWq.by (X:=Nat) (fun x=>[(5,.v (.int .i64 x))]) (fun x=>x≤r.rols.length∧findAt (fun t:Rol=>decide (t.name=n)) x (r.rols.drop x)=r.rolAt n) (fun x=>r.rols.length - x)
  0 (by kernel_rfl) ⟨Nat.zero_le _,rfl⟩ ?_
 rintro k ⟨h1,h2⟩
 by_cases hk:k<r.rols.length
 case neg=>
  have hlt:¬decide ((k:Int)<((r.rols.map Rol.toI).length:Int))=true:=by simp;omega
  rw[List.drop_eq_nil_of_le (by omega)]at h2
  repeat'((conv=>whnf);first|(apply aI<;>intro hb<;>first|exact absurd hb (by assumption)|((try rw[hb]);(try simp only[Aa]at hb)))|(refine eI ?_ ?_;focus (and_intros<;>first|omega|exact rfl|(simp;done)))|(intro hfact))
  all_goals(try(conv=>whnf))
  exact Done.mk ⟨congrArg (fun n=>SV.v (.int .i64 n)) h2,by kernel_rfl⟩ (by kernel_rfl)
 obtain⟨e,he⟩:∃e,r.rols[k]?=some e:=⟨_,List.getElem?_eq_getElem hk⟩
 have hg:=Au (f:=Rol.toI) he
 have hlt:¬decide ((k:Int)<((r.rols.map Rol.toI).length:Int))=false:=by simp[hk]
 have hkl:Int.toNat (k:Int)<(r.rols.map Rol.toI).length:=by simp[hk]
 have hke:r.rols[k]=e:=by rw[List.getElem?_eq_getElem hk]at he;simpa using he
 rw[List.drop_eq_getElem_cons hk,hke,findAt]at h2
 by_cases hn:e.name=n
 ·have n1:¬decide (e.name=n)=false:=by simp[hn]
  rw[if_pos (by simpa using hn)]at h2
  repeat'((conv=>whnf);first|(apply aI<;>intro hb<;>first|exact absurd hb (by assumption)|((try rw[hb]);(try simp only[Aa]at hb);(try subst hb)))|(refine eI ?_ ?_;focus (and_intros<;>first|omega|exact rfl|(simp;done)))|(intro hfact)|((try dsimp only);rw[hg]))
  all_goals(try(conv=>whnf))
  exact Done.mk ⟨congrArg (fun n=>SV.v (.int .i64 n)) h2,by kernel_rfl⟩ (by kernel_rfl)
 ·have n1:¬decide (e.name=n)=true:=by simp[hn]
  rw[if_neg (by simpa using hn)]at h2
  repeat'((conv=>whnf);first|(apply aI<;>intro hb<;>first|exact absurd hb (by assumption)|((try rw[hb]);(try simp only[Aa]at hb)))|(refine eI ?_ ?_;focus (and_intros<;>first|omega|exact rfl|(simp;done)))|(intro hfact)|((try dsimp only);rw[hg]))
  all_goals(try(conv=>whnf))
  refine Round.by (k+1) ?_ ⟨hk,h2⟩ (by omega)
  rw[Ae hk hm]
  show norm _ _=upd _ _
  kernel_rfl

open Go.Proofs
def B2 {α:Type} (gt:α→Bool) (x:α):List α→List α
 | []=>[x]
 |a::r=>if gt a then x::a::r else a::B2 gt x r
def D3 {α:Type} (gt:α→Bool) (x:α) (s:List α × Bool) (e:α):(List α × Bool) ⊕ List α:=
 if !s.2&&gt e then .inl (s.1++[x]++[e],true)else .inl (s.1++[e],s.2)
def F6 {α:Type} (x:α) (s:List α × Bool):List α:=if s.2 then s.1 else s.1++[x]
theorem Jz {α:Type} (gt:α→Bool) (x:α):∀(l:List α) (o:List α),Br (D3 gt x) (F6 x) l (o,true)=o++l∧Br (D3 gt x) (F6 x) l (o,false)=o++B2 gt x l
 | [],o=>by simp[Br,F6,B2]
 |a::r,o=>by
  obtain⟨h1,_⟩:=Jz gt x r (o++[a])
  obtain⟨h3,_⟩:=Jz gt x r (o++[x]++[a])
  obtain⟨_,h4⟩:=Jz gt x r (o++[a])
  refine⟨?_,?_⟩
  ·rw[D0]
   simp only[D3,Bool.not_true,Bool.false_and,Bool.false_eq_true,if_false,aft]
   rw[h1];simp
  ·rw[D0]
   by_cases hg:gt a=true
   ·simp only[D3,Bool.not_false,Bool.true_and,hg,if_true,aft,B2]
    rw[h3];simp
   ·simp[D3,hg,aft,B2,h4]
theorem F5 {α:Type} (gt:α→Bool) (x:α):∀l:List α,(B2 gt x l).length=l.length+1
 | []=>rfl
 |a::r=>by
  unfold B2
  split
  ·simp
  ·simp[F5 gt x r]
def Rs {α:Type} (p:α→Bool) (_:Unit) (e:α):Unit ⊕ Bool:=if p e then .inr true else .inl ()
def Ad4 (_:Unit):Bool:=false
theorem Z1 {α:Type} (p:α→Bool):∀(l:List α) (u:Unit),Br (Rs p) Ad4 l u=l.any p
 | [],_=>rfl
 |a::r,u=>by
  rw[D0,List.any_cons]
  by_cases h:p a=true
  ·simp[Rs,h,aft]
  ·simp[Rs,h,aft,Z1 p r]
def Rv {α:Type} (p:α→Bool) (s:List α) (e:α):List α ⊕ List α:=if p e then .inl (s++[e])else .inl s
def Yd {α:Type} (s:List α):List α:=s
theorem Z6 {α:Type} (p:α→Bool):∀(l:List α) (o:List α),Br (Rv p) Yd l o=o++l.filter p
 | [],o=>by simp[Br,Yd]
 |a::r,o=>by
  rw[D0]
  by_cases h:p a=true
  ·simp[Rv,h,aft,Z6 p r]
  ·simp[Rv,h,aft,Z6 p r]
theorem T5 (n:Int):Fn Tryz.prog Ct [.v (.int .i64 n)] (Is (.v (.bool (decide (0≤n)&&decide (n≤1099511627776)))) [.no]):=by
 refine Si ?_ (by simp)
 repeat'((conv=>whnf);(apply aI<;>intro hb<;>first|exact absurd hb (by decide)|((try rw[hb]);(try simp only[Aa]at hb))))
 all_goals(try(conv=>whnf))
 all_goals(refine Done.mk ⟨SV.bool_congr ?_,by kernel_rfl⟩ (by kernel_rfl))
 all_goals(simp at*;try grind)
theorem Aqg (l:List Ad) (x:Ad) (hl:l.length≤10000):Fn Tryz.prog S1 [.v (.list (l.map I.str)),.v (.str x)] (Is (.v (.bool (l.any fun e=>decide (e=x)))) [.no,.no]):=by
 refine Sg ?_ (by simp)
 have hm:l.length≤maxLen:=by simp only[maxLen];omega
 rw[←Z1 _ _ ()]
 generalize hAns:Br _ _ l ()=A
 (conv=>whnf)
 all_goals(try(conv=>whnf))
 refine each (l) _ _ _ (fun k s=>[(5,.v (.int .i64 k))]) (fun k s=>True) () (by kernel_rfl) (by simp) hAns ?_ ?_<;>clear hAns
 ·rintro k ⟨⟩ e he hk hi hA
  dsimp only at hi hA ⊢
  repeat'((conv=>whnf);first|(apply aI<;>intro hb<;>first|(exfalso;simp only[Ag]at hb<;>omega)|((try rw[hb]);(try simp only[Aa]at hb);(try subst hb)))|(refine eI ?_ ?_;focus (and_intros<;>first|omega|exact rfl))|(intro hfact)|((try dsimp only);first|rw[Au he]|rw[Am he]|rw[An he]))
  all_goals(try(conv=>whnf))
  all_goals first
   |(simp[-List.append_assoc,Rs, *]at hA
     first
     |(refine RoundE.aft hA ?_ ?_
       ·(try dsimp only);(try rw[Ae hk hm]);(try simp only[List.map_append,List.map_cons,List.map_nil])
        show norm _ _=upd _ _
        kernel_rfl
       ·first|trivial|omega|((try dsimp only);simp only[Ag];omega)|((try dsimp only);(try simp at*);omega))
     |(refine Done.mk ⟨?_,by kernel_rfl⟩ (by kernel_rfl)
       have hA':=hA
       first|(rw[←hA'];first|rfl|kernel_rfl|(simp only[List.map_append,List.map_cons,List.map_nil];first|rfl|kernel_rfl))|(rw[←B0 hA'];first|rfl|kernel_rfl|(simp only[List.map_append,List.map_cons,List.map_nil];first|rfl|kernel_rfl))|(simp at hA' ⊢;simp[*];done))
    )
 ·rintro⟨⟩ k rfl hi hA
  dsimp only at hi hA ⊢
  repeat'((conv=>whnf);first|(apply aI<;>intro hb<;>first|(exfalso;simp only[Ag]at hb<;>omega)|((try rw[hb]);(try simp only[Aa]at hb)))|(refine eI ?_ ?_;focus (and_intros<;>exact rfl))|(intro hfact))
  all_goals(try(conv=>whnf))
  all_goals first
   |(simp[-List.append_assoc,Ad4, *]at hA
     first
     |(refine RoundE.aft hA ?_ ?_
       ·(try dsimp only);(try rw[Ae hk hm]);(try simp only[List.map_append,List.map_cons,List.map_nil])
        show norm _ _=upd _ _
        kernel_rfl
       ·first|trivial|omega|((try dsimp only);simp only[Ag];omega)|((try dsimp only);(try simp at*);omega))
     |(refine Done.mk ⟨?_,by kernel_rfl⟩ (by kernel_rfl)
       have hA':=hA
       first|(rw[←hA'];first|rfl|kernel_rfl|(simp only[List.map_append,List.map_cons,List.map_nil];first|rfl|kernel_rfl))|(rw[←B0 hA'];first|rfl|kernel_rfl|(simp only[List.map_append,List.map_cons,List.map_nil];first|rfl|kernel_rfl))|(simp at hA' ⊢;simp[*];done))
    )
theorem Vt (l:List Ad) (x:Ad) (hl:l.length≤10000):Fn Tryz.prog Mj [.v (.list (l.map I.str)),.v (.str x)] (Is (.v (.list ((l.filter fun e=> !decide (e=x)).map I.str))) [.no,.no]):=by
 refine Lw ?_ (by simp)
 have hm:l.length≤maxLen:=by simp only[maxLen];omega
 rw[show l.filter (fun e=> !decide (e=x))=Br (Rv _) Yd l []from(Z6 _ _ []).symm]
 generalize hAns:Br _ _ l _=A
 repeat'((conv=>whnf);(refine eI ?_ ?_;focus (and_intros<;>omega)))
 all_goals(try(conv=>whnf))
 refine each (l) _ _ _ (fun k s=>[(5,.vec B3 1 (s.map I.str)),(6,.v (.int .i64 k))]) (fun k s=>s.length≤k) [] (by kernel_rfl) (by simp) hAns ?_ ?_<;>clear hAns
 ·rintro k o e he hk hi hA
  dsimp only at hi hA ⊢
  repeat'((conv=>whnf);first|(apply aI<;>intro hb<;>first|(exfalso;simp only[Ag]at hb<;>omega)|((try rw[hb]);(try simp only[Aa]at hb);(try subst hb)))|(refine eI ?_ ?_;focus (and_intros<;>first|omega|exact rfl|exact A0 (by rfl)|(simp only[Ag];omega)|(simp;done)))|(intro hfact)|((try dsimp only);first|rw[Au he]|rw[Am he]|rw[An he]))
  all_goals(try(conv=>whnf))
  all_goals first
   |(simp[-List.append_assoc,Rv, *]at hA
     first
     |(refine RoundE.aft hA ?_ ?_
       ·(try dsimp only);(try rw[Ae hk hm]);(try simp only[List.map_append,List.map_cons,List.map_nil])
        show norm _ _=upd _ _
        kernel_rfl
       ·first|trivial|omega|((try dsimp only);simp only[Ag];omega)|((try dsimp only);(try simp at*);omega))
     |(refine Done.mk ⟨?_,by kernel_rfl⟩ (by kernel_rfl)
       have hA':=hA
       first|(rw[←hA'];first|rfl|kernel_rfl|(simp only[List.map_append,List.map_cons,List.map_nil];first|rfl|kernel_rfl))|(rw[←B0 hA'];first|rfl|kernel_rfl|(simp only[List.map_append,List.map_cons,List.map_nil];first|rfl|kernel_rfl))|(simp at hA' ⊢;simp[*];done))
    )
 ·rintro o k rfl hi hA
  dsimp only at hi hA ⊢
  repeat'((conv=>whnf);first|(apply aI<;>intro hb<;>first|(exfalso;simp only[Ag]at hb<;>omega)|((try rw[hb]);(try simp only[Aa]at hb)))|(refine eI ?_ ?_;focus (and_intros<;>first|omega|exact rfl|(simp;done)))|(intro hfact))
  all_goals(try(conv=>whnf))
  all_goals first
   |(simp[-List.append_assoc,Yd, *]at hA
     first
     |(refine RoundE.aft hA ?_ ?_
       ·(try dsimp only);(try rw[Ae hk hm]);(try simp only[List.map_append,List.map_cons,List.map_nil])
        show norm _ _=upd _ _
        kernel_rfl
       ·first|trivial|omega|((try dsimp only);simp only[Ag];omega)|((try dsimp only);(try simp at*);omega))
     |(refine Done.mk ⟨?_,by kernel_rfl⟩ (by kernel_rfl)
       have hA':=hA
       first|(rw[←hA'];first|rfl|kernel_rfl|(simp only[List.map_append,List.map_cons,List.map_nil];first|rfl|kernel_rfl))|(rw[←B0 hA'];first|rfl|kernel_rfl|(simp only[List.map_append,List.map_cons,List.map_nil];first|rfl|kernel_rfl))|(simp at hA' ⊢;simp[*];done))
    )
theorem Yg (e x:Gra):(decide (e.sp.f=x.sp.f)&&(decide (e.sp.t=x.sp.t)&&true)&&(decide (e.r=x.r)&&(decide (e.w=x.w)&&true)))=decide (e=x):=by
 obtain⟨⟨a,b⟩,c,d⟩:=e
 obtain⟨⟨a',b'⟩,c',d'⟩:=x
 simp only[Bool.and_true]
 by_cases h1:a=a'<;>by_cases h2:b=b'<;>by_cases h3:c=c'<;>by_cases h4:d=d'<;>simp[h1,h2,h3,h4]
theorem Ui (l:List Gra) (x:Gra) (hl:l.length≤10000):Fn Tryz.prog Lf [.v (.list (l.map Gra.toI)),.v x.toI] (Is (.v (.bool (l.any fun e=>decide (e=x)))) [.no,.no]):=by
 refine K5 ?_ (by simp)
 have hm:l.length≤maxLen:=by simp only[maxLen];omega
 rw[←Z1 _ _ ()]
 generalize hAns:Br _ _ l ()=A
 (conv=>whnf)
 all_goals(try(conv=>whnf))
 refine each (l) _ _ _ (fun k s=>[(5,.v (.int .i64 k))]) (fun k s=>True) () (by kernel_rfl) (by simp) hAns ?_ ?_<;>clear hAns
 ·rintro k ⟨⟩ e he hk hi hA
  dsimp only at hi hA ⊢
  repeat'((conv=>whnf);first|(apply aI<;>intro hb<;>first|(exfalso;simp only[Ag]at hb<;>omega)|((try rw[hb]);(try simp only[Yg,Aa]at hb);(try subst hb)))|(refine eI ?_ ?_;focus (and_intros<;>first|omega|exact rfl))|(intro hfact)|((with_reducible apply Drawn.by0);(focus kernel_rfl);intro hfact;(try simp only[dRS]at hfact))|((try dsimp only);first|rw[Au he]|rw[Am he]|rw[An he]))
  all_goals(try(conv=>whnf))
  all_goals first
   |(simp[-List.append_assoc,Rs, *]at hA
     first
     |(refine RoundE.aft hA ?_ ?_
       ·(try dsimp only);(try rw[Ae hk hm]);(try simp only[List.map_append,List.map_cons,List.map_nil])
        show norm _ _=upd _ _
        kernel_rfl
       ·first|trivial|omega|((try dsimp only);simp only[Ag];omega)|((try dsimp only);(try simp at*);omega))
     |(refine Done.mk ⟨?_,by kernel_rfl⟩ (by kernel_rfl)
       have hA':=hA
       first|(rw[←hA'];first|rfl|kernel_rfl|(simp only[List.map_append,List.map_cons,List.map_nil];first|rfl|kernel_rfl))|(rw[←B0 hA'];first|rfl|kernel_rfl|(simp only[List.map_append,List.map_cons,List.map_nil];first|rfl|kernel_rfl))|(simp at hA' ⊢;simp[*];done))
    )
 ·rintro⟨⟩ k rfl hi hA
  dsimp only at hi hA ⊢
  repeat'((conv=>whnf);first|(apply aI<;>intro hb<;>first|(exfalso;simp only[Ag]at hb<;>omega)|((try rw[hb]);(try simp only[Yg,Aa]at hb)))|(refine eI ?_ ?_;focus (and_intros<;>exact rfl))|(intro hfact))
  all_goals(try(conv=>whnf))
  all_goals first
   |(simp[-List.append_assoc,Ad4, *]at hA
     first
     |(refine RoundE.aft hA ?_ ?_
       ·(try dsimp only);(try rw[Ae hk hm]);(try simp only[List.map_append,List.map_cons,List.map_nil])
        show norm _ _=upd _ _
        kernel_rfl
       ·first|trivial|omega|((try dsimp only);simp only[Ag];omega)|((try dsimp only);(try simp at*);omega))
     |(refine Done.mk ⟨?_,by kernel_rfl⟩ (by kernel_rfl)
       have hA':=hA
       first|(rw[←hA'];first|rfl|kernel_rfl|(simp only[List.map_append,List.map_cons,List.map_nil];first|rfl|kernel_rfl))|(rw[←B0 hA'];first|rfl|kernel_rfl|(simp only[List.map_append,List.map_cons,List.map_nil];first|rfl|kernel_rfl))|(simp at hA' ⊢;simp[*];done))
    )
theorem Amq (l:List Ad) (x:Ad) (hl:l.length≤10000):Fn Tryz.prog P2 [.v (.list (l.map I.str)),.v (I.str x)] (Is (.v (.list ((B2 (fun e:Ad=>decide (x<e)) x l).map I.str))) [.no,.no]):=by
 refine Pc ?_ (by simp)
 have hm:l.length≤maxLen:=by simp only[maxLen];omega
 rw[show B2 (fun e:Ad=>decide (x<e)) x l=Br (D3 _ x) (F6 x) l ([],false)from(Jz _ x l []).2.symm]
 generalize hAns:Br _ _ l _=A
 repeat'((conv=>whnf);(refine eI ?_ ?_;focus (and_intros<;>omega)))
 all_goals(try(conv=>whnf))
 refine each (l) _ _ _ (fun k s=>[(5,.vec B3 1 (s.1.map I.str)),(6,.v (.bool s.2)),(7,.v (.int .i64 k))]) (fun k s=>s.1.length≤2*k) ([],false) (by kernel_rfl) (by simp) hAns ?_ ?_<;>clear hAns
 ·rintro k ⟨o,d⟩ e he hk hi hA
  dsimp only at hi hA ⊢
  repeat'((conv=>whnf);first|(apply aI<;>intro hb<;>first|exact absurd hb (by decide)|(exfalso;simp only[Ag]at hb<;>omega)|((try rw[hb]);(try simp only[Aa]at hb);(try subst hb)))|(refine eI ?_ ?_;focus (and_intros<;>first|omega|exact rfl|exact A0 (by rfl)|(simp only[Ag];omega)|(simp;done)))|(intro hfact)|((try dsimp only);first|rw[Au he]|rw[Am he]|rw[An he]))
  all_goals(try(conv=>whnf))
  all_goals first
   |(simp[-List.append_assoc,D3, *]at hA
     first
     |(refine RoundE.aft hA ?_ ?_
       ·(try dsimp only);(try rw[Ae hk hm]);(try simp only[List.map_append,List.map_cons,List.map_nil])
        show norm _ _=upd _ _
        kernel_rfl
       ·first|trivial|omega|((try dsimp only);simp only[Ag];omega)|((try dsimp only);(try simp at*);omega))
     |(refine Done.mk ⟨?_,by kernel_rfl⟩ (by kernel_rfl)
       have hA':=hA
       first|(rw[←hA'];first|rfl|kernel_rfl|(simp only[List.map_append,List.map_cons,List.map_nil];first|rfl|kernel_rfl))|(rw[←B0 hA'];first|rfl|kernel_rfl|(simp only[List.map_append,List.map_cons,List.map_nil];first|rfl|kernel_rfl))|(simp at hA' ⊢;simp[*];done))
    )
 ·rintro⟨o,d⟩ k rfl hi hA
  dsimp only at hi hA ⊢
  repeat'((conv=>whnf);first|(apply aI<;>intro hb<;>first|(exfalso;simp only[Ag]at hb<;>omega)|((try rw[hb]);(try simp only[Aa]at hb);(try subst hb)))|(refine eI ?_ ?_;focus (and_intros<;>first|omega|exact rfl|exact A0 (by rfl)|(simp only[Ag];omega)|(simp;done)))|(intro hfact))
  all_goals(try(conv=>whnf))
  all_goals first
   |(simp[-List.append_assoc,F6, *]at hA
     first
     |(refine RoundE.aft hA ?_ ?_
       ·(try dsimp only);(try rw[Ae hk hm]);(try simp only[List.map_append,List.map_cons,List.map_nil])
        show norm _ _=upd _ _
        kernel_rfl
       ·first|trivial|omega|((try dsimp only);simp only[Ag];omega)|((try dsimp only);(try simp at*);omega))
     |(refine Done.mk ⟨?_,by kernel_rfl⟩ (by kernel_rfl)
       have hA':=hA
       first|(rw[←hA'];first|rfl|kernel_rfl|(simp only[List.map_append,List.map_cons,List.map_nil];first|rfl|kernel_rfl))|(rw[←B0 hA'];first|rfl|kernel_rfl|(simp only[List.map_append,List.map_cons,List.map_nil];first|rfl|kernel_rfl))|(simp at hA' ⊢;simp[*];done))
    )
theorem Aat (l:List Ten) (x:Ten) (hl:l.length≤10000):Fn Tryz.prog Kz [.v (.list (l.map Ten.toI)),.v (Ten.toI x)] (Is (.v (.list ((B2 (fun e:Ten=>decide (x.name<e.name)) x l).map Ten.toI))) [.no,.no]):=by
 refine Ks ?_ (by simp)
 have hm:l.length≤maxLen:=by simp only[maxLen];omega
 rw[show B2 (fun e:Ten=>decide (x.name<e.name)) x l=Br (D3 _ x) (F6 x) l ([],false)from(Jz _ x l []).2.symm]
 generalize hAns:Br _ _ l _=A
 repeat'((conv=>whnf);(refine eI ?_ ?_;focus (and_intros<;>omega)))
 all_goals(try(conv=>whnf))
 refine each (l) _ _ _ (fun k s=>[(5,.vec Ax 3 (s.1.map Ten.toI)),(6,.v (.bool s.2)),(7,.v (.int .i64 k))]) (fun k s=>s.1.length≤2*k) ([],false) (by kernel_rfl) (by simp) hAns ?_ ?_<;>clear hAns
 ·rintro k ⟨o,d⟩ e he hk hi hA
  dsimp only at hi hA ⊢
  repeat'((conv=>whnf);first|(apply aI<;>intro hb<;>first|exact absurd hb (by decide)|(exfalso;simp only[Ag]at hb<;>omega)|((try rw[hb]);(try simp only[Aa]at hb);(try subst hb)))|(refine eI ?_ ?_;focus (and_intros<;>first|omega|exact rfl|exact A0 (by rfl)|(simp only[Ag];omega)|(simp;done)))|(intro hfact)|((with_reducible apply Drawn.by0);(focus kernel_rfl);intro hfact;(try simp only[dRS]at hfact))|((try dsimp only);first|rw[Au he]|rw[Am he]|rw[An he]))
  all_goals(try(conv=>whnf))
  all_goals first
   |(simp[-List.append_assoc,D3, *]at hA
     first
     |(refine RoundE.aft hA ?_ ?_
       ·(try dsimp only);(try rw[Ae hk hm]);(try simp only[List.map_append,List.map_cons,List.map_nil])
        show norm _ _=upd _ _
        kernel_rfl
       ·first|trivial|omega|((try dsimp only);simp only[Ag];omega)|((try dsimp only);(try simp at*);omega))
     |(refine Done.mk ⟨?_,by kernel_rfl⟩ (by kernel_rfl)
       have hA':=hA
       first|(rw[←hA'];first|rfl|kernel_rfl|(simp only[List.map_append,List.map_cons,List.map_nil];first|rfl|kernel_rfl))|(rw[←B0 hA'];first|rfl|kernel_rfl|(simp only[List.map_append,List.map_cons,List.map_nil];first|rfl|kernel_rfl))|(simp at hA' ⊢;simp[*];done))
    )
 ·rintro⟨o,d⟩ k rfl hi hA
  dsimp only at hi hA ⊢
  repeat'((conv=>whnf);first|(apply aI<;>intro hb<;>first|(exfalso;simp only[Ag]at hb<;>omega)|((try rw[hb]);(try simp only[Aa]at hb);(try subst hb)))|(refine eI ?_ ?_;focus (and_intros<;>first|omega|exact rfl|exact A0 (by rfl)|(simp only[Ag];omega)|(simp;done)))|(intro hfact))
  all_goals(try(conv=>whnf))
  all_goals first
   |(simp[-List.append_assoc,F6, *]at hA
     first
     |(refine RoundE.aft hA ?_ ?_
       ·(try dsimp only);(try rw[Ae hk hm]);(try simp only[List.map_append,List.map_cons,List.map_nil])
        show norm _ _=upd _ _
        kernel_rfl
       ·first|trivial|omega|((try dsimp only);simp only[Ag];omega)|((try dsimp only);(try simp at*);omega))
     |(refine Done.mk ⟨?_,by kernel_rfl⟩ (by kernel_rfl)
       have hA':=hA
       first|(rw[←hA'];first|rfl|kernel_rfl|(simp only[List.map_append,List.map_cons,List.map_nil];first|rfl|kernel_rfl))|(rw[←B0 hA'];first|rfl|kernel_rfl|(simp only[List.map_append,List.map_cons,List.map_nil];first|rfl|kernel_rfl))|(simp at hA' ⊢;simp[*];done))
    )
theorem Agg (l:List Usr) (x:Usr) (hl:l.length≤10000):Fn Tryz.prog Mi [.v (.list (l.map Usr.toI)),.v (Usr.toI x)] (Is (.v (.list ((B2 (fun e:Usr=>decide (x.name<e.name)) x l).map Usr.toI))) [.no,.no]):=by
 refine Lv ?_ (by simp)
 have hm:l.length≤maxLen:=by simp only[maxLen];omega
 rw[show B2 (fun e:Usr=>decide (x.name<e.name)) x l=Br (D3 _ x) (F6 x) l ([],false)from(Jz _ x l []).2.symm]
 generalize hAns:Br _ _ l _=A
 repeat'((conv=>whnf);(refine eI ?_ ?_;focus (and_intros<;>omega)))
 all_goals(try(conv=>whnf))
 refine each (l) _ _ _ (fun k s=>[(5,.vec Ar 5 (s.1.map Usr.toI)),(6,.v (.bool s.2)),(7,.v (.int .i64 k))]) (fun k s=>s.1.length≤2*k) ([],false) (by kernel_rfl) (by simp) hAns ?_ ?_<;>clear hAns
 ·rintro k ⟨o,d⟩ e he hk hi hA
  dsimp only at hi hA ⊢
  repeat'((conv=>whnf);first|(apply aI<;>intro hb<;>first|exact absurd hb (by decide)|(exfalso;simp only[Ag]at hb<;>omega)|((try rw[hb]);(try simp only[Aa]at hb);(try subst hb)))|(refine eI ?_ ?_;focus (and_intros<;>first|omega|exact rfl|exact A0 (by rfl)|(simp only[Ag];omega)|(simp;done)))|(intro hfact)|((with_reducible apply Drawn.by0);(focus kernel_rfl);intro hfact;(try simp only[dRS]at hfact))|((try dsimp only);first|rw[Au he]|rw[Am he]|rw[An he]))
  all_goals(try(conv=>whnf))
  all_goals first
   |(simp[-List.append_assoc,D3, *]at hA
     first
     |(refine RoundE.aft hA ?_ ?_
       ·(try dsimp only);(try rw[Ae hk hm]);(try simp only[List.map_append,List.map_cons,List.map_nil])
        show norm _ _=upd _ _
        kernel_rfl
       ·first|trivial|omega|((try dsimp only);simp only[Ag];omega)|((try dsimp only);(try simp at*);omega))
     |(refine Done.mk ⟨?_,by kernel_rfl⟩ (by kernel_rfl)
       have hA':=hA
       first|(rw[←hA'];first|rfl|kernel_rfl|(simp only[List.map_append,List.map_cons,List.map_nil];first|rfl|kernel_rfl))|(rw[←B0 hA'];first|rfl|kernel_rfl|(simp only[List.map_append,List.map_cons,List.map_nil];first|rfl|kernel_rfl))|(simp at hA' ⊢;simp[*];done))
    )
 ·rintro⟨o,d⟩ k rfl hi hA
  dsimp only at hi hA ⊢
  repeat'((conv=>whnf);first|(apply aI<;>intro hb<;>first|(exfalso;simp only[Ag]at hb<;>omega)|((try rw[hb]);(try simp only[Aa]at hb);(try subst hb)))|(refine eI ?_ ?_;focus (and_intros<;>first|omega|exact rfl|exact A0 (by rfl)|(simp only[Ag];omega)|(simp;done)))|(intro hfact))
  all_goals(try(conv=>whnf))
  all_goals first
   |(simp[-List.append_assoc,F6, *]at hA
     first
     |(refine RoundE.aft hA ?_ ?_
       ·(try dsimp only);(try rw[Ae hk hm]);(try simp only[List.map_append,List.map_cons,List.map_nil])
        show norm _ _=upd _ _
        kernel_rfl
       ·first|trivial|omega|((try dsimp only);simp only[Ag];omega)|((try dsimp only);(try simp at*);omega))
     |(refine Done.mk ⟨?_,by kernel_rfl⟩ (by kernel_rfl)
       have hA':=hA
       first|(rw[←hA'];first|rfl|kernel_rfl|(simp only[List.map_append,List.map_cons,List.map_nil];first|rfl|kernel_rfl))|(rw[←B0 hA'];first|rfl|kernel_rfl|(simp only[List.map_append,List.map_cons,List.map_nil];first|rfl|kernel_rfl))|(simp at hA' ⊢;simp[*];done))
    )
theorem Agf (l:List Rol) (x:Rol) (hl:l.length≤10000):Fn Tryz.prog Mh [.v (.list (l.map Rol.toI)),.v (Rol.toI x)] (Is (.v (.list ((B2 (fun e:Rol=>decide (x.name<e.name)) x l).map Rol.toI))) [.no,.no]):=by
 refine Lu ?_ (by simp)
 have hm:l.length≤maxLen:=by simp only[maxLen];omega
 rw[show B2 (fun e:Rol=>decide (x.name<e.name)) x l=Br (D3 _ x) (F6 x) l ([],false)from(Jz _ x l []).2.symm]
 generalize hAns:Br _ _ l _=A
 repeat'((conv=>whnf);(refine eI ?_ ?_;focus (and_intros<;>omega)))
 all_goals(try(conv=>whnf))
 refine each (l) _ _ _ (fun k s=>[(5,.vec Aq 3 (s.1.map Rol.toI)),(6,.v (.bool s.2)),(7,.v (.int .i64 k))]) (fun k s=>s.1.length≤2*k) ([],false) (by kernel_rfl) (by simp) hAns ?_ ?_<;>clear hAns
 ·rintro k ⟨o,d⟩ e he hk hi hA
  dsimp only at hi hA ⊢
  repeat'((conv=>whnf);first|(apply aI<;>intro hb<;>first|exact absurd hb (by decide)|(exfalso;simp only[Ag]at hb<;>omega)|((try rw[hb]);(try simp only[Aa]at hb);(try subst hb)))|(refine eI ?_ ?_;focus (and_intros<;>first|omega|exact rfl|exact A0 (by rfl)|(simp only[Ag];omega)|(simp;done)))|(intro hfact)|((with_reducible apply Drawn.by0);(focus kernel_rfl);intro hfact;(try simp only[dRS]at hfact))|((try dsimp only);first|rw[Au he]|rw[Am he]|rw[An he]))
  all_goals(try(conv=>whnf))
  all_goals first
   |(simp[-List.append_assoc,D3, *]at hA
     first
     |(refine RoundE.aft hA ?_ ?_
       ·(try dsimp only);(try rw[Ae hk hm]);(try simp only[List.map_append,List.map_cons,List.map_nil])
        show norm _ _=upd _ _
        kernel_rfl
       ·first|trivial|omega|((try dsimp only);simp only[Ag];omega)|((try dsimp only);(try simp at*);omega))
     |(refine Done.mk ⟨?_,by kernel_rfl⟩ (by kernel_rfl)
       have hA':=hA
       first|(rw[←hA'];first|rfl|kernel_rfl|(simp only[List.map_append,List.map_cons,List.map_nil];first|rfl|kernel_rfl))|(rw[←B0 hA'];first|rfl|kernel_rfl|(simp only[List.map_append,List.map_cons,List.map_nil];first|rfl|kernel_rfl))|(simp at hA' ⊢;simp[*];done))
    )
 ·rintro⟨o,d⟩ k rfl hi hA
  dsimp only at hi hA ⊢
  repeat'((conv=>whnf);first|(apply aI<;>intro hb<;>first|(exfalso;simp only[Ag]at hb<;>omega)|((try rw[hb]);(try simp only[Aa]at hb);(try subst hb)))|(refine eI ?_ ?_;focus (and_intros<;>first|omega|exact rfl|exact A0 (by rfl)|(simp only[Ag];omega)|(simp;done)))|(intro hfact))
  all_goals(try(conv=>whnf))
  all_goals first
   |(simp[-List.append_assoc,F6, *]at hA
     first
     |(refine RoundE.aft hA ?_ ?_
       ·(try dsimp only);(try rw[Ae hk hm]);(try simp only[List.map_append,List.map_cons,List.map_nil])
        show norm _ _=upd _ _
        kernel_rfl
       ·first|trivial|omega|((try dsimp only);simp only[Ag];omega)|((try dsimp only);(try simp at*);omega))
     |(refine Done.mk ⟨?_,by kernel_rfl⟩ (by kernel_rfl)
       have hA':=hA
       first|(rw[←hA'];first|rfl|kernel_rfl|(simp only[List.map_append,List.map_cons,List.map_nil];first|rfl|kernel_rfl))|(rw[←B0 hA'];first|rfl|kernel_rfl|(simp only[List.map_append,List.map_cons,List.map_nil];first|rfl|kernel_rfl))|(simp at hA' ⊢;simp[*];done))
    )

open Go.Proofs
abbrev Usr.toD (u:Usr):D:=.st [.it (.str u.name),.it (.str u.ten),.it (.str u.salt),.it (.str u.hash),.vec B3 1 ((u.roles.map I.str).map D.it)]
abbrev Rol.toD (x:Rol):D:=.st [.it (.str x.name),.it (.str x.ten),.vec Bt 4 ((x.grants.map Gra.toI).map D.it)]
abbrev Roll.toD (r:Roll):D:=.st [.it (.int .i64 r.rev),.vec Ax 3 ((r.tens.map Ten.toI).map D.it),.vec Ar 5 (r.usrs.map Usr.toD),.vec Aq 3 (r.rols.map Rol.toD)]
structure Roll.Small (r:Roll):Prop where
 hT:r.tens.length≤1000
 hU:r.usrs.length≤1000
 hX:r.rols.length≤1000
 hR:∀u∈r.usrs,u.roles.length≤1000
 hG:∀x∈r.rols,x.grants.length≤1000
def Mc {α:Type} (s:List α) (e:α):List α ⊕ List α:=.inl (s++[e])
def X3 {α:Type} (s:List α):List α:=s
theorem Z3 {α:Type}:∀(l o:List α),Br Mc X3 l o=o++l
 | [],o=>by simp[Br,X3]
 |a::r,o=>by rw[D0];simp[Mc,aft,Z3 r]
theorem Aoz (r:Roll) (hs:r.Small):Fn Tryz.prog Dk [.v r.toI] (Is (.own [] r.toD) [.no]):=by
 refine Pg ?_ (by simp)
 obtain⟨b1,b2,b3,b4,b5⟩:=hs
 repeat'((conv=>whnf);first|(refine eI ?_ ?_;focus (and_intros<;>first|omega|exact rfl|exact size_map (fun _=>rfl)|(simp only[Ag];omega)|(simp;done)))|((with_reducible apply Drawn.by0);(focus kernel_rfl);intro hfact;(try simp only[dRS]at hfact)))
 all_goals(try(conv=>whnf))
 have hm:r.usrs.length≤maxLen:=by simp only[maxLen];omega
 have hAns:Br Mc X3 r.usrs []=r.usrs:=Z3 _ _
 refine each (r.usrs) _ _ _ (fun k s=>[(3,.own [] (.ptr (.st [.it (.int .i64 r.rev),.vec Ax 3 ((r.tens.map Ten.toI).map D.it),.vec Ar 5 (s.map Usr.toD),.vec Aq 3 []]))),(4,.v (.int .i64 k))]) (fun k s=>s.length≤k) [] (by kernel_rfl) (by simp) hAns ?_ ?_<;>clear hAns
 ·rintro k s e he hk hi hA
  dsimp only at hi hA ⊢
  have hbl:=b4 e (List.mem_of_getElem? he)
  repeat'((conv=>whnf);first|(apply aI<;>intro hb<;>first|(exfalso;simp only[Ag]at hb<;>omega)|((try rw[hb]);(try simp only[Aa]at hb)))|(refine eI ?_ ?_;focus (and_intros<;>first|omega|exact rfl|exact size_map (fun _=>rfl)|exact B5 rfl|(simp only[Ag];omega)|(simp;done)))|(intro hfact)|((try dsimp only);first|rw[Au he]|rw[Am he]|rw[An he]))
  all_goals(try(conv=>whnf))
  all_goals first
   |(simp[-List.append_assoc,Mc, *]at hA
     first
     |(refine RoundE.aft hA ?_ ?_
       ·(try dsimp only);(try rw[Ae hk hm]);(try simp only[List.map_append,List.map_cons,List.map_nil])
        show norm _ _=upd _ _
        kernel_rfl
       ·first|trivial|omega|((try dsimp only);simp only[Ag];omega)|((try dsimp only);(try simp at*);omega))
     |(refine Done.mk ⟨?_,by kernel_rfl⟩ (by kernel_rfl)
       have hA':=hA
       first|(rw[←hA'];first|rfl|kernel_rfl|(simp only[List.map_append,List.map_cons,List.map_nil];first|rfl|kernel_rfl))|(rw[←B0 hA'];first|rfl|kernel_rfl|(simp only[List.map_append,List.map_cons,List.map_nil];first|rfl|kernel_rfl))|(simp at hA' ⊢;simp[*];done))
    )
 ·rintro s k rfl hi hA
  dsimp only at hi hA ⊢
  repeat'((conv=>whnf);first|(apply aI<;>intro hb<;>first|(exfalso;simp only[Ag]at hb<;>omega)|((try rw[hb]);(try simp only[Aa]at hb)))|(refine eI ?_ ?_;focus (and_intros<;>first|exact rfl|(simp;done)))|(intro hfact))
  all_goals(try(conv=>whnf))
  obtain rfl:s=r.usrs:=hA
  clear hm
  have hm:r.rols.length≤maxLen:=by simp only[maxLen];omega
  have hAns:Br Mc X3 r.rols []=r.rols:=Z3 _ _
  refine each (r.rols) _ _ _ (fun k s=>[(3,.own [] (.ptr (.st [.it (.int .i64 r.rev),.vec Ax 3 ((r.tens.map Ten.toI).map D.it),.vec Ar 5 (r.usrs.map Usr.toD),.vec Aq 3 (s.map Rol.toD)]))),(6,.v (.int .i64 k))]) (fun k s=>s.length≤k) [] (by kernel_rfl) (by simp) hAns ?_ ?_<;>clear hAns
  ·rintro k s e he hk hi hA
   dsimp only at hi hA ⊢
   have hbl:=b5 e (List.mem_of_getElem? he)
   repeat'((conv=>whnf);first|(apply aI<;>intro hb<;>first|(exfalso;simp only[Ag]at hb<;>omega)|((try rw[hb]);(try simp only[Aa]at hb)))|(refine eI ?_ ?_;focus (and_intros<;>first|omega|exact rfl|exact size_map (fun _=>rfl)|exact B5 rfl|(simp only[Ag];omega)|(simp;done)))|(intro hfact)|((try dsimp only);first|rw[Au he]|rw[Am he]|rw[An he]))
   all_goals(try(conv=>whnf))
   all_goals first
    |(simp[-List.append_assoc,Mc, *]at hA
      first
      |(refine RoundE.aft hA ?_ ?_
        ·(try dsimp only);(try rw[Ae hk hm]);(try simp only[List.map_append,List.map_cons,List.map_nil])
         show norm _ _=upd _ _
         kernel_rfl
        ·first|trivial|omega|((try dsimp only);simp only[Ag];omega)|((try dsimp only);(try simp at*);omega))
      |(refine Done.mk ⟨?_,by kernel_rfl⟩ (by kernel_rfl)
        have hA':=hA
        first|(rw[←hA'];first|rfl|kernel_rfl|(simp only[List.map_append,List.map_cons,List.map_nil];first|rfl|kernel_rfl))|(rw[←B0 hA'];first|rfl|kernel_rfl|(simp only[List.map_append,List.map_cons,List.map_nil];first|rfl|kernel_rfl))|(simp at hA' ⊢;simp[*];done))
     )
  ·rintro s k rfl hi hA
   dsimp only at hi hA ⊢
   repeat'((conv=>whnf);first|(apply aI<;>intro hb<;>first|(exfalso;simp only[Ag]at hb<;>omega)|((try rw[hb]);(try simp only[Aa]at hb)))|(refine eI ?_ ?_;focus (and_intros<;>first|omega|exact rfl|(simp;done)))|(intro hfact))
   all_goals(try(conv=>whnf))
   obtain rfl:s=r.rols:=hA
   exact Done.mk ⟨by kernel_rfl,by kernel_rfl⟩ (by kernel_rfl)
end Go.Ab
