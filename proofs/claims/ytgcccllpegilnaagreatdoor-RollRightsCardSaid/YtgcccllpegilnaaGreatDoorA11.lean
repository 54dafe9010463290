/- Lemmas -/
import Derived.Test.YtgcccllpegilnaaGreatDoorA0
set_option linter.unusedVariables false
set_option linter.unusedSimpArgs false
set_option maxRecDepth 100000
namespace Go.Ab
open Go.Proofs
theorem Rz(s:Sp):Fn Tryz.prog Axf [.v s.Ae] (Is (.v (.bool (decide (Dk s)))) [.no]):=by
 refine Awb ?_ (by simp)
 repeat'((conv=>whnf);first|(apply aI<;>intro hb<;>first|exact absurd hb (by decide)|((try rw[hb]);(try simp only[Ad]at hb)))|(refine eI ?_ ?_;focus (and_intros<;>first|omega|exact rfl|(simp;done)))|(intro Aa))
 all_goals(try(conv=>whnf))
 all_goals(refine Bd.mk ⟨SV.Co ?_,by kernel_rfl⟩ (by kernel_rfl))
 all_goals(simp[Dk,G5]at*;grind)
theorem Hc(s:Sp):Fn Tryz.prog Acd [.v s.Ae] (Is (.v (.bool (decide (Dk s)))) [.no]):=by
 refine Aau ?_ (by simp)
 repeat'((conv=>whnf);first|(apply aI<;>intro hb<;>first|exact absurd hb (by decide)|((try rw[hb]);(try simp only[Ad]at hb)))|(refine eI ?_ ?_;focus (and_intros<;>first|omega|exact rfl|(simp;done)))|(intro Aa))
 all_goals(try(conv=>whnf))
 all_goals(refine Bd.mk ⟨SV.Co ?_,by kernel_rfl⟩ (by kernel_rfl))
 all_goals(simp[Dk,G5]at*;grind)
theorem Ahj(s:Sp)(k:Ai):Fn Tryz.prog Afz [.v s.Ae,.v (.str k)] (Is (.v (.bool (decide (Jc s k)))) [.no,.no]):=by
 refine Afg ?_ (by simp)
 repeat'((conv=>whnf);first|(apply aI<;>intro hb<;>first|exact absurd hb (by decide)|((try rw[hb]);(try simp only[Ad]at hb)))|(refine eI ?_ ?_;focus (and_intros<;>first|omega|exact rfl|(simp;done))))
 all_goals(try(conv=>whnf))
 all_goals(refine Bd.mk ⟨SV.Co ?_,by kernel_rfl⟩ (by kernel_rfl))
 all_goals(simp[Jc,G5]at*;grind)
theorem Aq8(k:Ai):Fn Tryz.prog Aiu [.v (.str k)] (Is (.v (.bool false)) [.no]):=by
 refine Ais ?_ (by simp)
 (conv=>whnf)
 all_goals(try(conv=>whnf))
 exact Bd.mk ⟨SV.Co (by simp),by kernel_rfl⟩ (by kernel_rfl)
def G6(a b:Ai):Int:=if a<b then -1 else if b<a then 1 else 0
theorem T1(a b:Ai):Fn Tryz.prog Afx [.v (.str a),.v (.str b)] (Is (.v (.int .i64 (G6 a b))) [.no,.no]):=by
 refine Afd ?_ (by simp)
 repeat'((conv=>whnf);first|(apply aI<;>intro hb<;>first|exact absurd hb (by decide)|((try rw[hb]);(try simp only[Ad]at hb)))|(refine eI ?_ ?_;focus (and_intros<;>first|(intro _ hh;cases hh;done)|(simp;done)|decide))|(refine Ac.mk ⟨_,Aq8 _,?_⟩;rintro _ _ ⟨rfl,rfl⟩))
 all_goals(try(conv=>whnf))
 all_goals(refine Bd.mk ⟨congrArg (fun n=>SV.v (.int .i64 n)) ?_,by kernel_rfl⟩ (by kernel_rfl))
 all_goals(simp[G6,G5]at* <;>grind)
def Nn(a b:Ai):Int:=if a=b then 0 else if a=[]then 1 else if b=[]then -1 else G6 a b
theorem Wa(a b:Ai):Fn Tryz.prog A2y [.v (.str a),.v (.str b)] (Is (.v (.int .i64 (Nn a b))) [.no,.no]):=by
 refine A0a ?_ (by simp)
 repeat'((conv=>whnf);first|(refine aI (fun hb=>?_) (fun hb=>?_)<;>((try rw[hb]);(try simp only[Ad]at hb);(try subst hb)))|(refine eI ?_ ?_;focus (and_intros<;>first|(intro _ hh;cases hh;done)|(simp;done)|decide))|(refine Ac.mk ⟨_,T1 _ _,?_⟩;rintro _ _ ⟨rfl,rfl⟩))
 all_goals(try(conv=>whnf))
 all_goals(refine Bd.mk ⟨congrArg (fun n=>SV.v (.int .i64 n)) ?_,by kernel_rfl⟩ (by kernel_rfl))
 all_goals(simp[Nn]at* <;>grind)
def Bht(a b:Sp):Prop:=Dk a∧Dk b∧b.f≤a.f∧Nn a.t b.t≤0
instance(a b:Sp):Decidable (Bht a b):=by unfold Bht;infer_instance
set_option maxHeartbeats 1000000

open Go.Proofs
abbrev Cj(l:List Sp):List I:=l.map Sp.Ae
theorem Vh(l:List Sp):∀u∈Cj l,u.size=2:=by
 intro u hu;obtain⟨e,_,rfl⟩:=List.mem_map.1 hu;rfl
theorem Vg{l:List Sp}{k:Nat}{e:Sp}(h:l[k]?=some e):(Cj l)[k]?=some e.Ae:=by simp[h]
theorem Atj(s:Sp):Fn Tryz.prog Arv [.v s.Ae] (Is (.v (.bool (!decide (Dk s)))) [.no]):=by
 refine Aqn ?_ (by simp)
 repeat'((conv=>whnf);first|(refine eI ?_ ?_;focus (and_intros<;>first|omega|exact rfl|(intro _ hh;cases hh;done)|(simp;done)|decide))|(refine Ac.mk ⟨_,Rz _,?_⟩;rintro _ _ ⟨rfl,rfl⟩))
 all_goals(try(conv=>whnf))
 exact Bd.mk ⟨rfl,by kernel_rfl⟩ (by kernel_rfl)
theorem A38(l:List Sp)(hl:l.length≤1000000):Fn Tryz.prog Rc [.v (.list (Cj l))] (Is (.vec 34 2 (Cj l)) [.no]):=by
 refine P6 ?_ (by simp)
 have h1:(([]:List I).length+(Cj l).length)*32≤140737488355328:=by simp;omega
 have h2:([]:List I).length+(Cj l).length≤maxLen:=by simp[maxLen];omega
 have h3:=Vh l;repeat'((conv=>whnf);first|(refine aI (fun hb=>?_) (fun hb=>?_)<;>((try rw[hb]);(try subst hb)))|(refine eI ?_ ?_;focus (and_intros<;>first|omega|exact rfl|(simp;done)))|(intro Aa))
 all_goals(try(conv=>whnf))
 ·refine Bd.mk ⟨congrArg (fun l=>SV.vec 34 2 l) ?_,by kernel_rfl⟩ (by kernel_rfl)
  simp_all
 ·exact Bd.mk ⟨congrArg (fun l=>SV.vec 34 2 l) (List.nil_append _),by kernel_rfl⟩ (by kernel_rfl)
theorem V1{e sz:Nat}{l:List I}{n:Nat}{u:I}(h:l[n]?=some u):(SV.vec e sz l).hit 0 [n]=some (n*sz+0,.item u):=by
 have:u.sub []=some (0,u):=by cases u<;>rfl
 simp[SV.hit,Ajk,h,Acu,this]
def Un(s:Sp):Bool:= !decide (Dk s)
def Uz(p:Sp→Bool):Nat→List Sp→Int
 |_,[]=> -1
 |k,s::r=>if p s=true then k else Uz p (k+1) r
theorem A8t(l:List Sp)(hl:l.length≤1000000):Fn Tryz.prog M7 [.v (.list (Cj l)),.v (.fn 139)] (Is (.v (.int .i64 (Uz Un 0 l))) [.no,.no]):=by
 refine M0 ?_ (by simp)
 have Gb:l.length≤maxLen:=by simp only[maxLen];omega
 repeat'((conv=>whnf);first|(refine eI ?_ ?_;focus (and_intros<;>exact rfl))|(intro Aa))
 all_goals(try(conv=>whnf))
 refine Bq.by (X:=Nat) (fun x=>[(8,.v (.int .i64 x))]) (fun x=>x≤l.length∧Uz Un x (l.drop x)=Uz Un 0 l) (fun x=>l.length - x)
  0 (by kernel_rfl) ⟨Nat.zero_le _,rfl⟩ ?_
 rintro k ⟨h1,h2⟩;by_cases hk:k<l.length
 ·obtain⟨e,he⟩:∃e,l[k]?=some e:=⟨_,List.getElem?_eq_getElem hk⟩;have hg:(Cj l)[Int.toNat (k:Int)]?=some e.Ae:=Vg he;have Bb:¬decide ((k:Int)<((Cj l).length:Int))=false:=by simp[hk]
  have Nq:Int.toNat (k:Int)<(Cj l).length:=by simp[hk]
  have Ud:l[k]=e:=by rw[List.getElem?_eq_getElem hk]at he;simpa using he
  rw[List.drop_eq_getElem_cons hk,Ud]at h2;repeat'((conv=>whnf);first|(apply aI<;>intro hb<;>first|exact absurd hb (by assumption)|((try rw[hb]);(try simp only[Ad]at hb)))|(refine eI ?_ ?_;focus (and_intros<;>first|omega|exact rfl|(intro _ hh;cases hh;done)|(simp;done)|decide))|((try dsimp only);rw[hg])|(refine Ac.mk ⟨_,Atj _,?_⟩;rintro _ _ ⟨rfl,rfl⟩))
  all_goals(try(conv=>whnf))
  ·refine Bd.mk ⟨congrArg (fun n=>SV.v (.int .i64 n)) ?_,by kernel_rfl⟩ (by kernel_rfl)
   rw[←h2,Uz,if_pos (by first|assumption|simp[Un, *])]
  ·refine Round.by (k+1) ?_ ?_ ?_
   ·rw[Ak hk Gb];show norm _ _=Bt _ _
    kernel_rfl
   ·refine⟨hk,?_⟩;rw[←h2,Uz,if_neg (by have:=hb;simp only[Un];simp at this ⊢;exact this)]
   ·show l.length - (k+1)<l.length - k;omega
 ·have Bb:¬decide ((k:Int)<((Cj l).length:Int))=true:=by simp;omega
  repeat'((conv=>whnf);(apply aI<;>intro hb<;>first|exact absurd hb (by assumption)|((try rw[hb]);(try simp only[Ad]at hb))))
  all_goals(try(conv=>whnf))
  refine Bd.mk ⟨congrArg (fun n=>SV.v (.int .i64 n)) ?_,by kernel_rfl⟩ (by kernel_rfl)
  rw[←h2,List.drop_eq_nil_of_le (by omega)]
  rfl
set_option maxHeartbeats 8000000

open Go.Proofs
structure B7 where
 (name:Ai) (mb ks:Int)
 deriving DecidableEq
structure Dg where
 (sp:Sp) (r w:Bool)
 deriving DecidableEq
structure Bc where
 (name Du Bp hash:Ai) (A2:List Ai)
 deriving DecidableEq
structure Bh where
 (name Du:Ai) (A4:List Dg)
 deriving DecidableEq
structure A8 where
 (rev:Int) (Be:List B7) (Ag:List Bc) (Am:List Bh)
 deriving DecidableEq
abbrev B7.Ae(t:B7):I:=.agg [.str t.name,.int .i64 t.mb,.int .i64 t.ks]
abbrev Dg.Ae(g:Dg):I:=.agg [g.sp.Ae,.bool g.r,.bool g.w]
abbrev Bc.Ae(u:Bc):I:=.agg [.str u.name,.str u.Du,.str u.Bp,.str u.hash,.list (strs u.A2)]
abbrev Bh.Ae(x:Bh):I:=.agg [.str x.name,.str x.Du,.list (x.A4.map Dg.Ae)]
abbrev A8.Ae(r:A8):I:=.agg [.int .i64 r.rev,.list (r.Be.map B7.Ae),.list (r.Ag.map Bc.Ae),.list (r.Am.map Bh.Ae)]
def findAt{α:Type}(p:α→Bool):Nat→List α→Int
 |_,[]=> -1
 |k,a::r=>if p a then k else findAt p (k+1) r
abbrev A8.Hn(r:A8)(n:Ai):Int:=findAt (fun t:B7=>decide (t.name=n)) 0 r.Be
abbrev A8.Fa(r:A8)(n:Ai):Int:=findAt (fun t:Bc=>decide (t.name=n)) 0 r.Ag
abbrev A8.Ex(r:A8)(n:Ai):Int:=findAt (fun t:Bh=>decide (t.name=n)) 0 r.Am

open Go.Proofs
theorem G7{α:Type}(p:α→Bool):∀(k:Nat) (l:List α),findAt p k l= -1∨∃j:Nat,findAt p k l=(k+j:Nat)∧j<l.length∧∃a,l[j]?=some a∧p a=true
 |_,[]=>.inl rfl
 |k,a::r=>by
  unfold findAt;by_cases h:p a=true
  ·rw[if_pos h];exact .inr ⟨0,rfl,by simp,a,rfl,h⟩
  ·rw[if_neg h];rcases G7 p (k+1) r with h1|⟨j,h1,h2,a',h3,h4⟩
   ·exact .inl h1
   ·exact .inr ⟨j+1,by rw[h1];congr 1;omega,by simp;omega,a',by simpa using h3,h4⟩
theorem D6(r:A8)(n:Ai)(hl:r.Be.length≤1000000):Fn Tryz.prog Z9 [.v r.Ae,.v (.str n)] (Is (.v (.int .i64 (r.Hn n))) [.no,.no]):=by
 refine Zq ?_ (by simp)
 have hm:r.Be.length≤maxLen:=by simp only[maxLen];omega
 (conv=>whnf)
 all_goals(try(conv=>whnf))
 refine Bq.by (X:=Nat) (fun x=>[(5,.v (.int .i64 x))]) (fun x=>x≤r.Be.length∧findAt (fun t:B7=>decide (t.name=n)) x (r.Be.drop x)=r.Hn n) (fun x=>r.Be.length - x)
  0 (by kernel_rfl) ⟨Nat.zero_le _,rfl⟩ ?_
 rintro k ⟨h1,h2⟩;by_cases hk:k<r.Be.length
 case neg=>
  have Bb:¬decide ((k:Int)<((r.Be.map B7.Ae).length:Int))=true:=by simp;omega
  rw[List.drop_eq_nil_of_le (by omega)]at h2
  repeat'((conv=>whnf);first|(apply aI<;>intro hb<;>first|exact absurd hb (by assumption)|((try rw[hb]);(try simp only[Ad]at hb)))|(refine eI ?_ ?_;focus (and_intros<;>first|omega|exact rfl|(simp;done)))|(intro Aa))
  all_goals(try(conv=>whnf))
  exact Bd.mk ⟨congrArg (fun n=>SV.v (.int .i64 n)) h2,by kernel_rfl⟩ (by kernel_rfl)
 obtain⟨e,he⟩:∃e,r.Be[k]?=some e:=⟨_,List.getElem?_eq_getElem hk⟩;have hg:=Av (f:=B7.Ae) he;have Bb:¬decide ((k:Int)<((r.Be.map B7.Ae).length:Int))=false:=by simp[hk]
 have Nq:Int.toNat (k:Int)<(r.Be.map B7.Ae).length:=by simp[hk]
 have Ud:r.Be[k]=e:=by rw[List.getElem?_eq_getElem hk]at he;simpa using he
 rw[List.drop_eq_getElem_cons hk,Ud,findAt]at h2;by_cases hn:e.name=n
 ·have n1:¬decide (e.name=n)=false:=by simp[hn]
  rw[if_pos (by simpa using hn)]at h2
  repeat'((conv=>whnf);first|(apply aI<;>intro hb<;>first|exact absurd hb (by assumption)|((try rw[hb]);(try simp only[Ad]at hb);(try subst hb)))|(refine eI ?_ ?_;focus (and_intros<;>first|omega|exact rfl|(simp;done)))|(intro Aa)|((try dsimp only);rw[hg]))
  all_goals(try(conv=>whnf))
  exact Bd.mk ⟨congrArg (fun n=>SV.v (.int .i64 n)) h2,by kernel_rfl⟩ (by kernel_rfl)
 ·have n1:¬decide (e.name=n)=true:=by simp[hn]
  rw[if_neg (by simpa using hn)]at h2
  repeat'((conv=>whnf);first|(apply aI<;>intro hb<;>first|exact absurd hb (by assumption)|((try rw[hb]);(try simp only[Ad]at hb)))|(refine eI ?_ ?_;focus (and_intros<;>first|omega|exact rfl|(simp;done)))|(intro Aa)|((try dsimp only);rw[hg]))
  all_goals(try(conv=>whnf))
  refine Round.by (k+1) ?_ ⟨hk,h2⟩ (by omega)
  rw[Ak hk hm];show norm _ _=Bt _ _
  kernel_rfl
theorem Gc(r:A8)(n:Ai)(hl:r.Ag.length≤1000000):Fn Tryz.prog Aeb [.v r.Ae,.v (.str n)] (Is (.v (.int .i64 (r.Fa n))) [.no,.no]):=by
 refine Adn ?_ (by simp)
 have hm:r.Ag.length≤maxLen:=by simp only[maxLen];omega
 (conv=>whnf)
 all_goals(try(conv=>whnf))
 refine Bq.by (X:=Nat) (fun x=>[(5,.v (.int .i64 x))]) (fun x=>x≤r.Ag.length∧findAt (fun t:Bc=>decide (t.name=n)) x (r.Ag.drop x)=r.Fa n) (fun x=>r.Ag.length - x)
  0 (by kernel_rfl) ⟨Nat.zero_le _,rfl⟩ ?_
 rintro k ⟨h1,h2⟩;by_cases hk:k<r.Ag.length
 case neg=>
  have Bb:¬decide ((k:Int)<((r.Ag.map Bc.Ae).length:Int))=true:=by simp;omega
  rw[List.drop_eq_nil_of_le (by omega)]at h2
  repeat'((conv=>whnf);first|(apply aI<;>intro hb<;>first|exact absurd hb (by assumption)|((try rw[hb]);(try simp only[Ad]at hb)))|(refine eI ?_ ?_;focus (and_intros<;>first|omega|exact rfl|(simp;done)))|(intro Aa))
  all_goals(try(conv=>whnf))
  exact Bd.mk ⟨congrArg (fun n=>SV.v (.int .i64 n)) h2,by kernel_rfl⟩ (by kernel_rfl)
 obtain⟨e,he⟩:∃e,r.Ag[k]?=some e:=⟨_,List.getElem?_eq_getElem hk⟩;have hg:=Av (f:=Bc.Ae) he;have Bb:¬decide ((k:Int)<((r.Ag.map Bc.Ae).length:Int))=false:=by simp[hk]
 have Nq:Int.toNat (k:Int)<(r.Ag.map Bc.Ae).length:=by simp[hk]
 have Ud:r.Ag[k]=e:=by rw[List.getElem?_eq_getElem hk]at he;simpa using he
 rw[List.drop_eq_getElem_cons hk,Ud,findAt]at h2;by_cases hn:e.name=n
 ·have n1:¬decide (e.name=n)=false:=by simp[hn]
  rw[if_pos (by simpa using hn)]at h2
  repeat'((conv=>whnf);first|(apply aI<;>intro hb<;>first|exact absurd hb (by assumption)|((try rw[hb]);(try simp only[Ad]at hb);(try subst hb)))|(refine eI ?_ ?_;focus (and_intros<;>first|omega|exact rfl|(simp;done)))|(intro Aa)|((try dsimp only);rw[hg]))
  all_goals(try(conv=>whnf))
  exact Bd.mk ⟨congrArg (fun n=>SV.v (.int .i64 n)) h2,by kernel_rfl⟩ (by kernel_rfl)
 ·have n1:¬decide (e.name=n)=true:=by simp[hn]
  rw[if_neg (by simpa using hn)]at h2
  repeat'((conv=>whnf);first|(apply aI<;>intro hb<;>first|exact absurd hb (by assumption)|((try rw[hb]);(try simp only[Ad]at hb)))|(refine eI ?_ ?_;focus (and_intros<;>first|omega|exact rfl|(simp;done)))|(intro Aa)|((try dsimp only);rw[hg]))
  all_goals(try(conv=>whnf))
  refine Round.by (k+1) ?_ ⟨hk,h2⟩ (by omega)
  rw[Ak hk hm];show norm _ _=Bt _ _
  kernel_rfl
theorem Fs(r:A8)(n:Ai)(hl:r.Am.length≤1000000):Fn Tryz.prog Ad9 [.v r.Ae,.v (.str n)] (Is (.v (.int .i64 (r.Ex n))) [.no,.no]):=by
 refine Adk ?_ (by simp)
 have hm:r.Am.length≤maxLen:=by simp only[maxLen];omega
 (conv=>whnf)
 all_goals(try(conv=>whnf))
 refine Bq.by (X:=Nat) (fun x=>[(5,.v (.int .i64 x))]) (fun x=>x≤r.Am.length∧findAt (fun t:Bh=>decide (t.name=n)) x (r.Am.drop x)=r.Ex n) (fun x=>r.Am.length - x)
  0 (by kernel_rfl) ⟨Nat.zero_le _,rfl⟩ ?_
 rintro k ⟨h1,h2⟩;by_cases hk:k<r.Am.length
 case neg=>
  have Bb:¬decide ((k:Int)<((r.Am.map Bh.Ae).length:Int))=true:=by simp;omega
  rw[List.drop_eq_nil_of_le (by omega)]at h2
  repeat'((conv=>whnf);first|(apply aI<;>intro hb<;>first|exact absurd hb (by assumption)|((try rw[hb]);(try simp only[Ad]at hb)))|(refine eI ?_ ?_;focus (and_intros<;>first|omega|exact rfl|(simp;done)))|(intro Aa))
  all_goals(try(conv=>whnf))
  exact Bd.mk ⟨congrArg (fun n=>SV.v (.int .i64 n)) h2,by kernel_rfl⟩ (by kernel_rfl)
 obtain⟨e,he⟩:∃e,r.Am[k]?=some e:=⟨_,List.getElem?_eq_getElem hk⟩;have hg:=Av (f:=Bh.Ae) he;have Bb:¬decide ((k:Int)<((r.Am.map Bh.Ae).length:Int))=false:=by simp[hk]
 have Nq:Int.toNat (k:Int)<(r.Am.map Bh.Ae).length:=by simp[hk]
 have Ud:r.Am[k]=e:=by rw[List.getElem?_eq_getElem hk]at he;simpa using he
 rw[List.drop_eq_getElem_cons hk,Ud,findAt]at h2;by_cases hn:e.name=n
 ·have n1:¬decide (e.name=n)=false:=by simp[hn]
  rw[if_pos (by simpa using hn)]at h2
  repeat'((conv=>whnf);first|(apply aI<;>intro hb<;>first|exact absurd hb (by assumption)|((try rw[hb]);(try simp only[Ad]at hb);(try subst hb)))|(refine eI ?_ ?_;focus (and_intros<;>first|omega|exact rfl|(simp;done)))|(intro Aa)|((try dsimp only);rw[hg]))
  all_goals(try(conv=>whnf))
  exact Bd.mk ⟨congrArg (fun n=>SV.v (.int .i64 n)) h2,by kernel_rfl⟩ (by kernel_rfl)
 ·have n1:¬decide (e.name=n)=true:=by simp[hn]
  rw[if_neg (by simpa using hn)]at h2
  repeat'((conv=>whnf);first|(apply aI<;>intro hb<;>first|exact absurd hb (by assumption)|((try rw[hb]);(try simp only[Ad]at hb)))|(refine eI ?_ ?_;focus (and_intros<;>first|omega|exact rfl|(simp;done)))|(intro Aa)|((try dsimp only);rw[hg]))
  all_goals(try(conv=>whnf))
  refine Round.by (k+1) ?_ ⟨hk,h2⟩ (by omega)
  rw[Ak hk hm];show norm _ _=Bt _ _
  kernel_rfl

open Go.Proofs
def E8{α:Type}(gt:α→Bool)(x:α):List α→List α
 | []=>[x]
 |a::r=>if gt a then x::a::r else a::E8 gt x r
def Kn{α:Type}(gt:α→Bool)(x:α)(s:List α × Bool)(e:α):(List α × Bool) ⊕ List α:=
 if !s.2&&gt e then .inl (s.1++[x]++[e],true)else .inl (s.1++[e],s.2)
def Py{α:Type}(x:α)(s:List α × Bool):List α:=if s.2 then s.1 else s.1++[x]
theorem U0{α:Type}(gt:α→Bool)(x:α):∀(l:List α) (o:List α),Ef (Kn gt x) (Py x) l (o,true)=o++l∧Ef (Kn gt x) (Py x) l (o,false)=o++E8 gt x l
 | [],o=>by simp[Ef,Py,E8]
 |a::r,o=>by
  obtain⟨h1,_⟩:=U0 gt x r (o++[a]);obtain⟨h3,_⟩:=U0 gt x r (o++[x]++[a]);obtain⟨_,h4⟩:=U0 gt x r (o++[a]);refine⟨?_,?_⟩
  ·rw[Kh];simp only[Kn,Bool.not_true,Bool.false_and,Bool.false_eq_true,if_false,Gk];rw[h1];simp
  ·rw[Kh];by_cases hg:gt a=true
   ·simp only[Kn,Bool.not_false,Bool.true_and,hg,if_true,Gk,E8];rw[h3];simp
   ·simp[Kn,hg,Gk,E8,h4]
theorem Px{α:Type}(gt:α→Bool)(x:α):∀l:List α,(E8 gt x l).length=l.length+1
 | []=>rfl
 |a::r=>by
  unfold E8;split
  ·simp
  ·simp[Px gt x r]
def Aeh{α:Type}(p:α→Bool)(_:Unit)(e:α):Unit ⊕ Bool:=if p e then .inr true else .inl ()
def Axo(_:Unit):Bool:=false
theorem Ar0{α:Type}(p:α→Bool):∀(l:List α) (u:Unit),Ef (Aeh p) Axo l u=l.any p
 | [],_=>rfl
 |a::r,u=>by
  rw[Kh,List.any_cons];by_cases h:p a=true
  ·simp[Aeh,h,Gk]
  ·simp[Aeh,h,Gk,Ar0 p r]
def Aen{α:Type}(p:α→Bool)(s:List α)(e:α):List α ⊕ List α:=if p e then .inl (s++[e])else .inl s
def Ape{α:Type}(s:List α):List α:=s
theorem Ar9{α:Type}(p:α→Bool):∀(l:List α) (o:List α),Ef (Aen p) Ape l o=o++l.filter p
 | [],o=>by simp[Ef,Ape]
 |a::r,o=>by
  rw[Kh];by_cases h:p a=true
  ·simp[Aen,h,Gk,Ar9 p r]
  ·simp[Aen,h,Gk,Ar9 p r]
theorem Vf(n:Int):Fn Tryz.prog G4 [.v (.int .i64 n)] (Is (.v (.bool (decide (0≤n)&&decide (n≤1099511627776)))) [.no]):=by
 refine Afj ?_ (by simp)
 repeat'((conv=>whnf);(apply aI<;>intro hb<;>first|exact absurd hb (by decide)|((try rw[hb]);(try simp only[Ad]at hb))))
 all_goals(try(conv=>whnf))
 all_goals(refine Bd.mk ⟨SV.Co ?_,by kernel_rfl⟩ (by kernel_rfl))
 all_goals(simp at*;try grind)
theorem Be2(l:List Ai)(x:Ai)(hl:l.length≤10000):Fn Tryz.prog Af2 [.v (.list (l.map I.str)),.v (.str x)] (Is (.v (.bool (l.any fun e=>decide (e=x)))) [.no,.no]):=by
 refine Afi ?_ (by simp)
 have hm:l.length≤maxLen:=by simp only[maxLen];omega
 rw[←Ar0 _ _ ()];generalize Ea:Ef _ _ l ()=A
 (conv=>whnf)
 all_goals(try(conv=>whnf))
 refine each (l) _ _ _ (fun k s=>[(5,.v (.int .i64 k))]) (fun k s=>True) () (by kernel_rfl) (by simp) Ea ?_ ?_<;>clear Ea
 ·rintro k ⟨⟩ e he hk hi hA;dsimp only at hi hA ⊢;repeat'((conv=>whnf);first|(apply aI<;>intro hb<;>first|(exfalso;simp only[Az]at hb<;>omega)|((try rw[hb]);(try simp only[Ad]at hb);(try subst hb)))|(refine eI ?_ ?_;focus (and_intros<;>first|omega|exact rfl))|(intro Aa)|((try dsimp only);first|rw[Av he]|rw[An he]|rw[Ap he]))
  all_goals(try(conv=>whnf))
  all_goals first
   |(simp[-List.append_assoc,Aeh, *]at hA
     first
     |(refine Dx.Gk hA ?_ ?_
       ·(try dsimp only);(try rw[Ak hk hm]);(try simp only[List.map_append,List.map_cons,List.map_nil])
        show norm _ _=Bt _ _
        kernel_rfl
       ·first|trivial|omega|((try dsimp only);simp only[Az];omega)|((try dsimp only);(try simp at*);omega))
     |(refine Bd.mk ⟨?_,by kernel_rfl⟩ (by kernel_rfl)
       have C5:=hA;first|(rw[←C5];first|rfl|kernel_rfl|(simp only[List.map_append,List.map_cons,List.map_nil];first|rfl|kernel_rfl))|(rw[←Ff C5];first|rfl|kernel_rfl|(simp only[List.map_append,List.map_cons,List.map_nil];first|rfl|kernel_rfl))|(simp at C5 ⊢;simp[*];done))
    )
 ·rintro⟨⟩ k rfl hi hA;dsimp only at hi hA ⊢;repeat'((conv=>whnf);first|(apply aI<;>intro hb<;>first|(exfalso;simp only[Az]at hb<;>omega)|((try rw[hb]);(try simp only[Ad]at hb)))|(refine eI ?_ ?_;focus (and_intros<;>exact rfl))|(intro Aa))
  all_goals(try(conv=>whnf))
  all_goals first
   |(simp[-List.append_assoc,Axo, *]at hA
     first
     |(refine Dx.Gk hA ?_ ?_
       ·(try dsimp only);(try rw[Ak hk hm]);(try simp only[List.map_append,List.map_cons,List.map_nil])
        show norm _ _=Bt _ _
        kernel_rfl
       ·first|trivial|omega|((try dsimp only);simp only[Az];omega)|((try dsimp only);(try simp at*);omega))
     |(refine Bd.mk ⟨?_,by kernel_rfl⟩ (by kernel_rfl)
       have C5:=hA;first|(rw[←C5];first|rfl|kernel_rfl|(simp only[List.map_append,List.map_cons,List.map_nil];first|rfl|kernel_rfl))|(rw[←Ff C5];first|rfl|kernel_rfl|(simp only[List.map_append,List.map_cons,List.map_nil];first|rfl|kernel_rfl))|(simp at C5 ⊢;simp[*];done))
    )
theorem Akj(l:List Ai)(x:Ai)(hl:l.length≤10000):Fn Tryz.prog Yg [.v (.list (l.map I.str)),.v (.str x)] (Is (.v (.list ((l.filter fun e=> !decide (e=x)).map I.str))) [.no,.no]):=by
 refine Xr ?_ (by simp)
 have hm:l.length≤maxLen:=by simp only[maxLen];omega
 rw[show l.filter (fun e=> !decide (e=x))=Ef (Aen _) Ape l []from(Ar9 _ _ []).symm]
 generalize Ea:Ef _ _ l _=A;repeat'((conv=>whnf);(refine eI ?_ ?_;focus (and_intros<;>omega)))
 all_goals(try(conv=>whnf))
 refine each (l) _ _ _ (fun k s=>[(5,.vec Em 1 (s.map I.str)),(6,.v (.int .i64 k))]) (fun k s=>s.length≤k) [] (by kernel_rfl) (by simp) Ea ?_ ?_<;>clear Ea
 ·rintro k o e he hk hi hA;dsimp only at hi hA ⊢;repeat'((conv=>whnf);first|(apply aI<;>intro hb<;>first|(exfalso;simp only[Az]at hb<;>omega)|((try rw[hb]);(try simp only[Ad]at hb);(try subst hb)))|(refine eI ?_ ?_;focus (and_intros<;>first|omega|exact rfl|exact B8 (by rfl)|(simp only[Az];omega)|(simp;done)))|(intro Aa)|((try dsimp only);first|rw[Av he]|rw[An he]|rw[Ap he]))
  all_goals(try(conv=>whnf))
  all_goals first
   |(simp[-List.append_assoc,Aen, *]at hA
     first
     |(refine Dx.Gk hA ?_ ?_
       ·(try dsimp only);(try rw[Ak hk hm]);(try simp only[List.map_append,List.map_cons,List.map_nil])
        show norm _ _=Bt _ _
        kernel_rfl
       ·first|trivial|omega|((try dsimp only);simp only[Az];omega)|((try dsimp only);(try simp at*);omega))
     |(refine Bd.mk ⟨?_,by kernel_rfl⟩ (by kernel_rfl)
       have C5:=hA;first|(rw[←C5];first|rfl|kernel_rfl|(simp only[List.map_append,List.map_cons,List.map_nil];first|rfl|kernel_rfl))|(rw[←Ff C5];first|rfl|kernel_rfl|(simp only[List.map_append,List.map_cons,List.map_nil];first|rfl|kernel_rfl))|(simp at C5 ⊢;simp[*];done))
    )
 ·rintro o k rfl hi hA;dsimp only at hi hA ⊢;repeat'((conv=>whnf);first|(apply aI<;>intro hb<;>first|(exfalso;simp only[Az]at hb<;>omega)|((try rw[hb]);(try simp only[Ad]at hb)))|(refine eI ?_ ?_;focus (and_intros<;>first|omega|exact rfl|(simp;done)))|(intro Aa))
  all_goals(try(conv=>whnf))
  all_goals first
   |(simp[-List.append_assoc,Ape, *]at hA
     first
     |(refine Dx.Gk hA ?_ ?_
       ·(try dsimp only);(try rw[Ak hk hm]);(try simp only[List.map_append,List.map_cons,List.map_nil])
        show norm _ _=Bt _ _
        kernel_rfl
       ·first|trivial|omega|((try dsimp only);simp only[Az];omega)|((try dsimp only);(try simp at*);omega))
     |(refine Bd.mk ⟨?_,by kernel_rfl⟩ (by kernel_rfl)
       have C5:=hA;first|(rw[←C5];first|rfl|kernel_rfl|(simp only[List.map_append,List.map_cons,List.map_nil];first|rfl|kernel_rfl))|(rw[←Ff C5];first|rfl|kernel_rfl|(simp only[List.map_append,List.map_cons,List.map_nil];first|rfl|kernel_rfl))|(simp at C5 ⊢;simp[*];done))
    )
theorem Api(e x:Dg):(decide (e.sp.f=x.sp.f)&&(decide (e.sp.t=x.sp.t)&&true)&&(decide (e.r=x.r)&&(decide (e.w=x.w)&&true)))=decide (e=x):=by
 obtain⟨⟨a,b⟩,c,d⟩:=e;obtain⟨⟨a',b'⟩,c',d'⟩:=x;simp only[Bool.and_true];by_cases h1:a=a'<;>by_cases h2:b=b'<;>by_cases h3:c=c'<;>by_cases h4:d=d'<;>simp[h1,h2,h3,h4]
theorem Wv(l:List Dg)(x:Dg)(hl:l.length≤10000):Fn Tryz.prog W9 [.v (.list (l.map Dg.Ae)),.v x.Ae] (Is (.v (.bool (l.any fun e=>decide (e=x)))) [.no,.no]):=by
 refine Wq ?_ (by simp)
 have hm:l.length≤maxLen:=by simp only[maxLen];omega
 rw[←Ar0 _ _ ()];generalize Ea:Ef _ _ l ()=A
 (conv=>whnf)
 all_goals(try(conv=>whnf))
 refine each (l) _ _ _ (fun k s=>[(5,.v (.int .i64 k))]) (fun k s=>True) () (by kernel_rfl) (by simp) Ea ?_ ?_<;>clear Ea
 ·rintro k ⟨⟩ e he hk hi hA;dsimp only at hi hA ⊢;repeat'((conv=>whnf);first|(apply aI<;>intro hb<;>first|(exfalso;simp only[Az]at hb<;>omega)|((try rw[hb]);(try simp only[Api,Ad]at hb);(try subst hb)))|(refine eI ?_ ?_;focus (and_intros<;>first|omega|exact rfl))|(intro Aa)|((with_reducible apply A5.B5);(focus kernel_rfl);intro Aa;(try simp only[dRS]at Aa))|((try dsimp only);first|rw[Av he]|rw[An he]|rw[Ap he]))
  all_goals(try(conv=>whnf))
  all_goals first
   |(simp[-List.append_assoc,Aeh, *]at hA
     first
     |(refine Dx.Gk hA ?_ ?_
       ·(try dsimp only);(try rw[Ak hk hm]);(try simp only[List.map_append,List.map_cons,List.map_nil])
        show norm _ _=Bt _ _
        kernel_rfl
       ·first|trivial|omega|((try dsimp only);simp only[Az];omega)|((try dsimp only);(try simp at*);omega))
     |(refine Bd.mk ⟨?_,by kernel_rfl⟩ (by kernel_rfl)
       have C5:=hA;first|(rw[←C5];first|rfl|kernel_rfl|(simp only[List.map_append,List.map_cons,List.map_nil];first|rfl|kernel_rfl))|(rw[←Ff C5];first|rfl|kernel_rfl|(simp only[List.map_append,List.map_cons,List.map_nil];first|rfl|kernel_rfl))|(simp at C5 ⊢;simp[*];done))
    )
 ·rintro⟨⟩ k rfl hi hA;dsimp only at hi hA ⊢;repeat'((conv=>whnf);first|(apply aI<;>intro hb<;>first|(exfalso;simp only[Az]at hb<;>omega)|((try rw[hb]);(try simp only[Api,Ad]at hb)))|(refine eI ?_ ?_;focus (and_intros<;>exact rfl))|(intro Aa))
  all_goals(try(conv=>whnf))
  all_goals first
   |(simp[-List.append_assoc,Axo, *]at hA
     first
     |(refine Dx.Gk hA ?_ ?_
       ·(try dsimp only);(try rw[Ak hk hm]);(try simp only[List.map_append,List.map_cons,List.map_nil])
        show norm _ _=Bt _ _
        kernel_rfl
       ·first|trivial|omega|((try dsimp only);simp only[Az];omega)|((try dsimp only);(try simp at*);omega))
     |(refine Bd.mk ⟨?_,by kernel_rfl⟩ (by kernel_rfl)
       have C5:=hA;first|(rw[←C5];first|rfl|kernel_rfl|(simp only[List.map_append,List.map_cons,List.map_nil];first|rfl|kernel_rfl))|(rw[←Ff C5];first|rfl|kernel_rfl|(simp only[List.map_append,List.map_cons,List.map_nil];first|rfl|kernel_rfl))|(simp at C5 ⊢;simp[*];done))
    )
theorem A8y(l:List Ai)(x:Ai)(hl:l.length≤10000):Fn Tryz.prog Acg [.v (.list (l.map I.str)),.v (I.str x)] (Is (.v (.list ((E8 (fun e:Ai=>decide (x<e)) x l).map I.str))) [.no,.no]):=by
 refine Aax ?_ (by simp)
 have hm:l.length≤maxLen:=by simp only[maxLen];omega
 rw[show E8 (fun e:Ai=>decide (x<e)) x l=Ef (Kn _ x) (Py x) l ([],false)from(U0 _ x l []).2.symm]
 generalize Ea:Ef _ _ l _=A;repeat'((conv=>whnf);(refine eI ?_ ?_;focus (and_intros<;>omega)))
 all_goals(try(conv=>whnf))
 refine each (l) _ _ _ (fun k s=>[(5,.vec Em 1 (s.1.map I.str)),(6,.v (.bool s.2)),(7,.v (.int .i64 k))]) (fun k s=>s.1.length≤2*k) ([],false) (by kernel_rfl) (by simp) Ea ?_ ?_<;>clear Ea
 ·rintro k ⟨o,d⟩ e he hk hi hA;dsimp only at hi hA ⊢;repeat'((conv=>whnf);first|(apply aI<;>intro hb<;>first|exact absurd hb (by decide)|(exfalso;simp only[Az]at hb<;>omega)|((try rw[hb]);(try simp only[Ad]at hb);(try subst hb)))|(refine eI ?_ ?_;focus (and_intros<;>first|omega|exact rfl|exact B8 (by rfl)|(simp only[Az];omega)|(simp;done)))|(intro Aa)|((try dsimp only);first|rw[Av he]|rw[An he]|rw[Ap he]))
  all_goals(try(conv=>whnf))
  all_goals first
   |(simp[-List.append_assoc,Kn, *]at hA
     first
     |(refine Dx.Gk hA ?_ ?_
       ·(try dsimp only);(try rw[Ak hk hm]);(try simp only[List.map_append,List.map_cons,List.map_nil])
        show norm _ _=Bt _ _
        kernel_rfl
       ·first|trivial|omega|((try dsimp only);simp only[Az];omega)|((try dsimp only);(try simp at*);omega))
     |(refine Bd.mk ⟨?_,by kernel_rfl⟩ (by kernel_rfl)
       have C5:=hA;first|(rw[←C5];first|rfl|kernel_rfl|(simp only[List.map_append,List.map_cons,List.map_nil];first|rfl|kernel_rfl))|(rw[←Ff C5];first|rfl|kernel_rfl|(simp only[List.map_append,List.map_cons,List.map_nil];first|rfl|kernel_rfl))|(simp at C5 ⊢;simp[*];done))
    )
 ·rintro⟨o,d⟩ k rfl hi hA;dsimp only at hi hA ⊢;repeat'((conv=>whnf);first|(apply aI<;>intro hb<;>first|(exfalso;simp only[Az]at hb<;>omega)|((try rw[hb]);(try simp only[Ad]at hb);(try subst hb)))|(refine eI ?_ ?_;focus (and_intros<;>first|omega|exact rfl|exact B8 (by rfl)|(simp only[Az];omega)|(simp;done)))|(intro Aa))
  all_goals(try(conv=>whnf))
  all_goals first
   |(simp[-List.append_assoc,Py, *]at hA
     first
     |(refine Dx.Gk hA ?_ ?_
       ·(try dsimp only);(try rw[Ak hk hm]);(try simp only[List.map_append,List.map_cons,List.map_nil])
        show norm _ _=Bt _ _
        kernel_rfl
       ·first|trivial|omega|((try dsimp only);simp only[Az];omega)|((try dsimp only);(try simp at*);omega))
     |(refine Bd.mk ⟨?_,by kernel_rfl⟩ (by kernel_rfl)
       have C5:=hA;first|(rw[←C5];first|rfl|kernel_rfl|(simp only[List.map_append,List.map_cons,List.map_nil];first|rfl|kernel_rfl))|(rw[←Ff C5];first|rfl|kernel_rfl|(simp only[List.map_append,List.map_cons,List.map_nil];first|rfl|kernel_rfl))|(simp at C5 ⊢;simp[*];done))
    )
theorem Atc(l:List B7)(x:B7)(hl:l.length≤10000):Fn Tryz.prog We [.v (.list (l.map B7.Ae)),.v (B7.Ae x)] (Is (.v (.list ((E8 (fun e:B7=>decide (x.name<e.name)) x l).map B7.Ae))) [.no,.no]):=by
 refine V7 ?_ (by simp)
 have hm:l.length≤maxLen:=by simp only[maxLen];omega
 rw[show E8 (fun e:B7=>decide (x.name<e.name)) x l=Ef (Kn _ x) (Py x) l ([],false)from(U0 _ x l []).2.symm]
 generalize Ea:Ef _ _ l _=A;repeat'((conv=>whnf);(refine eI ?_ ?_;focus (and_intros<;>omega)))
 all_goals(try(conv=>whnf))
 refine each (l) _ _ _ (fun k s=>[(5,.vec Cc 3 (s.1.map B7.Ae)),(6,.v (.bool s.2)),(7,.v (.int .i64 k))]) (fun k s=>s.1.length≤2*k) ([],false) (by kernel_rfl) (by simp) Ea ?_ ?_<;>clear Ea
 ·rintro k ⟨o,d⟩ e he hk hi hA;dsimp only at hi hA ⊢;repeat'((conv=>whnf);first|(apply aI<;>intro hb<;>first|exact absurd hb (by decide)|(exfalso;simp only[Az]at hb<;>omega)|((try rw[hb]);(try simp only[Ad]at hb);(try subst hb)))|(refine eI ?_ ?_;focus (and_intros<;>first|omega|exact rfl|exact B8 (by rfl)|(simp only[Az];omega)|(simp;done)))|(intro Aa)|((with_reducible apply A5.B5);(focus kernel_rfl);intro Aa;(try simp only[dRS]at Aa))|((try dsimp only);first|rw[Av he]|rw[An he]|rw[Ap he]))
  all_goals(try(conv=>whnf))
  all_goals first
   |(simp[-List.append_assoc,Kn, *]at hA
     first
     |(refine Dx.Gk hA ?_ ?_
       ·(try dsimp only);(try rw[Ak hk hm]);(try simp only[List.map_append,List.map_cons,List.map_nil])
        show norm _ _=Bt _ _
        kernel_rfl
       ·first|trivial|omega|((try dsimp only);simp only[Az];omega)|((try dsimp only);(try simp at*);omega))
     |(refine Bd.mk ⟨?_,by kernel_rfl⟩ (by kernel_rfl)
       have C5:=hA;first|(rw[←C5];first|rfl|kernel_rfl|(simp only[List.map_append,List.map_cons,List.map_nil];first|rfl|kernel_rfl))|(rw[←Ff C5];first|rfl|kernel_rfl|(simp only[List.map_append,List.map_cons,List.map_nil];first|rfl|kernel_rfl))|(simp at C5 ⊢;simp[*];done))
    )
 ·rintro⟨o,d⟩ k rfl hi hA;dsimp only at hi hA ⊢;repeat'((conv=>whnf);first|(apply aI<;>intro hb<;>first|(exfalso;simp only[Az]at hb<;>omega)|((try rw[hb]);(try simp only[Ad]at hb);(try subst hb)))|(refine eI ?_ ?_;focus (and_intros<;>first|omega|exact rfl|exact B8 (by rfl)|(simp only[Az];omega)|(simp;done)))|(intro Aa))
  all_goals(try(conv=>whnf))
  all_goals first
   |(simp[-List.append_assoc,Py, *]at hA
     first
     |(refine Dx.Gk hA ?_ ?_
       ·(try dsimp only);(try rw[Ak hk hm]);(try simp only[List.map_append,List.map_cons,List.map_nil])
        show norm _ _=Bt _ _
        kernel_rfl
       ·first|trivial|omega|((try dsimp only);simp only[Az];omega)|((try dsimp only);(try simp at*);omega))
     |(refine Bd.mk ⟨?_,by kernel_rfl⟩ (by kernel_rfl)
       have C5:=hA;first|(rw[←C5];first|rfl|kernel_rfl|(simp only[List.map_append,List.map_cons,List.map_nil];first|rfl|kernel_rfl))|(rw[←Ff C5];first|rfl|kernel_rfl|(simp only[List.map_append,List.map_cons,List.map_nil];first|rfl|kernel_rfl))|(simp at C5 ⊢;simp[*];done))
    )
theorem A1r(l:List Bc)(x:Bc)(hl:l.length≤10000):Fn Tryz.prog Yf [.v (.list (l.map Bc.Ae)),.v (Bc.Ae x)] (Is (.v (.list ((E8 (fun e:Bc=>decide (x.name<e.name)) x l).map Bc.Ae))) [.no,.no]):=by
 refine Xq ?_ (by simp)
 have hm:l.length≤maxLen:=by simp only[maxLen];omega
 rw[show E8 (fun e:Bc=>decide (x.name<e.name)) x l=Ef (Kn _ x) (Py x) l ([],false)from(U0 _ x l []).2.symm]
 generalize Ea:Ef _ _ l _=A;repeat'((conv=>whnf);(refine eI ?_ ?_;focus (and_intros<;>omega)))
 all_goals(try(conv=>whnf))
 refine each (l) _ _ _ (fun k s=>[(5,.vec B3 5 (s.1.map Bc.Ae)),(6,.v (.bool s.2)),(7,.v (.int .i64 k))]) (fun k s=>s.1.length≤2*k) ([],false) (by kernel_rfl) (by simp) Ea ?_ ?_<;>clear Ea
 ·rintro k ⟨o,d⟩ e he hk hi hA;dsimp only at hi hA ⊢;repeat'((conv=>whnf);first|(apply aI<;>intro hb<;>first|exact absurd hb (by decide)|(exfalso;simp only[Az]at hb<;>omega)|((try rw[hb]);(try simp only[Ad]at hb);(try subst hb)))|(refine eI ?_ ?_;focus (and_intros<;>first|omega|exact rfl|exact B8 (by rfl)|(simp only[Az];omega)|(simp;done)))|(intro Aa)|((with_reducible apply A5.B5);(focus kernel_rfl);intro Aa;(try simp only[dRS]at Aa))|((try dsimp only);first|rw[Av he]|rw[An he]|rw[Ap he]))
  all_goals(try(conv=>whnf))
  all_goals first
   |(simp[-List.append_assoc,Kn, *]at hA
     first
     |(refine Dx.Gk hA ?_ ?_
       ·(try dsimp only);(try rw[Ak hk hm]);(try simp only[List.map_append,List.map_cons,List.map_nil])
        show norm _ _=Bt _ _
        kernel_rfl
       ·first|trivial|omega|((try dsimp only);simp only[Az];omega)|((try dsimp only);(try simp at*);omega))
     |(refine Bd.mk ⟨?_,by kernel_rfl⟩ (by kernel_rfl)
       have C5:=hA;first|(rw[←C5];first|rfl|kernel_rfl|(simp only[List.map_append,List.map_cons,List.map_nil];first|rfl|kernel_rfl))|(rw[←Ff C5];first|rfl|kernel_rfl|(simp only[List.map_append,List.map_cons,List.map_nil];first|rfl|kernel_rfl))|(simp at C5 ⊢;simp[*];done))
    )
 ·rintro⟨o,d⟩ k rfl hi hA;dsimp only at hi hA ⊢;repeat'((conv=>whnf);first|(apply aI<;>intro hb<;>first|(exfalso;simp only[Az]at hb<;>omega)|((try rw[hb]);(try simp only[Ad]at hb);(try subst hb)))|(refine eI ?_ ?_;focus (and_intros<;>first|omega|exact rfl|exact B8 (by rfl)|(simp only[Az];omega)|(simp;done)))|(intro Aa))
  all_goals(try(conv=>whnf))
  all_goals first
   |(simp[-List.append_assoc,Py, *]at hA
     first
     |(refine Dx.Gk hA ?_ ?_
       ·(try dsimp only);(try rw[Ak hk hm]);(try simp only[List.map_append,List.map_cons,List.map_nil])
        show norm _ _=Bt _ _
        kernel_rfl
       ·first|trivial|omega|((try dsimp only);simp only[Az];omega)|((try dsimp only);(try simp at*);omega))
     |(refine Bd.mk ⟨?_,by kernel_rfl⟩ (by kernel_rfl)
       have C5:=hA;first|(rw[←C5];first|rfl|kernel_rfl|(simp only[List.map_append,List.map_cons,List.map_nil];first|rfl|kernel_rfl))|(rw[←Ff C5];first|rfl|kernel_rfl|(simp only[List.map_append,List.map_cons,List.map_nil];first|rfl|kernel_rfl))|(simp at C5 ⊢;simp[*];done))
    )
theorem A1q(l:List Bh)(x:Bh)(hl:l.length≤10000):Fn Tryz.prog Ye [.v (.list (l.map Bh.Ae)),.v (Bh.Ae x)] (Is (.v (.list ((E8 (fun e:Bh=>decide (x.name<e.name)) x l).map Bh.Ae))) [.no,.no]):=by
 refine Xp ?_ (by simp)
 have hm:l.length≤maxLen:=by simp only[maxLen];omega
 rw[show E8 (fun e:Bh=>decide (x.name<e.name)) x l=Ef (Kn _ x) (Py x) l ([],false)from(U0 _ x l []).2.symm]
 generalize Ea:Ef _ _ l _=A;repeat'((conv=>whnf);(refine eI ?_ ?_;focus (and_intros<;>omega)))
 all_goals(try(conv=>whnf))
 refine each (l) _ _ _ (fun k s=>[(5,.vec B2 3 (s.1.map Bh.Ae)),(6,.v (.bool s.2)),(7,.v (.int .i64 k))]) (fun k s=>s.1.length≤2*k) ([],false) (by kernel_rfl) (by simp) Ea ?_ ?_<;>clear Ea
 ·rintro k ⟨o,d⟩ e he hk hi hA;dsimp only at hi hA ⊢;repeat'((conv=>whnf);first|(apply aI<;>intro hb<;>first|exact absurd hb (by decide)|(exfalso;simp only[Az]at hb<;>omega)|((try rw[hb]);(try simp only[Ad]at hb);(try subst hb)))|(refine eI ?_ ?_;focus (and_intros<;>first|omega|exact rfl|exact B8 (by rfl)|(simp only[Az];omega)|(simp;done)))|(intro Aa)|((with_reducible apply A5.B5);(focus kernel_rfl);intro Aa;(try simp only[dRS]at Aa))|((try dsimp only);first|rw[Av he]|rw[An he]|rw[Ap he]))
  all_goals(try(conv=>whnf))
  all_goals first
   |(simp[-List.append_assoc,Kn, *]at hA
     first
     |(refine Dx.Gk hA ?_ ?_
       ·(try dsimp only);(try rw[Ak hk hm]);(try simp only[List.map_append,List.map_cons,List.map_nil])
        show norm _ _=Bt _ _
        kernel_rfl
       ·first|trivial|omega|((try dsimp only);simp only[Az];omega)|((try dsimp only);(try simp at*);omega))
     |(refine Bd.mk ⟨?_,by kernel_rfl⟩ (by kernel_rfl)
       have C5:=hA;first|(rw[←C5];first|rfl|kernel_rfl|(simp only[List.map_append,List.map_cons,List.map_nil];first|rfl|kernel_rfl))|(rw[←Ff C5];first|rfl|kernel_rfl|(simp only[List.map_append,List.map_cons,List.map_nil];first|rfl|kernel_rfl))|(simp at C5 ⊢;simp[*];done))
    )
 ·rintro⟨o,d⟩ k rfl hi hA;dsimp only at hi hA ⊢;repeat'((conv=>whnf);first|(apply aI<;>intro hb<;>first|(exfalso;simp only[Az]at hb<;>omega)|((try rw[hb]);(try simp only[Ad]at hb);(try subst hb)))|(refine eI ?_ ?_;focus (and_intros<;>first|omega|exact rfl|exact B8 (by rfl)|(simp only[Az];omega)|(simp;done)))|(intro Aa))
  all_goals(try(conv=>whnf))
  all_goals first
   |(simp[-List.append_assoc,Py, *]at hA
     first
     |(refine Dx.Gk hA ?_ ?_
       ·(try dsimp only);(try rw[Ak hk hm]);(try simp only[List.map_append,List.map_cons,List.map_nil])
        show norm _ _=Bt _ _
        kernel_rfl
       ·first|trivial|omega|((try dsimp only);simp only[Az];omega)|((try dsimp only);(try simp at*);omega))
     |(refine Bd.mk ⟨?_,by kernel_rfl⟩ (by kernel_rfl)
       have C5:=hA;first|(rw[←C5];first|rfl|kernel_rfl|(simp only[List.map_append,List.map_cons,List.map_nil];first|rfl|kernel_rfl))|(rw[←Ff C5];first|rfl|kernel_rfl|(simp only[List.map_append,List.map_cons,List.map_nil];first|rfl|kernel_rfl))|(simp at C5 ⊢;simp[*];done))
    )

open Go.Proofs
abbrev Bc.A6(u:Bc):D:=.st [.it (.str u.name),.it (.str u.Du),.it (.str u.Bp),.it (.str u.hash),.vec Em 1 ((u.A2.map I.str).map D.it)]
abbrev Bh.A6(x:Bh):D:=.st [.it (.str x.name),.it (.str x.Du),.vec Ep 4 ((x.A4.map Dg.Ae).map D.it)]
abbrev A8.A6(r:A8):D:=.st [.it (.int .i64 r.rev),.vec Cc 3 ((r.Be.map B7.Ae).map D.it),.vec B3 5 (r.Ag.map Bc.A6),.vec B2 3 (r.Am.map Bh.A6)]
structure A8.Small(r:A8):Prop where
 hT:r.Be.length≤1000
 hU:r.Ag.length≤1000
 hX:r.Am.length≤1000
 hR:∀u∈r.Ag,u.A2.length≤1000
 hG:∀x∈r.Am,x.A4.length≤1000
def X7{α:Type}(s:List α)(e:α):List α ⊕ List α:=.inl (s++[e])
def Aoz{α:Type}(s:List α):List α:=s
theorem Ar2{α:Type}:∀(l o:List α),Ef X7 Aoz l o=o++l
 | [],o=>by simp[Ef,Aoz]
 |a::r,o=>by rw[Kh];simp[X7,Gk,Ar2 r]
theorem Bcb(r:A8)(hs:r.Small):Fn Tryz.prog Jq [.v r.Ae] (Is (.own [] r.A6) [.no]):=by
 refine Aa1 ?_ (by simp)
 obtain⟨b1,b2,b3,b4,b5⟩:=hs;repeat'((conv=>whnf);first|(refine eI ?_ ?_;focus (and_intros<;>first|omega|exact rfl|exact size_map (fun _=>rfl)|(simp only[Az];omega)|(simp;done)))|((with_reducible apply A5.B5);(focus kernel_rfl);intro Aa;(try simp only[dRS]at Aa)))
 all_goals(try(conv=>whnf))
 have hm:r.Ag.length≤maxLen:=by simp only[maxLen];omega
 have Ea:Ef X7 Aoz r.Ag []=r.Ag:=Ar2 _ _;refine each (r.Ag) _ _ _ (fun k s=>[(3,.own [] (.ptr (.st [.it (.int .i64 r.rev),.vec Cc 3 ((r.Be.map B7.Ae).map D.it),.vec B3 5 (s.map Bc.A6),.vec B2 3 []]))),(4,.v (.int .i64 k))]) (fun k s=>s.length≤k) [] (by kernel_rfl) (by simp) Ea ?_ ?_<;>clear Ea
 ·rintro k s e he hk hi hA;dsimp only at hi hA ⊢;have hbl:=b4 e (List.mem_of_getElem? he);repeat'((conv=>whnf);first|(apply aI<;>intro hb<;>first|(exfalso;simp only[Az]at hb<;>omega)|((try rw[hb]);(try simp only[Ad]at hb)))|(refine eI ?_ ?_;focus (and_intros<;>first|omega|exact rfl|exact size_map (fun _=>rfl)|exact F5 rfl|(simp only[Az];omega)|(simp;done)))|(intro Aa)|((try dsimp only);first|rw[Av he]|rw[An he]|rw[Ap he]))
  all_goals(try(conv=>whnf))
  all_goals first
   |(simp[-List.append_assoc,X7, *]at hA
     first
     |(refine Dx.Gk hA ?_ ?_
       ·(try dsimp only);(try rw[Ak hk hm]);(try simp only[List.map_append,List.map_cons,List.map_nil])
        show norm _ _=Bt _ _
        kernel_rfl
       ·first|trivial|omega|((try dsimp only);simp only[Az];omega)|((try dsimp only);(try simp at*);omega))
     |(refine Bd.mk ⟨?_,by kernel_rfl⟩ (by kernel_rfl)
       have C5:=hA;first|(rw[←C5];first|rfl|kernel_rfl|(simp only[List.map_append,List.map_cons,List.map_nil];first|rfl|kernel_rfl))|(rw[←Ff C5];first|rfl|kernel_rfl|(simp only[List.map_append,List.map_cons,List.map_nil];first|rfl|kernel_rfl))|(simp at C5 ⊢;simp[*];done))
    )
 ·rintro s k rfl hi hA;dsimp only at hi hA ⊢;repeat'((conv=>whnf);first|(apply aI<;>intro hb<;>first|(exfalso;simp only[Az]at hb<;>omega)|((try rw[hb]);(try simp only[Ad]at hb)))|(refine eI ?_ ?_;focus (and_intros<;>first|exact rfl|(simp;done)))|(intro Aa))
  all_goals(try(conv=>whnf))
  obtain rfl:s=r.Ag:=hA;clear hm;have hm:r.Am.length≤maxLen:=by simp only[maxLen];omega
  have Ea:Ef X7 Aoz r.Am []=r.Am:=Ar2 _ _;refine each (r.Am) _ _ _ (fun k s=>[(3,.own [] (.ptr (.st [.it (.int .i64 r.rev),.vec Cc 3 ((r.Be.map B7.Ae).map D.it),.vec B3 5 (r.Ag.map Bc.A6),.vec B2 3 (s.map Bh.A6)]))),(6,.v (.int .i64 k))]) (fun k s=>s.length≤k) [] (by kernel_rfl) (by simp) Ea ?_ ?_<;>clear Ea
  ·rintro k s e he hk hi hA;dsimp only at hi hA ⊢;have hbl:=b5 e (List.mem_of_getElem? he);repeat'((conv=>whnf);first|(apply aI<;>intro hb<;>first|(exfalso;simp only[Az]at hb<;>omega)|((try rw[hb]);(try simp only[Ad]at hb)))|(refine eI ?_ ?_;focus (and_intros<;>first|omega|exact rfl|exact size_map (fun _=>rfl)|exact F5 rfl|(simp only[Az];omega)|(simp;done)))|(intro Aa)|((try dsimp only);first|rw[Av he]|rw[An he]|rw[Ap he]))
   all_goals(try(conv=>whnf))
   all_goals first
    |(simp[-List.append_assoc,X7, *]at hA
      first
      |(refine Dx.Gk hA ?_ ?_
        ·(try dsimp only);(try rw[Ak hk hm]);(try simp only[List.map_append,List.map_cons,List.map_nil])
         show norm _ _=Bt _ _
         kernel_rfl
        ·first|trivial|omega|((try dsimp only);simp only[Az];omega)|((try dsimp only);(try simp at*);omega))
      |(refine Bd.mk ⟨?_,by kernel_rfl⟩ (by kernel_rfl)
        have C5:=hA;first|(rw[←C5];first|rfl|kernel_rfl|(simp only[List.map_append,List.map_cons,List.map_nil];first|rfl|kernel_rfl))|(rw[←Ff C5];first|rfl|kernel_rfl|(simp only[List.map_append,List.map_cons,List.map_nil];first|rfl|kernel_rfl))|(simp at C5 ⊢;simp[*];done))
     )
  ·rintro s k rfl hi hA;dsimp only at hi hA ⊢;repeat'((conv=>whnf);first|(apply aI<;>intro hb<;>first|(exfalso;simp only[Az]at hb<;>omega)|((try rw[hb]);(try simp only[Ad]at hb)))|(refine eI ?_ ?_;focus (and_intros<;>first|omega|exact rfl|(simp;done)))|(intro Aa))
   all_goals(try(conv=>whnf))
   obtain rfl:s=r.Am:=hA
   (apply dK<;>kernel_rfl)
end Go.Ab
