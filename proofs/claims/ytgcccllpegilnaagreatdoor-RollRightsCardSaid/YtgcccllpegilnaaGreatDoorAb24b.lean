/- Lemmas -/
import Derived.Test.YtgcccllpegilnaaGreatDoorNZ
import Derived.Test.YtgcccllpegilnaaGreatDoorN25
import Derived.Deep.Slices
import Derived.ChangeSame
import Derived.ChangeArms
import Derived.ProofKit
import Derived.OpenShut
import Derived.SizedLaws
set_option linter.unusedVariables false
set_option linter.unusedSimpArgs false
set_option maxRecDepth 100000
set_option maxHeartbeats 40000000
namespace Go.Ab
open Go.Proofs
theorem Bcj(Bp word:Ai)(h1:Bp.length≤64)(h2:word.length≤64):Fn Tryz.prog A55 [.v (.str Bp),.v (.str word)] (Is (.Dv [.i (A5b Bp word).Ae,.i (.bool true)]) [.no,.no]):=by
 refine A3b ?_ (by simp)
 have n1:=Ja Bp;have n2:=Ja word;rw[show decide (Bp.length≤64)=true by simp[h1]]at n1
 rw[show decide (word.length≤64)=true by simp[h2]]at n2
 have hh:=X1 Bp word (by omega) (by omega)
 repeat'((conv=>whnf);first|(apply aI<;>intro hb<;>first|exact absurd hb (by decide)|((try rw[hb]);(try simp only[Ad]at hb)))|(refine eI ?_ ?_;focus (and_intros<;>first|omega|exact rfl|(intro _ hh;cases hh;done)|exact B8 (by rfl)|(simp;done)|decide))|(refine Ac.mk ⟨_,n1,?_⟩;rintro _ _ ⟨rfl,rfl⟩)|(refine Ac.mk ⟨_,n2,?_⟩;rintro _ _ ⟨rfl,rfl⟩)|(refine Ac.mk ⟨_,hh,?_⟩;rintro _ _ ⟨rfl,rfl⟩))
 all_goals(try(conv=>whnf))
 (apply dK<;>kernel_rfl)
theorem A36(r:A8)(hf:r.Small)(n w:Ai)(u:Bc)(hu:Je r.Ag n=(u,true))(hw:w.length≤100000)(hs:u.Bp.length≤100000):Fn Tryz.prog Axa [.v r.Ae,.v (.str n),.v (.str w)] (Is (.v (.bool (decide (u.hash=Hj u.Bp w)))) [.no,.no,.no]):=by
 refine Av7 ?_ (by simp)
 have g:=Aih r hf n;rw[hu]at g;have hh:=X1 u.Bp w hs hw;repeat'((conv=>whnf);first|(apply aI<;>intro hb<;>first|exact absurd hb (by decide)|with_reducible exact absurd hb.symm Bool.false_ne_true|((try rw[hb]);(try simp only[Ad]at hb)))|(refine eI ?_ ?_;focus (and_intros<;>first|omega|exact rfl|(intro _ hh;cases hh;done)|(simp;done)|decide))|((with_reducible apply A5.B5);(focus kernel_rfl);intro Aa;(try simp only[dRS]at Aa))|(refine Ac.mk ⟨_,g,?_⟩;rintro _ _ ⟨rfl,rfl⟩)|(refine Aj.mk ⟨_,_,hh,?_⟩))
 all_goals(try(conv=>whnf))
 all_goals refine Bd.mk ⟨SV.Co ?_,by kernel_rfl⟩ (by kernel_rfl)
 all_goals simp[*]
def Sa(k:Int)(n o w:Ai):Ds:=⟨0,0,[],k,n,o,w,[],0,0,⟨⟨[],[]⟩,false,false⟩,0,[],[],[]⟩
theorem A1s:Fn Tryz.prog Ab7 [] (Is (.v (.bool true)) []):=by
 refine Aap ?_ (by simp)
 have n1:=Bcj [115] [119] (by simp) (by simp)
 unfold A5b at n1;generalize Hj [115] [119]=h0 at n1;obtain⟨h1,hh1⟩:∃h,h=Hj [] [112]:=⟨_,rfl⟩;have e1:DoP ⟨1,[],[⟨[114,111,111,116],[],[115],h0,[]⟩],[]⟩ (Sa 4 [116] [] [])=(⟨2,[⟨[116],0,0⟩],[⟨[114,111,111,116],[],[115],h0,[]⟩],[]⟩,0):=by kernel_rfl
 have e2:DoP ⟨2,[⟨[116],0,0⟩],[⟨[114,111,111,116],[],[115],h0,[]⟩],[]⟩ (Sa 4 [117] [] [])=(⟨3,[⟨[116],0,0⟩,⟨[117],0,0⟩],[⟨[114,111,111,116],[],[115],h0,[]⟩],[]⟩,0):=by kernel_rfl
 have e3:DoP ⟨3,[⟨[116],0,0⟩,⟨[117],0,0⟩],[⟨[114,111,111,116],[],[115],h0,[]⟩],[]⟩ (Sa 6 [120] [116] [112])=(⟨4,[⟨[116],0,0⟩,⟨[117],0,0⟩],[⟨[114,111,111,116],[],[115],h0,[]⟩,⟨[120],[116],[],Hj [] [112],[]⟩],[]⟩,0):=by kernel_rfl
 rw[←hh1]at e3;have e4:DoP ⟨4,[⟨[116],0,0⟩,⟨[117],0,0⟩],[⟨[114,111,111,116],[],[115],h0,[]⟩,⟨[120],[116],[],h1,[]⟩],[]⟩ (Sa 9 [121] [117] [])=(⟨5,[⟨[116],0,0⟩,⟨[117],0,0⟩],[⟨[114,111,111,116],[],[115],h0,[]⟩,⟨[120],[116],[],h1,[]⟩],[⟨[121],[117],[]⟩]⟩,0):=by kernel_rfl
 have e5:DoP ⟨5,[⟨[116],0,0⟩,⟨[117],0,0⟩],[⟨[114,111,111,116],[],[115],h0,[]⟩,⟨[120],[116],[],h1,[]⟩],[⟨[121],[117],[]⟩]⟩ (Sa 13 [120] [121] [])=(⟨5,[⟨[116],0,0⟩,⟨[117],0,0⟩],[⟨[114,111,111,116],[],[115],h0,[]⟩,⟨[120],[116],[],h1,[]⟩],[⟨[121],[117],[]⟩]⟩,18):=by kernel_rfl
 have d1:=Ve ⟨1,[],[⟨[114,111,111,116],[],[115],h0,[]⟩],[]⟩ ⟨by simp,by simp,by simp,by simp,by simp⟩ (Sa 4 [116] [] []) (by simp[Sa]) (by simp)
 have d2:=Ve ⟨2,[⟨[116],0,0⟩],[⟨[114,111,111,116],[],[115],h0,[]⟩],[]⟩ ⟨by simp,by simp,by simp,by simp,by simp⟩ (Sa 4 [117] [] []) (by simp[Sa]) (by simp)
 have d3:=Ve ⟨3,[⟨[116],0,0⟩,⟨[117],0,0⟩],[⟨[114,111,111,116],[],[115],h0,[]⟩],[]⟩ ⟨by simp,by simp,by simp,by simp,by simp⟩ (Sa 6 [120] [116] [112]) (by simp[Sa]) (by simp)
 have d4:=Ve ⟨4,[⟨[116],0,0⟩,⟨[117],0,0⟩],[⟨[114,111,111,116],[],[115],h0,[]⟩,⟨[120],[116],[],h1,[]⟩],[]⟩ ⟨by simp,by simp,by simp,by simp,by simp⟩ (Sa 9 [121] [117] []) (by simp[Sa]) (by simp)
 have d5:=Ve ⟨5,[⟨[116],0,0⟩,⟨[117],0,0⟩],[⟨[114,111,111,116],[],[115],h0,[]⟩,⟨[120],[116],[],h1,[]⟩],[⟨[121],[117],[]⟩]⟩ ⟨by simp,by simp,by simp,by simp,by simp⟩ (Sa 13 [120] [121] []) (by simp[Sa]) (by simp)
 rw[e1]at d1;rw[e2]at d2;rw[e3]at d3;rw[e4]at d4;rw[e5]at d5;have ch:=A36 ⟨5,[⟨[116],0,0⟩,⟨[117],0,0⟩],[⟨[114,111,111,116],[],[115],h0,[]⟩,⟨[120],[116],[],h1,[]⟩],[⟨[121],[117],[]⟩]⟩ ⟨by simp,by simp,by simp,by simp,by simp⟩ [120] [112] ⟨[120],[116],[],h1,[]⟩ (by simp[Je]) (by simp) (by simp)
 dsimp only at ch;rw[show decide (h1=Hj [] [112])=true by simp[hh1]]at ch
 clear e1 e2 e3 e4 e5 hh1;repeat'((conv=>whnf);first|(apply aI<;>intro hb<;>first|exact absurd hb (by decide)|((try rw[hb]);(try simp only[Ad]at hb)))|(refine eI ?_ ?_;focus (and_intros<;>first|omega|exact rfl|(intro _ hh;cases hh;done)|(simp;done)|decide))|(refine Ac.mk ⟨_,n1,?_⟩;rintro _ _ ⟨rfl,rfl⟩)|(refine Ac.mk ⟨_,d1,?_⟩;rintro _ _ ⟨rfl,rfl⟩)|(refine Ac.mk ⟨_,d2,?_⟩;rintro _ _ ⟨rfl,rfl⟩)|(refine Ac.mk ⟨_,d3,?_⟩;rintro _ _ ⟨rfl,rfl⟩)|(refine Ac.mk ⟨_,d4,?_⟩;rintro _ _ ⟨rfl,rfl⟩)|(refine Ac.mk ⟨_,d5,?_⟩;rintro _ _ ⟨rfl,rfl⟩)|(refine Ac.mk ⟨_,ch,?_⟩;rintro _ _ ⟨rfl,rfl⟩))
 all_goals(try(conv=>whnf))
 all_goals first|(exfalso;have ht:¬True:=(by assumption);exact ht True.intro)|(apply dK<;>kernel_rfl)

open Go.Proofs
def Anh(c:Ds):Bool:=decide (1000<c.name.length)||decide (1000<c.other.length)||decide (1000<c.word.length)||decide (1000<c.Bp.length)||decide (1000<c.Bz.sp.f.length)||decide (1000<c.Bz.sp.t.length)
def Vx(l:List Ds):Bool:=decide (80<l.length)||l.any Anh
theorem Atq(c:Ds):Anh c=true↔(1000<c.name.length∨1000<c.other.length∨1000<c.word.length∨1000<c.Bp.length∨1000<c.Bz.sp.f.length∨1000<c.Bz.sp.t.length):=by
 unfold Anh;simp only[Bool.or_eq_true,decide_eq_true_eq,or_assoc]
theorem A13(l:List Ds)(hl:l.length≤maxLen):Fn Tryz.prog Ab8 [.v (.list (l.map Ds.Ae))] (Is (.v (.bool (Vx l))) [.no]):=by
 refine Aaq ?_ (by simp)
 repeat'((conv=>whnf);first|(refine eI ?_ ?_;focus (and_intros<;>exact rfl))|(intro Aa))
 all_goals(try(conv=>whnf))
 refine Bq.by (X:=Nat) (fun k=>[(7,.v (.int .i64 k))]) (fun k=>k≤l.length∧k≤80∧∀x∈l.take k,Anh x=false) (fun k=>l.length - k)
  0 (by kernel_rfl) ⟨Nat.zero_le _,Nat.zero_le _,by simp⟩ ?_
 rintro k ⟨h1,h2,h3⟩;by_cases hk:k<l.length
 ·obtain⟨e,he⟩:∃e,l[k]?=some e:=⟨_,List.getElem?_eq_getElem hk⟩;have Bb:¬decide ((k:Int)<((l.map Ds.Ae).length:Int))=false:=by simp[hk]
  have hem:=List.mem_of_getElem? he;have hB:=Atq e;have hgt:Anh e=true∨80≤k→Vx l=true:=fun h=>by
   unfold Vx;rw[Bool.or_eq_true];rcases h with h|h
   ·exact .inr (List.any_eq_true.2 ⟨e,hem,h⟩)
   ·exact .inl (by simp;omega)
  generalize hG:Vx l=G at hgt ⊢;repeat'((conv=>whnf);first|(apply aI<;>intro hb<;>first|exact absurd hb (by first|assumption|decide)|((try rw[hb]);(try simp only[Ad]at hb)))|(refine eI ?_ ?_;focus (and_intros<;>first|omega|exact rfl|(simp;done)))|(intro Aa)|((try dsimp only);first|rw[Av he]|rw[An he]|rw[Ap he]))
  all_goals(try(conv=>whnf))
  all_goals first
   |(obtain rfl:G=true:=hgt (by rw[hB];omega)
     (apply dK<;>kernel_rfl))
   |(refine Round.by (k+1) ?_ ⟨hk,by omega,?_⟩ (by omega)
     ·rw[Ak hk hl];show norm _ _=Bt _ _
      kernel_rfl
     ·intro x hx;rw[List.take_add_one,he]at hx;simp only[Option.toList_some,List.mem_append,List.mem_singleton]at hx;rcases hx with hx|rfl
      ·exact h3 x hx
      ·cases hbx:Anh x with
       |false=>rfl
       |true=>rw[hbx]at hB;have:=hB.1 rfl;omega)
 ·have Bb:¬decide ((k:Int)<((l.map Ds.Ae).length:Int))=true:=by simp;omega
  have hG:Vx l=false:=by
   unfold Vx;rw[List.take_of_length_le (by omega)]at h3
   rw[Bool.or_eq_false_iff];exact⟨by simp;omega,List.any_eq_false.2 fun x hx=>by simp[h3 x hx]⟩
  rw[hG];repeat'((conv=>whnf);(apply aI<;>intro hb<;>first|exact absurd hb (by assumption)|((try rw[hb]);(try simp only[Ad]at hb))))
  all_goals(try(conv=>whnf))
  (apply dK<;>kernel_rfl)

open Go.Proofs
def next(r:A8)(c:Ds):A8:=(doM r c).1

open Go.Proofs
theorem Arc(r:A8)(hs:r.Small):Fn Tryz.prog Aea [.v r.Ae,.v r.Ae] (Is (.v (.bool true)) [.no,.no]):=by
 refine Adm ?_ (by simp)
 obtain⟨b1,b2,b3,b4,b5⟩:=hs;repeat'((conv=>whnf);first|(apply aI<;>intro hb<;>first|exact absurd hb (by decide)|((try rw[hb]);(try simp only[Ad]at hb)))|(refine eI ?_ ?_;focus (and_intros<;>first|omega|exact rfl|(simp;done)))|(intro Aa))
 all_goals(try(conv=>whnf))
 all_goals first|(exfalso;have ht:¬True:=(by assumption);exact ht True.intro)|(exfalso;simp at hb;done)|skip
 refine Bq.by (X:=Nat) (fun k=>[(5,.v (.int .i64 k))]) (fun k=>k≤r.Be.length) (fun k=>r.Be.length - k)
  0 (by kernel_rfl) (Nat.zero_le _) ?_
 intro k hk;by_cases Ce:k<r.Be.length
 ·obtain⟨e,he⟩:∃e,r.Be[k]?=some e:=⟨_,List.getElem?_eq_getElem Ce⟩;have Bb:¬decide ((k:Int)<((r.Be.map B7.Ae).length:Int))=false:=by simp[Ce]
  repeat'((conv=>whnf);first|(apply aI<;>intro hb<;>first|exact absurd hb (by assumption)|((try rw[hb]);(try simp only[Ad]at hb)))|(refine eI ?_ ?_;focus (and_intros<;>first|omega|exact rfl|(simp;done)))|(intro Aa)|((with_reducible apply A5.B5);(focus kernel_rfl);intro Aa;(try simp only[dRS]at Aa))|((try dsimp only);first|rw[Av he]|rw[An he]|rw[Ap he]))
  all_goals(try(conv=>whnf))
  all_goals first|(exfalso;have ht:¬True:=(by assumption);exact ht True.intro)|(exfalso;simp at hb;done)|skip
  refine Round.by (k+1) ?_ Ce (by omega)
  rw[Ak (n:=r.Be.length) Ce (by simp only[maxLen];omega)]
  show norm _ _=Bt _ _
  kernel_rfl
 have Bb:¬decide ((k:Int)<((r.Be.map B7.Ae).length:Int))=true:=by simp;omega
 obtain rfl:k=r.Be.length:=by omega
 clear hk Ce;repeat'((conv=>whnf);first|(apply aI<;>intro hb<;>first|exact absurd hb (by assumption)|((try rw[hb]);(try simp only[Ad]at hb)))|(refine eI ?_ ?_;focus (and_intros<;>first|omega|exact rfl|(simp;done)))|(intro Aa))
 all_goals(try(conv=>whnf))
 refine Bq.by (X:=Nat) (fun k=>[(6,.v (.int .i64 k))]) (fun k=>k≤r.Ag.length) (fun k=>r.Ag.length - k)
  0 (by kernel_rfl) (Nat.zero_le _) ?_
 clear Bb;intro k hk;by_cases Ce:k<r.Ag.length
 ·obtain⟨u,he⟩:∃e,r.Ag[k]?=some e:=⟨_,List.getElem?_eq_getElem Ce⟩;have Bb:¬decide ((k:Int)<((r.Ag.map Bc.Ae).length:Int))=false:=by simp[Ce]
  have Pw:=b4 u (List.mem_of_getElem? he);repeat'((conv=>whnf);first|(apply aI<;>intro hb<;>first|exact absurd hb (by first|assumption|decide)|((try rw[hb]);(try simp only[Ad]at hb)))|(refine eI ?_ ?_;focus (and_intros<;>first|omega|exact rfl|(simp;done)))|(intro Aa)|((with_reducible apply A5.B5);(focus kernel_rfl);intro Aa;(try simp only[dRS]at Aa))|((try dsimp only);first|rw[Av he]|rw[An he]|rw[Ap he]))
  all_goals(try(conv=>whnf))
  all_goals first|(exfalso;have ht:¬True:=(by assumption);exact ht True.intro)|(exfalso;simp at hb;done)|skip
  refine Bq.by (X:=Nat) (fun j=>[(9,.v (.int .i64 j))]) (fun j=>j≤u.A2.length) (fun j=>u.A2.length - j)
   0 (by kernel_rfl) (Nat.zero_le _) ?_
  intro j hj;by_cases Jw:j<u.A2.length
  ·obtain⟨e,hje⟩:∃e,u.A2[j]?=some e:=⟨_,List.getElem?_eq_getElem Jw⟩;have Rk:¬decide ((j:Int)<((strs u.A2).length:Int))=false:=by simp[Jw]
   repeat'((conv=>whnf);first|(apply aI<;>intro hb<;>first|exact absurd hb (by assumption)|((try rw[hb]);(try simp only[Ad]at hb)))|(refine eI ?_ ?_;focus (and_intros<;>first|omega|exact rfl|(simp;done)))|(intro Aa)|((with_reducible apply A5.B5);(focus kernel_rfl);intro Aa;(try simp only[dRS]at Aa))|((try dsimp only);first|rw[Av hje]|rw[An hje]|rw[Ap hje]))
   all_goals(try(conv=>whnf))
   all_goals first|(exfalso;have ht:¬True:=(by assumption);exact ht True.intro)|(exfalso;simp at hb;done)|skip
   refine Round.by (j+1) ?_ Jw (by omega)
   rw[Ak (n:=u.A2.length) Jw (by simp only[maxLen];omega)]
   show norm _ _=Bt _ _
   kernel_rfl
  ·have Rk:¬decide ((j:Int)<((strs u.A2).length:Int))=true:=by simp;omega
   obtain rfl:j=u.A2.length:=by omega
   repeat'((conv=>whnf);first|(apply aI<;>intro hb<;>first|exact absurd hb (by assumption)|((try rw[hb]);(try simp only[Ad]at hb)))|(refine eI ?_ ?_;focus (and_intros<;>first|omega|exact rfl|(simp;done)))|(intro Aa))
   all_goals(try(conv=>whnf))
   refine Round.by (k+1) ?_ Ce (by omega)
   rw[Ak (n:=r.Ag.length) Ce (by simp only[maxLen];omega)]
   show norm _ _=Bt _ _
   kernel_rfl
 have Bb:¬decide ((k:Int)<((r.Ag.map Bc.Ae).length:Int))=true:=by simp;omega
 obtain rfl:k=r.Ag.length:=by omega
 clear hk Ce;repeat'((conv=>whnf);first|(apply aI<;>intro hb<;>first|exact absurd hb (by assumption)|((try rw[hb]);(try simp only[Ad]at hb)))|(refine eI ?_ ?_;focus (and_intros<;>first|omega|exact rfl|(simp;done)))|(intro Aa))
 all_goals(try(conv=>whnf))
 refine Bq.by (X:=Nat) (fun k=>[(10,.v (.int .i64 k))]) (fun k=>k≤r.Am.length) (fun k=>r.Am.length - k)
  0 (by kernel_rfl) (Nat.zero_le _) ?_
 clear Bb;intro k hk;by_cases Ce:k<r.Am.length
 ·obtain⟨u,he⟩:∃e,r.Am[k]?=some e:=⟨_,List.getElem?_eq_getElem Ce⟩;have Bb:¬decide ((k:Int)<((r.Am.map Bh.Ae).length:Int))=false:=by simp[Ce]
  have Pw:=b5 u (List.mem_of_getElem? he);repeat'((conv=>whnf);first|(apply aI<;>intro hb<;>first|exact absurd hb (by first|assumption|decide)|((try rw[hb]);(try simp only[Ad]at hb)))|(refine eI ?_ ?_;focus (and_intros<;>first|omega|exact rfl|(simp;done)))|(intro Aa)|((with_reducible apply A5.B5);(focus kernel_rfl);intro Aa;(try simp only[dRS]at Aa))|((try dsimp only);first|rw[Av he]|rw[An he]|rw[Ap he]))
  all_goals(try(conv=>whnf))
  all_goals first|(exfalso;have ht:¬True:=(by assumption);exact ht True.intro)|(exfalso;simp at hb;done)|skip
  refine Bq.by (X:=Nat) (fun j=>[(13,.v (.int .i64 j))]) (fun j=>j≤u.A4.length) (fun j=>u.A4.length - j)
   0 (by kernel_rfl) (Nat.zero_le _) ?_
  intro j hj;by_cases Jw:j<u.A4.length
  ·obtain⟨e,hje⟩:∃e,u.A4[j]?=some e:=⟨_,List.getElem?_eq_getElem Jw⟩;have Rk:¬decide ((j:Int)<((u.A4.map Dg.Ae).length:Int))=false:=by simp[Jw]
   repeat'((conv=>whnf);first|(apply aI<;>intro hb<;>first|exact absurd hb (by assumption)|((try rw[hb]);(try simp only[Ad]at hb)))|(refine eI ?_ ?_;focus (and_intros<;>first|omega|exact rfl|(simp;done)))|(intro Aa)|((with_reducible apply A5.B5);(focus kernel_rfl);intro Aa;(try simp only[dRS]at Aa))|((try dsimp only);first|rw[Av hje]|rw[An hje]|rw[Ap hje]))
   all_goals(try(conv=>whnf))
   all_goals first|(exfalso;have ht:¬True:=(by assumption);exact ht True.intro)|(exfalso;simp at hb;done)|skip
   refine Round.by (j+1) ?_ Jw (by omega)
   rw[Ak (n:=u.A4.length) Jw (by simp only[maxLen];omega)]
   show norm _ _=Bt _ _
   kernel_rfl
  ·have Rk:¬decide ((j:Int)<((u.A4.map Dg.Ae).length:Int))=true:=by simp;omega
   obtain rfl:j=u.A4.length:=by omega
   repeat'((conv=>whnf);first|(apply aI<;>intro hb<;>first|exact absurd hb (by assumption)|((try rw[hb]);(try simp only[Ad]at hb)))|(refine eI ?_ ?_;focus (and_intros<;>first|omega|exact rfl|(simp;done)))|(intro Aa))
   all_goals(try(conv=>whnf))
   refine Round.by (k+1) ?_ Ce (by omega)
   rw[Ak (n:=r.Am.length) Ce (by simp only[maxLen];omega)]
   show norm _ _=Bt _ _
   kernel_rfl
 have Bb:¬decide ((k:Int)<((r.Am.map Bh.Ae).length:Int))=true:=by simp;omega
 obtain rfl:k=r.Am.length:=by omega
 clear hk Ce;repeat'((conv=>whnf);first|(apply aI<;>intro hb<;>first|exact absurd hb (by assumption)|((try rw[hb]);(try simp only[Ad]at hb)))|(refine eI ?_ ?_;focus (and_intros<;>first|omega|exact rfl|(simp;done)))|(intro Aa))
 all_goals(try(conv=>whnf))
 (apply dK<;>kernel_rfl)

open Go.Proofs
theorem Arb(r:A8)(c:Ds)(Pu: -9223372036854775808≤r.rev):Fn Tryz.prog Vu [.v r.Ae,.v c.Ae] (Is (.v (.bool true)) [.no,.no]):=by
 refine U4 ?_ (by simp)
 have aw:=A1s;have gr:=A13 [c] (by simp[maxLen])
 obtain⟨b,hB⟩:∃b:Bool,b=false↔r.Lo:=by
  by_cases h:r.Lo
  ·exact⟨false,by simp[h]⟩
  ·exact⟨true,by simp[h]⟩
 have la:=A8u r b hB;cases b with
 |true=>
  clear gr;repeat'((conv=>whnf);first|(apply aI<;>intro hb<;>first|exact absurd hb (by decide)|((try rw[hb]);(try simp only[Ad]at hb)))|(refine eI ?_ ?_;focus (and_intros<;>first|omega|exact rfl|(intro _ hh;cases hh;done)|(simp;done)|decide))|(refine Ac.mk ⟨_,aw,?_⟩;rintro _ _ ⟨rfl,rfl⟩)|(refine Ac.mk ⟨_,la,?_⟩;rintro _ _ ⟨rfl,rfl⟩))
  all_goals(try(conv=>whnf))
  all_goals first|contradiction|(apply dK<;>kernel_rfl)
 |false=>
 have hLo:=hB.1 rfl;clear hB;cases hg:Vx [c]with
 |true=>
  rw[hg]at gr;repeat'((conv=>whnf);first|(apply aI<;>intro hb<;>first|exact absurd hb (by decide)|((try rw[hb]);(try simp only[Ad]at hb)))|(refine eI ?_ ?_;focus (and_intros<;>first|omega|exact rfl|(intro _ hh;cases hh;done)|exact B8 (by rfl)|(simp;done)|decide))|(refine Ac.mk ⟨_,aw,?_⟩;rintro _ _ ⟨rfl,rfl⟩)|(refine Ac.mk ⟨_,la,?_⟩;rintro _ _ ⟨rfl,rfl⟩)|(refine Ac.mk ⟨_,gr,?_⟩;rintro _ _ ⟨rfl,rfl⟩))
  all_goals(try(conv=>whnf))
  all_goals first|contradiction|(apply dK<;>kernel_rfl)
 |false=>
 rw[hg]at gr;have hs:r.Small:=⟨by have:=hLo.t;omega,by have:=hLo.u;omega,by have:=hLo.x;omega,fun u hu=>by have:=(hLo.us u hu).1;omega,fun x hx=>by have:=(hLo.xs x hx).1;omega⟩
 have hbc:¬Anh c=true:=by
  unfold Vx at hg;rw[Bool.or_eq_false_iff]at hg;have:=List.any_eq_false.1 hg.2 c (List.mem_cons_self ..);simpa using this
 rw[Atq]at hbc;clear hLo hg;obtain⟨b,hB⟩:∃b:Bool,b=true↔r.Vv:=by
  by_cases h:r.Vv
  ·exact⟨true,by simp[h]⟩
  ·exact⟨false,by simp[h]⟩
 have p1:=Awm r hs b hB;have p2:=Aft r hs b hB;have p3:=T2 r hs;have p4:=Ve r hs c (by omega) Pu
 have p5:=Arc r hs;cases b with
 |false=>
  clear hB;generalize DoP r c=X at p4;obtain⟨n,e⟩:=X;repeat'((conv=>whnf);first|(apply aI<;>intro hb<;>first|exact absurd hb (by decide)|((try rw[hb]);(try simp only[Ad]at hb)))|(refine eI ?_ ?_;focus (and_intros<;>first|omega|exact rfl|(intro _ hh;cases hh;done)|exact B8 (by rfl)|(simp;done)|decide))|(refine Ac.mk ⟨_,aw,?_⟩;rintro _ _ ⟨rfl,rfl⟩)|(refine Ac.mk ⟨_,la,?_⟩;rintro _ _ ⟨rfl,rfl⟩)|(refine Ac.mk ⟨_,gr,?_⟩;rintro _ _ ⟨rfl,rfl⟩)|(refine Ac.mk ⟨_,p1,?_⟩;rintro _ _ ⟨rfl,rfl⟩)|(refine Ac.mk ⟨_,p2,?_⟩;rintro _ _ ⟨rfl,rfl⟩)|(refine Ac.mk ⟨_,p3,?_⟩;rintro _ _ ⟨rfl,rfl⟩)|(refine Ac.mk ⟨_,p4,?_⟩;rintro _ _ ⟨rfl,rfl⟩)|(refine Ac.mk ⟨_,p5,?_⟩;rintro _ _ ⟨rfl,rfl⟩))
  all_goals(try(conv=>whnf))
  all_goals first|contradiction|(apply dK<;>kernel_rfl)
 |true=>
 have hR:=hB.1 rfl;clear hB;obtain⟨f1,f2,f3⟩:=Bem hR;rw[Bhq r f2 c]at p4;have p6:=Bhm r hs c (by have:=f1.hV;omega) (by omega)
 have g1:=Bgt f1 c;have g2:=Ber g1 (A6f f2 c) (Bh2 f3 c);generalize doM r c=X at p4 p6 g1 g2;obtain⟨n,e⟩:=X;dsimp only at p4 p6 g1 g2;have p7:=Arc n g1.small;have p8:=Aft n g1.small true (by simp[g2])
 clear hR f1 f2 f3 g1 g2;repeat'((conv=>whnf);first|(apply aI<;>intro hb<;>first|exact absurd hb (by decide)|((try rw[hb]);(try simp only[Ad]at hb)))|(refine eI ?_ ?_;focus (and_intros<;>first|omega|exact rfl|(intro _ hh;cases hh;done)|exact B8 (by rfl)|(simp;done)|decide))|(refine Ac.mk ⟨_,aw,?_⟩;rintro _ _ ⟨rfl,rfl⟩)|(refine Ac.mk ⟨_,la,?_⟩;rintro _ _ ⟨rfl,rfl⟩)|(refine Ac.mk ⟨_,gr,?_⟩;rintro _ _ ⟨rfl,rfl⟩)|(refine Ac.mk ⟨_,p1,?_⟩;rintro _ _ ⟨rfl,rfl⟩)|(refine Ac.mk ⟨_,p2,?_⟩;rintro _ _ ⟨rfl,rfl⟩)|(refine Ac.mk ⟨_,p3,?_⟩;rintro _ _ ⟨rfl,rfl⟩)|(refine Ac.mk ⟨_,p4,?_⟩;rintro _ _ ⟨rfl,rfl⟩)|(refine Ac.mk ⟨_,p5,?_⟩;rintro _ _ ⟨rfl,rfl⟩)|(refine Ac.mk ⟨_,p6,?_⟩;rintro _ _ ⟨rfl,rfl⟩)|(refine Ac.mk ⟨_,p7,?_⟩;rintro _ _ ⟨rfl,rfl⟩)|(refine Ac.mk ⟨_,p8,?_⟩;rintro _ _ ⟨rfl,rfl⟩))
 all_goals(try(conv=>whnf))
 all_goals first|contradiction|(apply dK<;>kernel_rfl)

open Go.ChangeShapes Go.Deep
inductive Sh where
 |int (k:IntKind)
 |bool
 |str
 |st (l:List Sh)
 |sl (sz:Nat) (e:Sh)
 |ar (sz n:Nat) (e:Sh)
 deriving Inhabited
mutual
def Sh.ok(P:Program):TypeId→Sh→Bool
 |t,.int k=>match P.underlying t with
  |some (.int k')=>k==k'
  |_=>false
 |t,.bool=>match P.underlying t with
  |some .bool=>true
  |_=>false
 |t,.str=>match P.underlying t with
  |some .string=>true
  |_=>false
 |t,.st l=>match P.underlying t with
  |some (.struct fs)=>Sh.P8 P 0 (P.cellsOf t) fs.toList l
  |_=>false
 |t,.sl sz e=>match P.underlying t with
  |some (.slice e')=>P.cellsOf e'==sz&&sz != 0&&Sh.ok P e' e
  |_=>false
 |t,.ar sz n e=>match P.underlying t with
  |some (.array m e')=>P.cellsOf e'==sz&&m==n&&P.cellsOf t==n*sz&&Sh.ok P e' e
  |_=>false
def Sh.P8(P:Program):Nat→Nat→List Field→List Sh→Bool
 |off,Wc,[],[]=>off==Wc
 |off,Wc,f::fs,s::l=>f.offset==off&&Sh.ok P f.type s&&Sh.P8 P (off+P.cellsOf f.type) Wc fs l
 |_,_,_,_=>false
end
mutual
def Fits:Sh→I→Prop
 | .int k,x=>∃n,x= .int k n∧(Lit.int k n).wf=true
 | .bool,x=>∃b,x= .bool b
 | .str,x=>∃s,x= .str s
 | .st l,x=>∃xs,x= .agg xs∧Awq l xs
 | .sl sz e,x=>∃xs,x= .list xs∧∀y∈xs,Fits e y∧y.size=sz
 | .ar sz n e,x=>∃xs,x= .arr sz xs∧xs.length=n∧∀y∈xs,Fits e y∧y.size=sz
def Awq:List Sh→List I→Prop
 | [],xs=>xs=[]
 |s::l,xs=>∃y ys,xs=y::ys∧Fits s y∧Awq l ys
end
def K5(w:World):Mem:=fun b=>w.heap[b]?
section
variable{H:Type}{enc:TypeId × Value → H}{P:Program}{w:World}{base:Nat}{sp:Nat → Bool}{held:Bool}
theorem Att{a:Addr}{n:Nat}{cs:List Value}(h:w.cells? base a n=some cs)(h0:0<n):∃bl ty fz,a=⟨a.block,a.off,none⟩∧w.heap[a.block]?=some (.cells bl ty fz)∧a.off+n≤bl.size∧(bl.toList.drop a.off).take n=cs:=by
 obtain⟨_,hl,hc⟩:=World.cells?_some h;have Y1:∀i,i<n→∃v,w.cell? (a.add i)=some v:=fun i hi=>⟨cs[i]'(by omega),by rw[hc i hi,List.getElem?_eq_getElem]⟩
 obtain⟨v,hv⟩:=Y1 0 h0;unfold World.cell? at hv;rw[show a.add 0=a from by simp[Addr.add]]at hv
 split at hv
 ·rename_i bl ty fz hb;split at hv
  ·cases hv
  ·rename_i hs;have Abm:a.spot=none:=by cases Mx:a.spot<;>simp[Mx]at hs ⊢
   have Wm:∀i,w.cell? (a.add i)=bl[a.off+i]?:=by
    intro i;unfold World.cell? Addr.add;by_cases hi:i=0
    ·simp[hi,hb,Abm]
    ·simp[hi,hb]
   have Bk:a.off+n≤bl.size:=by
    obtain⟨v',L0⟩:=Y1 (n - 1) (by omega)
    rw[Wm]at L0;have:=(Array.getElem?_eq_some_iff.1 L0).1;omega
   refine⟨bl,ty,fz,?_,hb,Bk,?_⟩
   ·cases a;simp at Abm;simp[Abm]
   ·apply List.ext_getElem?;intro i;by_cases hi:i<n
    ·rw[List.getElem?_take,if_pos hi,List.getElem?_drop, ←hc i hi,Wm];simp
    ·rw[List.getElem?_eq_none (by simp;omega),List.getElem?_eq_none (by omega)]
 ·cases hv
theorem A0.Asy{G:Mem}{sz:Nat}:∀{n:Nat} {cells:List Value} {p:I→Prop},n*sz≤cells.length→(∀i,i<n→∃x,A1 G x ((cells.drop (i*sz)).take sz)∧p x)→∃xs,xs.length=n∧A0 G xs (cells.take (n*sz))∧∀x∈xs,p x
 |0,cells,p,_,_=>⟨[],rfl,by simp[A0],by simp⟩
 |n+1,cells,p,hl,h=>by
  have hm:(n+1)*sz=sz+n*sz:=by rw[Nat.add_mul];omega
  obtain⟨x,h1,h2⟩:=h 0 (by omega)
  simp only[Nat.zero_mul,List.drop_zero]at h1;obtain⟨xs,h3,h4,h5⟩:=A0.Asy (sz:=sz) (n:=n) (cells:=cells.drop sz) (p:=p) (by rw[List.length_drop];omega) fun i hi=>by
   obtain⟨y,g1,g2⟩:=h (i+1) (by omega)
   refine⟨y,?_,g2⟩;rw[List.drop_drop,show sz+i*sz=(i+1)*sz by rw[Nat.add_mul];omega]
   exact g1
  refine⟨x::xs,by simp[h3],?_,?_⟩
  ·rw[hm,List.take_add];simp only[A0];exact⟨_,_,rfl,h1,h4⟩
  ·intro y hy;rcases List.mem_cons.mp hy with rfl|hy
   ·exact h2
   ·exact h5 y hy
theorem Ba9:∀{l:List Sh} {fs:List Field} {off Wc:Nat},Sh.P8 P off Wc fs l=true→off≤Wc
 | [],[],_,_,h=>by simp only[Sh.P8,beq_iff_eq]at h;omega
 |s::l,f::fs,off,Wc,h=>by
  simp only[Sh.P8,Bool.and_eq_true]at h;have:=Ba9 h.2;omega
 | [],_::_,_,_,h=>by simp[Sh.P8]at h
 |_::_,[],_,_,h=>by simp[Sh.P8]at h
mutual
theorem Ab6:∀(sh:Sh) {t:TypeId} {fuel:Nat} {cs:List Value} {x:DataW H × List MemPlace},sh.ok P t=true→DataW.trod enc P w base (fun _=>sp 0) held fuel t cs=some x→
 ∃y,A1 (K5 w) y cs∧Fits sh y
 | .int k,t,fuel,cs,x,ho,h=>by
   simp only[Sh.ok]at ho;split at ho
   ·rename_i k' ht;rw[beq_iff_eq]at ho;subst ho;obtain⟨n,rfl,_,hw⟩:=DataW.trod_int ht h;exact⟨.int k n,by simp[A1],n,rfl,hw⟩
   ·cases ho
 | .bool,t,fuel,cs,x,ho,h=>by
   simp only[Sh.ok]at ho;split at ho
   ·rename_i ht;obtain⟨b,rfl,_⟩:=DataW.trod_bool ht h;exact⟨.bool b,by simp[A1],b,rfl⟩
   ·cases ho
 | .str,t,fuel,cs,x,ho,h=>by
   simp only[Sh.ok]at ho;split at ho
   ·rename_i ht;obtain⟨s,rfl,_,hs⟩:=DataW.trod_string ht h;obtain⟨⟨s⟩⟩:=s;exact⟨.str s,by simp only[A1];exact⟨trivial,hs⟩,s,rfl⟩
   ·cases ho
 | .st l,t,fuel,cs,x,ho,h=>by
   simp only[Sh.ok]at ho;split at ho
   ·rename_i fs ht;cases fuel with
    |zero=>simp[DataW.trod]at h
    |succ fuel=>
     simp only[DataW.trod,ht]at h;split at h
     ·rename_i hl;obtain⟨xs,h1,_⟩:=Option.map_eq_some_iff.1 h;obtain⟨ys,h2,h3⟩:=Ark l (off:=0) ho h1;refine⟨.agg ys,?_,ys,rfl,h3⟩;simp only[A1];simpa[←hl]using h2
     ·cases h
   ·cases ho
 | .sl sz e,t,fuel,cs,x,ho,h=>by
   simp only[Sh.ok]at ho;split at ho
   ·rename_i e' ht;simp only[Bool.and_eq_true,beq_iff_eq,bne_iff_ne,ne_eq]at ho;obtain⟨⟨Bk,hz⟩,he⟩:=ho;rcases open_slice ht h with⟨rfl,_⟩|⟨a,len,cap,m,n,D,Pl,rfl,_,K9,Np,hm,_,hx⟩
    ·exact⟨.list [],by simp only[A1];exact⟨none,0,rfl,Nat.le_refl _,Nat.zero_le _,.inl trivial⟩,[],rfl,by simp⟩
    ·by_cases h0:len=0
     ·subst h0;exact⟨.list [],by simp only[A1];exact⟨some a,cap,rfl,Nat.zero_le _,Np,.inl trivial⟩,[],rfl,by simp⟩
     ·have hmm:len≤m:=by subst hm;split<;>omega
      have Gj:∀i,i<len→∃E5 y,w.cells? base (a.add (i*sz)) sz=some E5∧A1 (K5 w) y E5∧Fits e y∧y.size=sz:=by
       intro i hi;obtain⟨E5,g1,g2⟩:=hx i (by omega)
       obtain⟨y,g3,g4⟩:=Ab6 e he g2;rw[Bk]at g1;have hlen:=(World.cells?_some g1).2.1;exact⟨E5,y,g1,g3,g4,by rw[←A1.length _ _ g3,hlen]⟩
      obtain⟨cs0,_,c1,_⟩:=Gj 0 (by omega)
      rw[Nat.zero_mul,show a.add 0=a by simp[Addr.add]]at c1
      obtain⟨bl,ty,fz,ha,hb,hs0,_⟩:=Att c1 (by omega)
      have Da:∀i,i<len→a.off+i*sz+sz≤bl.size∧∃y,A1 (K5 w) y (((bl.toList.drop a.off).drop (i*sz)).take sz)∧Fits e y∧y.size=sz:=by
       intro i hi;obtain⟨E5,y,g1,g2,g3,g4⟩:=Gj i hi;obtain⟨bl',Ny,fz',k1,k2,k3,k4⟩:=Att g1 (by omega)
       have e1:(a.add (i*sz)).block=a.block:=by unfold Addr.add;split<;>rfl
       have e2:(a.add (i*sz)).off=a.off+i*sz:=by unfold Addr.add;split<;>rename_i hh<;>simp[hh]
       rw[e1,hb]at k2;cases k2;rw[e2]at k3 k4;refine⟨k3,y,?_,g3,g4⟩;rw[List.drop_drop,k4];exact g2
      have Bfw:=(Da (len - 1) (by omega)).1
      have hmul:(len - 1)*sz+sz=len*sz:=by
       obtain⟨q,rfl⟩:∃q,len=q+1:=⟨len - 1,by omega⟩
       rw[Nat.add_sub_cancel,Nat.add_mul,Nat.one_mul]
      obtain⟨xs,x1,x2,x3⟩:=A0.Asy (G:=K5 w) (sz:=sz) (n:=len) (cells:=bl.toList.drop a.off) (p:=fun y=>Fits e y∧y.size=sz) (by simp;omega) fun i hi=>(Da i hi).2
      refine⟨.list xs,?_,xs,rfl,x3⟩;simp only[A1];refine⟨some a,cap,by rw[x1],by omega,Np,.inr ⟨a.block,a.off,bl,ty,fz,sz,by rw[←ha],hb,fun y hy=>(x3 y hy).2,by rw[x1];omega,by rw[x1];exact x2⟩⟩
   ·cases ho
 | .ar sz n e,t,fuel,cs,x,ho,h=>by
   simp only[Sh.ok]at ho;split at ho
   ·rename_i m e' ht;simp only[Bool.and_eq_true,beq_iff_eq]at ho;obtain⟨⟨⟨Bk,rfl⟩,Bo7⟩,he⟩:=ho;obtain⟨xs,fu,rfl,_,hl,hxl,hx⟩:=DataW.trod_array ht h;rw[Bo7]at hl;rw[Bk]at hx;obtain⟨ys,y1,y2,y3⟩:=A0.Asy (G:=K5 w) (sz:=sz) (n:=m) (cells:=cs) (p:=fun y=>Fits e y∧y.size=sz) (by omega) fun i hi=>by
     obtain⟨d,hd⟩:∃d,xs[i]?=some d:=⟨_,List.getElem?_eq_getElem (by omega)⟩
     have h1:=hx i hi;rw[hd]at h1;obtain⟨y,g1,g2⟩:=Ab6 e he h1;refine⟨y,g1,g2,?_⟩;rw[←A1.length _ _ g1,List.length_take,List.length_drop];have:(i+1)*sz≤m*sz:=Nat.mul_le_mul_right _ (by omega)
     rw[Nat.add_mul,Nat.one_mul]at this;omega
    refine⟨.arr sz ys,?_,ys,rfl,y1,y3⟩;rw[List.take_of_length_le (by omega)]at y2
    simp only[A1];exact⟨y2,fun y hy=>(y3 y hy).2⟩
   ·cases ho
theorem Ark:∀(l:List Sh) {fs:List Field} {off Wc fuel:Nat} {cs:List Value} {xs:List (DataW H × List MemPlace)},Sh.P8 P off Wc fs l=true→
 (fs.mapM fun f=>DataW.trod enc P w base (fun _=>sp 0) held fuel f.type ((cs.drop f.offset).take (P.cellsOf f.type)))=some xs→∃ys,A0 (K5 w) ys ((cs.take Wc).drop off)∧Awq l ys
 | [],fs,off,Wc,fuel,cs,xs,ho,h=>by
   cases fs with
   |nil=>
    simp only[Sh.P8,beq_iff_eq]at ho;subst ho;exact⟨[],by simp[A0],rfl⟩
   |cons f fs=>simp[Sh.P8]at ho
 |s::l,fs,off,Wc,fuel,cs,xs,ho,h=>by
  cases fs with
  |nil=>simp[Sh.P8]at ho
  |cons f fs=>
   simp only[Sh.P8,Bool.and_eq_true,beq_iff_eq]at ho;obtain⟨⟨rfl,h1⟩,h2⟩:=ho;simp only[List.mapM_cons]at h;obtain⟨y,g1,g2⟩:=Option.bind_eq_some_iff.1 h;obtain⟨z,g3,g4⟩:=Option.bind_eq_some_iff.1 g2;obtain⟨u,g5,g6⟩:=Ab6 s h1 g1;obtain⟨us,g7,g8⟩:=Ark l (cs:=cs) h2 g3;refine⟨u::us,?_,u,us,rfl,g6,g8⟩;simp only[A0];have hle:=Ba9 h2;refine⟨_,_,?_,g5,g7⟩;have e1:(cs.drop f.offset).take (P.cellsOf f.type)=((cs.take Wc).drop f.offset).take (P.cellsOf f.type):=by
    rw[List.drop_take,List.take_take,Nat.min_eq_left (by omega)]
   rw[e1, ←List.drop_drop,List.take_append_drop]
end
end

open Go.ChangeShapes Go.Deep
theorem Tu{α β:Type}{f g:α→Option β}:∀{l:List α} {xs:List β},l.mapM f=some xs→(∀a∈l,∀y∈xs,f a=some y→g a=some y)→l.mapM g=some xs
 | [],xs,h,_=>by simpa using h
 |a::l,xs,h,hg=>by
  simp only[List.mapM_cons]at h ⊢;obtain⟨y,g1,g2⟩:=Option.bind_eq_some_iff.1 h;obtain⟨z,g3,g4⟩:=Option.bind_eq_some_iff.1 g2;cases g4;rw[hg a (List.mem_cons_self ..) y (List.mem_cons_self ..) g1];have:=Tu (l:=l) g3 fun b hb x hx=>hg b (List.mem_cons_of_mem _ hb) x (List.mem_cons_of_mem _ hx)
  simp[this]
section
variable{H:Type}{enc:TypeId × Value → H}{P:Program}{W W':World}{sp':Nat → Bool}{held:Bool}
theorem A6b(hk:∀(b:Nat) (o:Obj),W.heap[b]?=some o→W'.heap[b]?=some o){a:Addr}{v:Value}(h:W.cell? a=some v):W'.cell? a=some v:=by
 unfold World.cell? at h ⊢;split at h
 ·rename_i bl ty fz hb;rw[hk _ _ hb];exact h
 ·cases h
theorem A20(hk:∀(b:Nat) (o:Obj),W.heap[b]?=some o→W'.heap[b]?=some o){a:Addr}{n:Nat}{cs:List Value}(h:W.cells? 0 a n=some cs):W'.cells? 0 a n=some cs:=by
 unfold World.cells? at h ⊢;split at h
 ·rename_i h0;rw[if_pos h0];exact Tu h fun i _ y _ hy=>A6b hk hy
 ·cases h
theorem X4(hk:∀(b:Nat) (o:Obj),W.heap[b]?=some o→W'.heap[b]?=some o):∀(fuel:Nat) (sh:Sh) {t:TypeId} {cs:List Value} {x:DataW H × List MemPlace},sh.ok P t=true→
 DataW.trod enc P W 0 (fun _=>true) held fuel t cs=some x→(∀p∈x.2,sp' p.block=true)→DataW.trod enc P W' 0 sp' held fuel t cs=some x
 |0,sh,t,cs,x,ho,h,hp=>by simp[DataW.trod]at h
 |fuel+1,.int k,t,cs,x,ho,h,hp=>by
  simp only[Sh.ok]at ho;split at ho
  ·rename_i k' ht;obtain⟨n,rfl,rfl,hw⟩:=DataW.trod_int ht h;simp[DataW.trod,ht,hw]
  ·cases ho
 |fuel+1,.bool,t,cs,x,ho,h,hp=>by
  simp only[Sh.ok]at ho;split at ho
  ·rename_i ht;obtain⟨b,rfl,rfl⟩:=DataW.trod_bool ht h;simp[DataW.trod,ht]
  ·cases ho
 |fuel+1,.str,t,cs,x,ho,h,hp=>by
  simp only[Sh.ok]at ho;split at ho
  ·rename_i ht;obtain⟨s,rfl,rfl,hs⟩:=DataW.trod_string ht h;simp[DataW.trod,ht,hs]
  ·cases ho
 |fuel+1,.st l,t,cs,x,ho,h,hp=>by
  simp only[Sh.ok]at ho;split at ho
  ·rename_i fs ht;simp only[DataW.trod,ht]at h ⊢;split at h
   ·rename_i hl;rw[if_pos hl];obtain⟨xs,h1,rfl⟩:=Option.map_eq_some_iff.1 h;have fld:∀(l:List Sh) (fs:List Field) (off Wc:Nat) (xs:List (DataW H × List MemPlace)),Sh.P8 P off Wc fs l=true→
     (fs.mapM fun f=>DataW.trod enc P W 0 (fun _=>true) held fuel f.type ((cs.drop f.offset).take (P.cellsOf f.type)))=some xs→(∀y∈xs,∀p∈y.2,sp' p.block=true)→
     (fs.mapM fun f=>DataW.trod enc P W' 0 sp' held fuel f.type ((cs.drop f.offset).take (P.cellsOf f.type)))=some xs:=by
     intro l;induction l with
     |nil=>
      intro fs off Wc xs ho h hp;cases fs with
      |nil=>simpa using h
      |cons f fs=>simp[Sh.P8]at ho
     |cons s l ih=>
      intro fs off Wc xs ho h hp;cases fs with
      |nil=>simp[Sh.P8]at ho
      |cons f fs=>
       simp only[Sh.P8,Bool.and_eq_true,beq_iff_eq]at ho;simp only[List.mapM_cons]at h ⊢;obtain⟨y,g1,g2⟩:=Option.bind_eq_some_iff.1 h;obtain⟨z,g3,g4⟩:=Option.bind_eq_some_iff.1 g2;cases g4;rw[X4 hk fuel s ho.1.2 g1 (hp y (List.mem_cons_self ..))];have:=ih fs _ _ z ho.2 g3 fun y hy=>hp y (List.mem_cons_of_mem _ hy)
       simp[this]
    rw[fld l fs.toList 0 _ xs ho h1 fun y hy p hp'=>hp p (List.mem_flatMap.2 ⟨y,hy,hp'⟩)]
    rfl
   ·cases h
  ·cases ho
 |fuel+1,.ar sz n e,t,cs,x,ho,h,hp=>by
  simp only[Sh.ok]at ho;split at ho
  ·rename_i m e' ht;simp only[Bool.and_eq_true,beq_iff_eq]at ho;simp only[DataW.trod,ht]at h ⊢;split at h
   ·rename_i hl;rw[if_pos hl];obtain⟨xs,h1,rfl⟩:=Option.map_eq_some_iff.1 h;rw[Tu h1 fun i _ y hy h2=>X4 hk fuel e ho.2 h2 fun p hp'=>hp p (List.mem_flatMap.2 ⟨y,hy,hp'⟩)]
    rfl
   ·cases h
  ·cases ho
 |fuel+1,.sl sz e,t,cs,x,ho,h,hp=>by
  simp only[Sh.ok]at ho;split at ho
  ·rename_i e' ht;simp only[Bool.and_eq_true,beq_iff_eq,bne_iff_ne,ne_eq]at ho;obtain⟨⟨Bk,hz⟩,he⟩:=ho;have elem:∀{a:Addr} {i:Nat} {y:DataW H × List MemPlace},(∀p∈y.2,sp' p.block=true)→((W.cells? 0 (a.add (i*P.cellsOf e')) (P.cellsOf e')).bind (DataW.trod enc P W 0 (fun _=>true) held fuel e'))=some y→
    ((W'.cells? 0 (a.add (i*P.cellsOf e')) (P.cellsOf e')).bind (DataW.trod enc P W' 0 sp' held fuel e'))=some y:=by
    intro a i y hy h;obtain⟨E5,g1,g2⟩:=Option.bind_eq_some_iff.1 h;rw[A20 hk g1];exact X4 hk fuel e he g2 hy
   have Gg:cs=[.slice none 0 0]∨∃a len cap,cs=[.slice (some a) len cap]:=by
    rcases open_slice ht h with⟨h1,_⟩|⟨a,len,cap,_,_,_,_,h1,_⟩
    ·exact .inl h1
    ·exact .inr ⟨a,len,cap,h1⟩
   rcases Gg with rfl|⟨a,len,cap,rfl⟩
   ·simp only[DataW.trod,ht]at h ⊢;exact h
   ·simp only[DataW.trod,ht]at h ⊢;split at h
    ·rename_i hc;rw[if_pos hc];obtain⟨elems,g1,g2⟩:=Option.bind_eq_some_iff.1 h;obtain⟨rest,g3,rfl⟩:=Option.map_eq_some_iff.1 g2;have Gj:0<elems.length+rest.length→sp' a.block=true:=by
      intro h0;refine hp (.cell a.block (a.off+0)) (List.mem_append_left _ ?_);unfold MemPlace.row;refine List.mem_map.2 ⟨0,List.mem_range.2 (Nat.mul_pos h0 (by omega)),rfl⟩
     have hel:∀y∈elems++rest,∀p∈y.2,sp' p.block=true:=fun y hy p hp'=>hp p (List.mem_append_right _ (List.mem_flatMap.2 ⟨y,hy,hp'⟩))
     have k1:=Tu g1 fun i _ y hy h=>elem (hel y (List.mem_append_left _ hy)) h
     rw[k1];simp only[if_true]at g3;have k2:(if sp' a.block=true then(List.range (cap - len)).mapM fun j=>((W'.cells? 0 (a.add ((len+j)*P.cellsOf e')) (P.cellsOf e')).bind (DataW.trod enc P W' 0 sp' held fuel e'))else some [])=some rest:=by
      have k3:=Tu g3 fun j _ y hy h=>elem (hel y (List.mem_append_right _ hy)) h
      cases hs:sp' a.block with
      |true=>rw[if_pos rfl];exact k3
      |false=>
       rw[if_neg (by decide)]
       have hr0:rest=[]:=by
        cases rest with
        |nil=>rfl
        |cons r rs=>
         have:=Gj (by simp;omega)
         rw[hs]at this;cases this
       rw[hr0]
     simp only[Option.bind_some];rw[k2];rfl
    ·cases h
  ·cases ho
end

open Go.ChangeShapes Go.Deep Go.WideShapes Go.ChangeAt Go.RowKit
def Ag7(P:Program):List TypeId→List Sh→Bool
 | [],[]=>true
 |t::ts,s::l=>s.ok P t&&Ag7 P ts l
 |_,_=>false
section
variable{H:Type}{enc:TypeId × Value → H}{P:Program}{W W':World}
theorem Beq{sh:Sh}{t:TypeId}{x:I}{v:Value}{G:Mem}{b0:Nat}(ho:sh.ok P t=true)(hv:Value.okWide P W .any b0 t v)(hr:A1 G x v.cells.toList)(hf:Fits sh x):Aq G x v:=by
 unfold Aq;cases sh with
 |st l=>
  simp only[Sh.ok]at ho;split at ho
  ·rename_i fs ht;obtain⟨xs,rfl,_⟩:=hf;rw[if_pos (show(I.agg xs).isAgg=true from rfl)];unfold Value.okWide at hv;rw[ht]at hv;obtain⟨cs,rfl,_⟩:=hv;exact⟨cs,rfl,hr⟩
  ·cases ho
 |ar sz n e=>
  simp only[Sh.ok]at ho;split at ho
  ·rename_i m e' ht;obtain⟨xs,rfl,_⟩:=hf;rw[if_pos (show(I.arr sz xs).isAgg=true from rfl)];unfold Value.okWide at hv;rw[ht]at hv;obtain⟨cs,rfl,_⟩:=hv;exact⟨cs,rfl,hr⟩
  ·cases ho
 |_=>
  simp only[Sh.ok]at ho;split at ho<;>try(cases ho;done)
  rename_i ht;have hx:x.isAgg=false:=by
   obtain⟨_,rfl,_⟩:=hf;rfl
  rw[if_neg (by rw[hx];decide)]
  unfold Value.okWide at hv;rw[ht]at hv;cases v<;>first|exact hr|(exact absurd hv (by simp[Cell.okWide,Cell.ok,ht]))
theorem Aik{b0:Nat}:∀{shs:List Sh} {ts:List TypeId} {vs:List Value} {ds:List (DataW H)} {p:List MemPlace},Ag7 P ts shs=true→DataW.TrodAll enc P W 0 (fun _=>true) true ts vs ds p→
 (∀(j:Nat) t v,ts[j]?=some t→vs[j]?=some v→Value.okWide P W .any b0 t v)→∃xs:List I,Awq shs xs∧xs.length=vs.length∧∀(i:Nat) x v,xs[i]?=some x→vs[i]?=some v→Aq (K5 W) x v
 | [],[],[],[],p,_,_,_=>⟨[],rfl,rfl,by simp⟩
 |s::shs,t::ts,v::vs,d::ds,p,ho,h,hv=>by
  simp only[Ag7,Bool.and_eq_true]at ho;obtain⟨p1,q,⟨fuel,h1⟩,h2,_⟩:=h;obtain⟨x,g1,g2⟩:=Ab6 (sp:=fun _=>true) s ho.1 h1
  obtain⟨xs,g3,g4,g5⟩:=Aik ho.2 h2 fun j t' v' a b=>hv (j+1) t' v' a b
  refine⟨x::xs,⟨x,xs,rfl,g2,g3⟩,by simp[g4],?_⟩
  intro i x' v' a b;cases i with
  |zero=>cases a;cases b;exact Beq ho.1 (hv 0 t v rfl rfl) g1 g2
  |succ i=>exact g5 i x' v' a b
 | [],_::_,_,_,_,ho,_,_=>by cases ho
 |_::_,[],_,_,_,ho,_,_=>by simp[Ag7]at ho
 | [],[],_::_,_,_,_,h,_=>by simp[DataW.TrodAll]at h
 | [],[],[],_::_,_,_,h,_=>by simp[DataW.TrodAll]at h
 |_::_,_::_,[],_,_,_,h,_=>by simp[DataW.TrodAll]at h
 |_::_,_::_,_::_,[],_,_,h,_=>by simp[DataW.TrodAll]at h
theorem Aij{sp':Nat→Bool}(hk:∀(b:Nat) (o:Obj),W.heap[b]?=some o→W'.heap[b]?=some o):∀{shs:List Sh} {ts:List TypeId} {vs:List Value} {ds:List (DataW H)} {p:List MemPlace},Ag7 P ts shs=true→
 DataW.TrodAll enc P W 0 (fun _=>true) true ts vs ds p→(∀q∈p,sp' q.block=true)→DataW.TrodAll enc P W' 0 sp' true ts vs ds p
 | [],[],[],[],p,_,h,_=>h
 |s::shs,t::ts,v::vs,d::ds,p,ho,h,hp=>by
  simp only[Ag7,Bool.and_eq_true]at ho;obtain⟨p1,q,⟨fuel,h1⟩,h2,rfl⟩:=h;exact⟨p1,q,⟨fuel,X4 hk fuel s ho.1 h1 fun y hy=>hp y (List.mem_append_left _ hy)⟩,Aij hk ho.2 h2 fun y hy=>hp y (List.mem_append_right _ hy),rfl⟩
 | [],_::_,_,_,_,ho,_,_=>by cases ho
 |_::_,[],_,_,_,ho,_,_=>by simp[Ag7]at ho
 | [],[],_::_,_,_,_,h,_=>by simp[DataW.TrodAll]at h
 | [],[],[],_::_,_,_,h,_=>by simp[DataW.TrodAll]at h
 |_::_,_::_,[],_,_,_,h,_=>by simp[DataW.TrodAll]at h
 |_::_,_::_,_::_,[],_,_,h,_=>by simp[DataW.TrodAll]at h
theorem Bef{f:FuncId}{xs:List I}{args:Array Value}(hl:xs.length=args.toList.length)(Ay:∀(i:Nat) x v,xs[i]?=some x→args.toList[i]?=some v→Aq (K5 W) x v){outs:List SV}
 (h:Fn P f (xs.map SV.v) (Is (.v (.bool true)) outs)) (Bn8:Amb.p (K5 W)):
 Calls P f args W fun e W'=>e= .returned (.bool true)∧(∀(b:Nat) (o:Obj),W.heap[b]?=some o→W'.heap[b]?=some o)∧W'.os=W.os∧W'.output=W.output∧W.heap.size≤W'.heap.size:=by
 have:=h (K5 W) (fun _=>none) (fun _=>none) W args ⟨fun b o hb=>hb,fun b Bg hb=>(by cases hb),fun b b' Bg hb _=>(by cases hb),fun b o hb=>(by cases hb),rfl,rfl,rfl,Nat.le_refl _,fun b o hb=>(by cases hb),Bn8⟩
  (by simp[hl]) (by
    intro i sv hi;rw[List.getElem?_map]at hi;obtain⟨x,h1,rfl⟩:=Option.map_eq_some_iff.1 hi;refine⟨rfl,?_⟩;have Bb:i<args.toList.length:=by rw[←hl];exact(List.getElem?_eq_some_iff.1 h1).1
    have h2:args.toList[i]?=some (args.getD i undef):=by
     rw[List.getElem?_eq_getElem Bb];have An0:i<args.size:=by simpa using Bb
     simp[Array.getD,An0]
    exact Ay i x _ h1 h2)
 refine this.mono ?_;rintro e w' ⟨r,zs,c,G',σ',rfl,⟨rfl,_⟩,hG,Bu,_,hr,_⟩;refine⟨?_,fun b o hb=>Bu.fixed b o (hG b o hb),Bu.os,Bu.output,Bu.size⟩
 have Ci:Aq G' (.bool true) c:=hr;rw[Aq.bool]at Ci;rw[Ci]
theorem Beg{f:Func}{s:ChangeSpec}{fresh handsOn again:Bool}{args:Array Value}{ds gs:List (DataW H)}{before:List MemPlace}{shs:List Sh}{tb:TypeId}
 (A63:s.vars=[]) (Mx:∀ds:List (DataW H),ds.length=f.params.toList.length→s.fn H ds= {results:=[.lit (.bool true)],args:=ds}) (Asf:f.resultTypes= #[tb]) (hb:P.underlying tb=some .bool)
 (ho:Ag7 P f.params.toList shs=true) (hW:DataW.Whole enc P f.params.toList s.vars false W args.toList ds gs before)
 (hk:∀(b:Nat) (o:Obj),W.heap[b]?=some o→W'.heap[b]?=some o) (hos:W'.os=W.os) (Tj:W'.output=W.output):
 s.post enc P f false fresh handsOn again W args (.bool true) W':=by
 have hW0:=hW;obtain⟨p,q,hA,hV,rfl,hz,hn⟩:=hW;rw[A63]at hV;have hgs:gs=[]∧q=[]:=by
  cases gs with
  |nil=>exact⟨rfl,hV⟩
  |cons g gs=>exact hV.elim
 obtain⟨rfl,rfl⟩:=hgs;have hlen:ds.length=f.params.toList.length:=by
  have aux:∀(ts:List TypeId) (vs:List Value) (ds:List (DataW H)) (p:List MemPlace),DataW.TrodAll enc P W 0 (fun _=>true) true ts vs ds p→ds.length=ts.length:=by
   intro ts;induction ts with
   |nil=>intro vs ds p h;cases vs<;>cases ds<;>first|rfl|exact h.elim
   |cons t ts ih=>
    intro vs ds p h;cases vs with
    |nil=>cases ds<;>exact h.elim
    |cons v vs=>
     cases ds with
     |nil=>exact h.elim
     |cons d ds=>
      obtain⟨_,_,_,h2,_⟩:=h;simp[ih _ _ _ h2]
  exact aux _ _ _ _ hA
 have Pm:=Mx ds hlen;have Fg:∀sp':Nat→Bool,(∀x∈p,sp' x.block=true)→DataW.TrodAll enc P W' 0 sp' true f.params.toList args.toList ds p:=fun sp' h=>Aij hk ho hA h
 have hold:∀x∈p,x.block<W.heap.size:=fun x hx=>hW0.lt x (List.mem_append_left _ hx)
 have Da:∀b,b<W.heap.size→∃o,W.heap[b]?=some o∧W'.heap[b]?=some o:=fun b Br=>⟨_,Array.getElem?_eq_getElem Br,hk b _ (Array.getElem?_eq_getElem Br)⟩
 have hr:∀(b:Nat) (sp':Nat→Bool) (hd:Bool),DataW.TrodAll enc P W' b sp' hd f.resultTypes.toList ((Value.bool true).resultList f.resultTypes.size) [.lit (.bool true)] []:=by
  intro b sp' hd;rw[Asf];exact trodAll_cons_mk (shut_bool hb true) trodAll_mk0
 have A6y:W.keptBut W' fun _=>False:=by
  refine⟨hos,Tj,fun i hi=>?_⟩
  obtain⟨o,h1,h2⟩:=Da i hi;rw[h1,h2];cases o<;>simp
 refine⟨ds,[],p++[],[],p,[],hW0,?_,?_,?_,World.keptBut_mono (fun _ h=>h.elim) A6y,fun _=>?_⟩
 ·rw[List.append_nil,Pm];exact hr _ _ _
 ·rw[List.append_nil,Pm];exact Fg _ fun x hx=>by simpa using hold x hx
 ·rw[List.append_nil,Pm,A63];rfl
 ·refine⟨?_,_,[],([]++p)++[],⟨[]++p,[],trodAll_append (Fg _ (fun _ _=>rfl)) (hr 0 _ _),by rw[A63];rfl,rfl,?_,?_⟩,?_⟩
  ·intro j t r h1 h2;rw[Asf]at h1 h2;cases j with
   |zero=>
    cases h1;have:r= .bool true:=by
     have h3:[Value.bool true][0]?=some r:=h2;simpa using h3.symm
    subst this;exact okWide_bool_mk hb _
   |succ j=>simp at h1
  ·intro b off hp;have hp':MemPlace.cell b off∈p:=by simpa using hp
   have h0:=hz b off (by simpa using hp')
   obtain⟨o,h1,h2⟩:=Da b (hold _ hp');unfold World.frozen? at h0 ⊢;rw[h2];rw[h1]at h0;exact h0
  ·intro ha;cases ha
  ·intro x hx _;simpa using hx
end

open Go.ChangeShapes Go.Deep Go.WideShapes Go.ChangeAt Go.RowKit
section
variable{H:Type}{enc:TypeId × Value → H}{P:Program}{W:World}
end
end Go.Ab
