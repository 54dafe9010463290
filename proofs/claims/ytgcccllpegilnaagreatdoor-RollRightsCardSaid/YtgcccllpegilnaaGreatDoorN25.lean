/- Lemmas -/
import Derived.Test.YtgcccllpegilnaaGreatDoorL0
set_option linter.unusedVariables false
set_option linter.unusedSimpArgs false
set_option maxRecDepth 100000
set_option maxHeartbeats 40000000
namespace Go.Ab
open Go.Proofs
structure A8.Lo(r:A8):Prop where
 t:r.Be.length≤30
 u:r.Ag.length≤30
 x:r.Am.length≤30
 us:∀u∈r.Ag,u.A2.length≤30∧u.name.length≤1000
 xs:∀x∈r.Am,x.A4.length≤30∧x.name.length≤1000∧∀g∈x.A4,g.sp.f.length≤1000∧g.sp.t.length≤1000
theorem A8u(r:A8)(b:Bool)(hB:b=false↔r.Lo):Fn Tryz.prog Ab9 [.v r.Ae] (Is (.v (.bool b)) [.no]):=by
 refine Aar ?_ (by simp)
 have bad:¬r.Lo→b=true:=fun h=>by
  cases b with
  |true=>rfl
  |false=>exact absurd (hB.1 rfl) h
 by_cases h1:r.Be.length≤30∧r.Ag.length≤30∧r.Am.length≤30
 case neg=>
  obtain rfl:=bad fun h=>h1 ⟨h.t,h.u,h.x⟩
  repeat'((conv=>whnf);first|(apply aI<;>intro hb<;>first|exact absurd hb (by decide)|(exfalso;simp only[Az]at hb<;>omega)|((try rw[hb]);(try simp only[Ad]at hb)))|(refine eI ?_ ?_;focus (and_intros<;>first|omega|exact rfl|(simp;done)))|(intro Aa))
  all_goals(try(conv=>whnf))
  all_goals first|(apply dK<;>kernel_rfl)|contradiction|(exfalso;simp at*;omega)
 obtain⟨n1,n2,n3⟩:=h1;repeat'((conv=>whnf);first|(apply aI<;>intro hb<;>first|exact absurd hb (by decide)|(exfalso;simp only[Az]at hb<;>omega)|((try rw[hb]);(try simp only[Ad]at hb)))|(refine eI ?_ ?_;focus (and_intros<;>first|omega|exact rfl|(simp;done)))|(intro Aa))
 all_goals(try(conv=>whnf))
 all_goals first|contradiction|(exfalso;simp at*;omega)|skip
 refine Bq.by (X:=Nat) (fun k=>[(28,.v (.int .i64 k))]) (fun k=>k≤r.Ag.length∧∀u∈r.Ag.take k,u.A2.length≤30∧u.name.length≤1000) (fun k=>r.Ag.length - k)
  0 (by kernel_rfl) ⟨Nat.zero_le _,by simp⟩ ?_
 rintro k ⟨hk,hA⟩;by_cases Ce:k<r.Ag.length
 ·obtain⟨e,he⟩:∃e,r.Ag[k]?=some e:=⟨_,List.getElem?_eq_getElem Ce⟩;have Bb:¬decide ((k:Int)<((r.Ag.map Bc.Ae).length:Int))=false:=by simp[Ce]
  have V2:=List.mem_of_getElem? he;by_cases hq:e.A2.length≤30∧e.name.length≤1000
  case neg=>
   obtain rfl:=bad fun h=>hq (h.us e V2)
   repeat'((conv=>whnf);first|(apply aI<;>intro hb<;>first|exact absurd hb (by first|assumption|decide)|(exfalso;simp only[Az]at hb<;>omega)|((try rw[hb]);(try simp only[Ad]at hb)))|(refine eI ?_ ?_;focus (and_intros<;>first|omega|exact rfl|(simp;done)))|(intro Aa)|((try dsimp only);first|rw[Av he]|rw[An he]|rw[Ap he]))
   all_goals(try(conv=>whnf))
   all_goals first|(apply dK<;>kernel_rfl)|contradiction|(exfalso;simp at*;omega)
  have Mh:∀u∈r.Ag.take (k+1),u.A2.length≤30∧u.name.length≤1000:=fun u hu=>by
   rw[List.take_add_one,he]at hu;simp only[Option.toList_some,List.mem_append,List.mem_singleton]at hu;rcases hu with hu|rfl
   ·exact hA u hu
   ·exact hq
  obtain⟨q1,q2⟩:=hq;clear bad hB hA;repeat'((conv=>whnf);first|(apply aI<;>intro hb<;>first|exact absurd hb (by first|assumption|decide)|(exfalso;simp only[Az]at hb<;>omega)|((try rw[hb]);(try simp only[Ad]at hb)))|(refine eI ?_ ?_;focus (and_intros<;>first|omega|exact rfl|(simp;done)))|(intro Aa)|((try dsimp only);first|rw[Av he]|rw[An he]|rw[Ap he]))
  all_goals(try(conv=>whnf))
  all_goals first|contradiction|(exfalso;simp at*;omega)|skip
  refine Round.by (k+1) ?_ ⟨Ce,Mh⟩ (by omega)
  rw[Ak (n:=r.Ag.length) Ce (by simp only[maxLen];omega)]
  show norm _ _=Bt _ _
  kernel_rfl
 have Bb:¬decide ((k:Int)<((r.Ag.map Bc.Ae).length:Int))=true:=by simp;omega
 have hus:∀u∈r.Ag,u.A2.length≤30∧u.name.length≤1000:=fun u hu=>hA u (by rw[List.take_of_length_le (by omega)];exact hu)
 obtain rfl:k=r.Ag.length:=by omega
 clear hA hk Ce;repeat'((conv=>whnf);first|(apply aI<;>intro hb<;>first|exact absurd hb (by assumption)|((try rw[hb]);(try simp only[Ad]at hb)))|(refine eI ?_ ?_;focus (and_intros<;>first|omega|exact rfl|(simp;done)))|(intro Aa))
 all_goals(try(conv=>whnf))
 clear Bb;refine Bq.by (X:=Nat) (fun k=>[(46,.v (.int .i64 k))]) (fun k=>k≤r.Am.length∧∀x∈r.Am.take k,x.A4.length≤30∧x.name.length≤1000∧∀g∈x.A4,g.sp.f.length≤1000∧g.sp.t.length≤1000) (fun k=>r.Am.length - k)
  0 (by kernel_rfl) ⟨Nat.zero_le _,by simp⟩ ?_
 rintro k ⟨hk,hA⟩;by_cases Ce:k<r.Am.length
 case neg=>
  have Bb:¬decide ((k:Int)<((r.Am.map Bh.Ae).length:Int))=true:=by simp;omega
  have hxs:∀x∈r.Am,x.A4.length≤30∧x.name.length≤1000∧∀g∈x.A4,g.sp.f.length≤1000∧g.sp.t.length≤1000:=fun x hx=>hA x (by rw[List.take_of_length_le (by omega)];exact hx)
  obtain rfl:b=false:=hB.2 ⟨n1,n2,n3,hus,hxs⟩;repeat'((conv=>whnf);(apply aI<;>intro hb<;>first|exact absurd hb (by assumption)|((try rw[hb]);(try simp only[Ad]at hb))))
  all_goals(try(conv=>whnf))
  (apply dK<;>kernel_rfl)
 obtain⟨e,he⟩:∃e,r.Am[k]?=some e:=⟨_,List.getElem?_eq_getElem Ce⟩;have Bb:¬decide ((k:Int)<((r.Am.map Bh.Ae).length:Int))=false:=by simp[Ce]
 have V2:=List.mem_of_getElem? he;by_cases hq:e.A4.length≤30∧e.name.length≤1000
 case neg=>
  obtain rfl:=bad fun h=>hq ⟨(h.xs e V2).1,(h.xs e V2).2.1⟩
  repeat'((conv=>whnf);first|(apply aI<;>intro hb<;>first|exact absurd hb (by first|assumption|decide)|(exfalso;simp only[Az]at hb<;>omega)|((try rw[hb]);(try simp only[Ad]at hb)))|(refine eI ?_ ?_;focus (and_intros<;>first|omega|exact rfl|(simp;done)))|(intro Aa)|((try dsimp only);first|rw[Av he]|rw[An he]|rw[Ap he]))
  all_goals(try(conv=>whnf))
  all_goals first|(apply dK<;>kernel_rfl)|contradiction|(exfalso;simp at*;omega)
 have Mh:(∀g∈e.A4,g.sp.f.length≤1000∧g.sp.t.length≤1000)→∀x∈r.Am.take (k+1),x.A4.length≤30∧x.name.length≤1000∧∀g∈x.A4,g.sp.f.length≤1000∧g.sp.t.length≤1000:=fun hg u hu=>by
  rw[List.take_add_one,he]at hu;simp only[Option.toList_some,List.mem_append,List.mem_singleton]at hu;rcases hu with hu|rfl
  ·exact hA u hu
  ·exact⟨hq.1,hq.2,hg⟩
 have Bhu:¬(∀g∈e.A4,g.sp.f.length≤1000∧g.sp.t.length≤1000)→b=true:=fun h=>bad fun h'=>h (h'.xs e V2).2.2
 obtain⟨q1,q2⟩:=hq;clear bad hB hA;repeat'((conv=>whnf);first|(apply aI<;>intro hb<;>first|exact absurd hb (by first|assumption|decide)|(exfalso;simp only[Az]at hb<;>omega)|((try rw[hb]);(try simp only[Ad]at hb)))|(refine eI ?_ ?_;focus (and_intros<;>first|omega|exact rfl|(simp;done)))|(intro Aa)|((try dsimp only);first|rw[Av he]|rw[An he]|rw[Ap he]))
 all_goals(try(conv=>whnf))
 all_goals first|contradiction|(exfalso;simp at*;omega)|skip
 refine Bq.by (X:=Nat) (fun j=>[(63,.v (.int .i64 j))]) (fun j=>j≤e.A4.length∧∀g∈e.A4.take j,g.sp.f.length≤1000∧g.sp.t.length≤1000) (fun j=>e.A4.length - j)
  0 (by kernel_rfl) ⟨Nat.zero_le _,by simp⟩ ?_
 rintro j ⟨hj,hG⟩;by_cases Jw:j<e.A4.length
 case neg=>
  have Rk:¬decide ((j:Int)<((e.A4.map Dg.Ae).length:Int))=true:=by simp;omega
  have h2:=Mh fun g hg=>hG g (by rw[List.take_of_length_le (by omega)];exact hg)
  repeat'((conv=>whnf);(apply aI<;>intro hb<;>first|exact absurd hb (by assumption)|((try rw[hb]);(try simp only[Ad]at hb))))
  all_goals(try(conv=>whnf))
  refine Round.by (k+1) ?_ ⟨Ce,h2⟩ (by omega)
  rw[Ak (n:=r.Am.length) Ce (by simp only[maxLen];omega)]
  show norm _ _=Bt _ _
  kernel_rfl
 obtain⟨g,hg⟩:∃g,e.A4[j]?=some g:=⟨_,List.getElem?_eq_getElem Jw⟩;have Rk:¬decide ((j:Int)<((e.A4.map Dg.Ae).length:Int))=false:=by simp[Jw]
 have hg0:=List.mem_of_getElem? hg;by_cases hq:g.sp.f.length≤1000∧g.sp.t.length≤1000
 case neg=>
  obtain rfl:=Bhu fun h=>hq (h g hg0)
  repeat'((conv=>whnf);first|(apply aI<;>intro hb<;>first|exact absurd hb (by first|assumption|decide)|(exfalso;simp only[Az]at hb<;>omega)|((try rw[hb]);(try simp only[Ad]at hb)))|(refine eI ?_ ?_;focus (and_intros<;>first|omega|exact rfl|(simp;done)))|(intro Aa)|((try dsimp only);first|rw[Av hg]|rw[An hg]|rw[Ap hg]))
  all_goals(try(conv=>whnf))
  all_goals first|(apply dK<;>kernel_rfl)|contradiction|(exfalso;simp at*;omega)
 have h2:∀x∈e.A4.take (j+1),x.sp.f.length≤1000∧x.sp.t.length≤1000:=fun u hu=>by
  rw[List.take_add_one,hg]at hu;simp only[Option.toList_some,List.mem_append,List.mem_singleton]at hu;rcases hu with hu|rfl
  ·exact hG u hu
  ·exact hq
 obtain⟨q3,q4⟩:=hq;clear Bhu Mh hG;repeat'((conv=>whnf);first|(apply aI<;>intro hb<;>first|exact absurd hb (by first|assumption|decide)|(exfalso;simp only[Az]at hb<;>omega)|((try rw[hb]);(try simp only[Ad]at hb)))|(refine eI ?_ ?_;focus (and_intros<;>first|omega|exact rfl|(simp;done)))|(intro Aa)|((try dsimp only);first|rw[Av hg]|rw[An hg]|rw[Ap hg]))
 all_goals(try(conv=>whnf))
 all_goals first|contradiction|(exfalso;simp at*;omega)|skip
 refine Round.by (j+1) ?_ ⟨Jw,h2⟩ (by omega)
 rw[Ak (n:=e.A4.length) Jw (by simp only[maxLen];omega)]
 show norm _ _=Bt _ _
 kernel_rfl
end Go.Ab
