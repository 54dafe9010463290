/- Lemmas -/
import Derived.Test.YtgcccllpegilnaaGreatDoorA11
import Derived.Shelf.SlGeneric
import Derived.Shelf.Spec.SlicesInsert
import Derived.Lib.AppendZerosOnto
set_option linter.unusedVariables false
set_option linter.unusedSimpArgs false
set_option maxRecDepth 100000
set_option maxHeartbeats 40000000
namespace Go.Ab
open Go.Proofs
def bsGo (lt:Nat→Bool):Nat→Nat→Nat→Nat
 |0,i,_=>i
 |f+1,i,j=>if i<j then(if lt ((i+j) / 2)then bsGo lt f ((i+j) / 2+1) j else bsGo lt f i ((i+j) / 2))else i
theorem Af6 (lt:Nat→Bool):∀f i j,i≤j→i≤bsGo lt f i j∧bsGo lt f i j≤j
 |0,i,j,h=>⟨Nat.le_refl _,h⟩
 |f+1,i,j,h=>by
  unfold bsGo
  split
  ·split
   ·have:=Af6 lt f ((i+j) / 2+1) j (by omega);omega
   ·have:=Af6 lt f i ((i+j) / 2) (by omega);omega
  ·omega
def ltAt {α:Type} (nm:α→Ai) (l:List α) (n:Ai) (h:Nat):Bool:=(l[h]?).any fun x=>decide (nm x<n)
def Ch {α:Type} (nm:α→Ai) (l:List α) (n:Ai):Nat:=bsGo (ltAt nm l n) l.length 0 l.length
def Et {α:Type} (nm:α→Ai) (l:List α) (n:Ai):Bool:=(l[Ch nm l n]?).any fun x=>decide (nm x=n)
theorem S9 {α:Type} (nm:α→Ai) (l:List α) (n:Ai):Ch nm l n≤l.length:=(Af6 _ _ _ _ (Nat.zero_le _)).2
theorem Lv {α:Type} {nm:α→Ai} {l:List α} {n:Ai} (h:Et nm l n=true):∃x,l[Ch nm l n]?=some x∧nm x=n:=by
 unfold Et at h
 cases hx:l[Ch nm l n]? with
 |none=>rw[hx]at h;cases h
 |some x=>rw[hx]at h;exact⟨x,rfl,by simpa using h⟩
theorem Ann (a b:Ai):decide (cmpS a b<0)=decide (a<b):=by
 unfold cmpS
 by_cases h:a<b
 ·simp[h]
 ·by_cases h2:b<a<;>simp[h,h2]
theorem Ai2 (a b:Ai):decide (cmpS a b=0)=decide (a=b):=by
 unfold cmpS
 by_cases h:a<b
 ·have:a≠b:=by rintro rfl;exact absurd h (List.lt_irrefl a)
  simp[h,this]
 ·by_cases h2:b<a
  ·have:a≠b:=by rintro rfl;exact absurd h2 (List.lt_irrefl a)
   simp[h,h2,this]
  ·have:a=b:=List.le_antisymm (List.not_lt.1 h2) (List.not_lt.1 h)
   rw[if_neg h,if_neg h2]
   simp[this]
theorem Aqk {i j:Nat} (h:i+j≤9223372036854775807):IntKind.i64.wrap (shrI .u64 (IntKind.u64.wrap (IntKind.i64.wrap ((i:Int)+(j:Int)))) 1)=(((i+j) / 2:Nat):Int):=by
 have h1:IntKind.i64.wrap ((i:Int)+(j:Int))=((i+j:Nat):Int):=by rw[IntKind.wrap_i64];omega
 have h2:IntKind.u64.wrap ((i+j:Nat):Int)=((i+j:Nat):Int):=by simp[IntKind.wrap,IntKind.bits,IntKind.signed];omega
 rw[h1,h2]
 have h3:shrI .u64 ((i+j:Nat):Int) 1=(((i+j) / 2:Nat):Int):=(show Int.fdiv ((i+j:Nat):Int) ((2:Nat):Int)=_ from(Int.ofNat_fdiv _ _).symm)
 rw[h3,IntKind.wrap_i64]
 omega
theorem Nw (x:Ten):Fn Tryz.prog He [.v x.toI] (Is (.v (.str x.name)) [.no]):=by
 refine Aj6 ?_ (by simp)
 repeat'((conv=>whnf);(refine eI ?_ ?_;focus (and_intros<;>first|omega|exact rfl|(simp;done))))
 all_goals(try(conv=>whnf))
 exact Done.mk ⟨rfl,by kernel_rfl⟩ (by kernel_rfl)
def getT (l:List Ten) (n:Ai):Ten × Bool:=match l.find? (fun t=>decide (t.name=n))with
 |some x=>(x,true)
 |none=>(⟨[],0,0⟩,false)
def Yy (n:Ai) (_:Unit) (e:Ten):Unit ⊕ (Ten × Bool):=if e.name=n then .inr (e,true)else .inl ()
theorem Ayc (n:Ai):∀(l:List Ten) (u:Unit),runL (Yy n) (fun _=>((⟨[],0,0⟩:Ten),false)) l u=getT l n
 | [],_=>rfl
 |a::r,u=>by
  rw[Kh]
  by_cases h:a.name=n
  ·simp[Yy,h,aft,getT]
  ·have:=Ayc n r ()
   simp[Yy,h,aft,getT,this]
theorem Bcd (l:List Ten) (n:Ai) (hl:l.length≤10000):Fn Tryz.prog Aec [.v (.list (l.map Ten.toI)),.v (.str n),.v (.fn He)] (Is (.tup [.i (getT l n).1.toI,.i (.bool (getT l n).2)]) [.no,.no,.no]):=by
 refine Ado ?_ (by simp)
 have hm:l.length≤maxLen:=by simp only[maxLen];omega
 have hAns:runL (Yy n) (fun _=>((⟨[],0,0⟩:Ten),false)) l ()=getT l n:=Ayc n l ()
 generalize getT l n=A at hAns ⊢
 repeat'((conv=>whnf);first|(refine eI ?_ ?_;focus (and_intros<;>exact rfl))|(intro hfact))
 all_goals(try(conv=>whnf))
 refine each (l) _ _ _ (fun k s=>[(13,.v (.int .i64 k))]) (fun k s=>True) () (by kernel_rfl) (by simp) hAns ?_ ?_<;>clear hAns
 ·rintro k ⟨⟩ e he hk hi hA
  dsimp only at hi hA ⊢
  repeat'((conv=>whnf);first|(apply aI<;>intro hb<;>first|(exfalso;simp only[Az]at hb<;>omega)|((try rw[hb]);(try simp only[Ad]at hb);(try subst hb)))|(refine eI ?_ ?_;focus (and_intros<;>first|omega|exact rfl|(intro _ hh;cases hh;done)|(simp;done)|decide))|((try dsimp only);first|rw[Av he]|rw[An he]|rw[Ap he])|(refine CallWp.mk ⟨_,Nw _,?_⟩;rintro _ _ ⟨rfl,rfl⟩))
  all_goals(try(conv=>whnf))
  all_goals first
   |(simp[-List.append_assoc,Yy, *]at hA
     first
     |(refine RoundE.aft hA ?_ ?_
       ·(try dsimp only);(try rw[Ak hk hm]);(try simp only[List.map_append,List.map_cons,List.map_nil])
        show norm _ _=upd _ _
        kernel_rfl
       ·first|trivial|omega|((try dsimp only);simp only[Az];omega)|((try dsimp only);(try simp at*);omega))
     |(refine Done.mk ⟨?_,by kernel_rfl⟩ (by kernel_rfl)
       have hA':=hA
       first|(rw[←hA'];first|rfl|kernel_rfl|(simp only[List.map_append,List.map_cons,List.map_nil];first|rfl|kernel_rfl))|(rw[←Ff hA'];first|rfl|kernel_rfl|(simp only[List.map_append,List.map_cons,List.map_nil];first|rfl|kernel_rfl))|(simp at hA' ⊢;simp[*];done))
    )
 ·rintro⟨⟩ k rfl hi hA
  dsimp only at hi hA ⊢
  repeat'((conv=>whnf);first|(apply aI<;>intro hb<;>first|(exfalso;simp only[Az]at hb<;>omega)|((try rw[hb]);(try simp only[Ad]at hb)))|(refine eI ?_ ?_;focus (and_intros<;>first|omega|exact rfl)))
  all_goals(try(conv=>whnf))
  subst hA
  exact Done.mk ⟨rfl,by kernel_rfl⟩ (by kernel_rfl)
theorem Wt (x:Ten) (n:Ai):Fn Tryz.prog N6 [.v x.toI,.v (.str n),.rp (.fn He)] (Is (.v (.int .i64 (cmpS x.name n))) [.no,.no,.no]):=by
 refine Xt ?_ (by simp)
 repeat'((conv=>whnf);first|(refine eI ?_ ?_;focus (and_intros<;>first|omega|exact rfl|(intro _ hh;cases hh;done)|(simp;done)|decide))|(refine CallWp.mk ⟨_,Nw _,?_⟩;rintro _ _ ⟨rfl,rfl⟩)|(refine CallWp.mk ⟨_,T1 _ _,?_⟩;rintro _ _ ⟨rfl,rfl⟩))
 all_goals(try(conv=>whnf))
 exact Done.mk ⟨rfl,by kernel_rfl⟩ (by kernel_rfl)
theorem A8o (l:List Ten) (n:Ai) (hl:l.length≤100000):Fn Tryz.prog Hr [.v (.list (l.map Ten.toI)),.v (.str n),.v (.clo N6 [.fn He])] (Is (.tup [.i (.int .i64 (Ch Ten.name l n)),.i (.bool (Et Ten.name l n))]) [.no,.no,.no]):=by
 refine Hq ?_ (by simp)
 repeat'((conv=>whnf);first|(refine eI ?_ ?_;focus (and_intros<;>exact rfl))|(intro hfact))
 all_goals(try(conv=>whnf))
 obtain⟨A,hA⟩:∃A,A=Ch Ten.name l n:=⟨_,rfl⟩
 have hAF:Et Ten.name l n=(l[A]?).any (fun x=>decide (x.name=n)):=by rw[hA];rfl
 have hAle:A≤l.length:=by rw[hA];exact S9 _ _ _
 rw[hAF, ←hA]
 unfold Ch at hA
 refine LoopWq.by (X:=Nat × Nat × Nat) (fun x=>[(9,.v (.int .i64 x.2.1)),(10,.v (.int .i64 x.2.2))]) (fun x=>x.2.1≤x.2.2∧x.2.2≤l.length∧x.2.2 - x.2.1≤x.1∧bsGo (ltAt Ten.name l n) x.1 x.2.1 x.2.2=A) (fun x=>x.2.2 - x.2.1)
  (l.length,0,l.length) (by rw[List.length_map];kernel_rfl) ⟨Nat.zero_le _,Nat.le_refl _,Nat.sub_le _ _,hA.symm⟩ ?_
 rintro⟨f,i,j⟩ ⟨h1,h2,h3,h4⟩
 dsimp only at h1 h2 h3 h4 ⊢
 by_cases hij:i<j
 case neg=>
  have hlt:¬decide ((i:Int)<(j:Int))=true:=by simp;omega
  obtain rfl:i=A:=by
   rw[←h4]
   cases f with
   |zero=>rfl
   |succ f=>rw[bsGo,if_neg hij]
  by_cases hil:i<l.length
  ·obtain⟨e,he⟩:∃e,l[i]?=some e:=⟨_,List.getElem?_eq_getElem hil⟩
   have hl2:¬decide ((i:Int)<((l.map Ten.toI).length:Int))=false:=by simp[hil]
   have hl3:¬decide ((i:Int)<(l.length:Int))=false:=by simp[hil]
   rw[he]
   simp only[Option.any_some]
   repeat'((conv=>whnf);first|(apply aI<;>intro hb<;>first|exact absurd hb (by first|assumption|decide)|((try rw[hb]);(try simp only[Ad]at hb)))|(refine eI ?_ ?_;focus (and_intros<;>first|omega|exact rfl|(simp;done)))|((try dsimp only);first|rw[Av he]|rw[An he]|rw[Ap he])|(refine CallWp.mk ⟨_,Wt _ _,?_⟩;rintro _ _ ⟨rfl,rfl⟩))
   all_goals(try(conv=>whnf))
   refine Done.mk ⟨?_,by kernel_rfl⟩ (by kernel_rfl)
   rw[←Ai2]
   rfl
  ·have hl2:¬decide ((i:Int)<((l.map Ten.toI).length:Int))=true:=by simp;omega
   have hl3:¬decide ((i:Int)<(l.length:Int))=true:=by simp;omega
   rw[List.getElem?_eq_none (by omega)]
   simp only[Option.any_none]
   repeat'((conv=>whnf);(apply aI<;>intro hb<;>first|exact absurd hb (by first|assumption|decide)|((try rw[hb]);(try simp only[Ad]at hb))))
   all_goals(try(conv=>whnf))
   (apply dK<;>kernel_rfl)
 have hlt:¬decide ((i:Int)<(j:Int))=false:=by simp[hij]
 obtain⟨g,rfl⟩:∃g,f=g+1:=⟨f - 1,by omega⟩
 rw[bsGo,if_pos hij]at h4
 have hmid:=Aqk (i:=i) (j:=j) (by omega)
 obtain⟨h,hh⟩:∃h,h=(i+j) / 2:=⟨_,rfl⟩
 rw[←hh]at hmid h4
 have hhj:h<j:=by omega
 obtain⟨e,he⟩:∃e,l[h]?=some e:=⟨_,List.getElem?_eq_getElem (by omega)⟩
 have hle:ltAt Ten.name l n h=decide (e.name<n):=by unfold ltAt;rw[he];rfl
 have hw:IntKind.i64.wrap ((h:Int)+1)=((h+1:Nat):Int):=Ak (n:=1000000) (by omega) (by simp only[maxLen];omega)
 rw[hle, ←Ann]at h4
 by_cases hc:cmpS e.name n<0
 ·have hb:¬decide (cmpS e.name n<0)=false:=by simp[hc]
  rw[if_pos (by simpa using hc)]at h4
  repeat'((conv=>whnf);first|(apply aI<;>intro hb<;>first|exact absurd hb (by assumption)|((try rw[hb]);(try simp only[Ad]at hb)))|(refine eI ?_ ?_;focus (and_intros<;>first|omega|exact rfl|(simp;done)))|((try dsimp only);rw[hmid])|((try dsimp only);first|rw[Av he]|rw[An he]|rw[Ap he])|(refine CallWp.mk ⟨_,Wt _ _,?_⟩;rintro _ _ ⟨rfl,rfl⟩)|((try dsimp only);rw[hw]))
  all_goals(try(conv=>whnf))
  refine Round.by (g,h+1,j) ?_ ⟨by dsimp only;omega,h2,by dsimp only;omega,h4⟩ (by dsimp only;omega)
  dsimp only
  show norm _ _=upd _ _
  kernel_rfl
 ·have hb:¬decide (cmpS e.name n<0)=true:=by simp[hc]
  rw[if_neg (by simpa using hc)]at h4
  repeat'((conv=>whnf);first|(apply aI<;>intro hb<;>first|exact absurd hb (by assumption)|((try rw[hb]);(try simp only[Ad]at hb)))|(refine eI ?_ ?_;focus (and_intros<;>first|omega|exact rfl|(simp;done)))|((try dsimp only);rw[hmid])|((try dsimp only);first|rw[Av he]|rw[An he]|rw[Ap he])|(refine CallWp.mk ⟨_,Wt _ _,?_⟩;rintro _ _ ⟨rfl,rfl⟩))
  all_goals(try(conv=>whnf))
  refine Round.by (g,i,h) ?_ ⟨by dsimp only;omega,by dsimp only;omega,by dsimp only;omega,h4⟩ (by dsimp only;omega)
  dsimp only
  show norm _ _=upd _ _
  kernel_rfl
theorem A12 (l:List Ten) (n:Ai) (hl:l.length≤100000):Fn Tryz.prog Ach [.v (.list (l.map Ten.toI)),.v (.str n),.v (.fn He)] (Is (.tup [.i (.int .i64 (Ch Ten.name l n)),.i (.bool (Et Ten.name l n))]) [.no,.no,.no]):=by
 refine Aaz ?_ (by simp)
 repeat'((conv=>whnf);first|(refine eI ?_ ?_;focus (and_intros<;>first|(intro _ hh;cases hh;done)|(simp;done)|decide))|(refine CallWp.mk ⟨_,(A8o l n hl),?_⟩;rintro _ _ ⟨rfl,rfl⟩))
 all_goals(try(conv=>whnf))
 exact Done.mk ⟨rfl,by kernel_rfl⟩ (by kernel_rfl)
theorem Aok (l:List I) (h:∀u∈l,u.size=3) (hl:l.length≤100000):Fn Tryz.prog M6 [.v (.list l)] (Is (.vec Cc 3 l) [.no]):=by
 refine Mp ?_ (by simp)
 repeat'((conv=>whnf);first|(refine aI (fun hb=>?_) (fun hb=>?_)<;>((try rw[hb]);(try subst hb)))|(refine eI ?_ ?_;focus (and_intros<;>first|omega|exact rfl|(simp only[Az];omega)|(simp;done)))|(intro hfact))
 all_goals(try(conv=>whnf))
 ·refine Done.mk ⟨congrArg (fun l=>SV.vec Cc 3 l) ?_,by kernel_rfl⟩ (by kernel_rfl)
  exact(hfact rfl).symm
 ·exact Done.mk ⟨congrArg (fun l=>SV.vec Cc 3 l) (List.nil_append _),by kernel_rfl⟩ (by kernel_rfl)
theorem R8 (x:Usr):Fn Tryz.prog Js [.v x.toI] (Is (.v (.str x.name)) [.no]):=by
 refine Aod ?_ (by simp)
 repeat'((conv=>whnf);(refine eI ?_ ?_;focus (and_intros<;>first|omega|exact rfl|(simp;done))))
 all_goals(try(conv=>whnf))
 exact Done.mk ⟨rfl,by kernel_rfl⟩ (by kernel_rfl)
def getU (l:List Usr) (n:Ai):Usr × Bool:=match l.find? (fun t=>decide (t.name=n))with
 |some x=>(x,true)
 |none=>(⟨[],[],[],[],[]⟩,false)
def Yz (n:Ai) (_:Unit) (e:Usr):Unit ⊕ (Usr × Bool):=if e.name=n then .inr (e,true)else .inl ()
theorem Ayd (n:Ai):∀(l:List Usr) (u:Unit),runL (Yz n) (fun _=>((⟨[],[],[],[],[]⟩:Usr),false)) l u=getU l n
 | [],_=>rfl
 |a::r,u=>by
  rw[Kh]
  by_cases h:a.name=n
  ·simp[Yz,h,aft,getU]
  ·have:=Ayd n r ()
   simp[Yz,h,aft,getU,this]
theorem Bce (l:List Usr) (n:Ai) (hl:l.length≤10000):Fn Tryz.prog Aio [.v (.list (l.map Usr.toI)),.v (.str n),.v (.fn Js)] (Is (.tup [.i (getU l n).1.toI,.i (.bool (getU l n).2)]) [.no,.no,.no]):=by
 refine Ag5 ?_ (by simp)
 have hm:l.length≤maxLen:=by simp only[maxLen];omega
 have hAns:runL (Yz n) (fun _=>((⟨[],[],[],[],[]⟩:Usr),false)) l ()=getU l n:=Ayd n l ()
 generalize getU l n=A at hAns ⊢
 repeat'((conv=>whnf);first|(refine eI ?_ ?_;focus (and_intros<;>exact rfl))|(intro hfact))
 all_goals(try(conv=>whnf))
 refine each (l) _ _ _ (fun k s=>[(13,.v (.int .i64 k))]) (fun k s=>True) () (by kernel_rfl) (by simp) hAns ?_ ?_<;>clear hAns
 ·rintro k ⟨⟩ e he hk hi hA
  dsimp only at hi hA ⊢
  repeat'((conv=>whnf);first|(apply aI<;>intro hb<;>first|(exfalso;simp only[Az]at hb<;>omega)|((try rw[hb]);(try simp only[Ad]at hb);(try subst hb)))|(refine eI ?_ ?_;focus (and_intros<;>first|omega|exact rfl|(intro _ hh;cases hh;done)|(simp;done)|decide))|((try dsimp only);first|rw[Av he]|rw[An he]|rw[Ap he])|(refine CallWp.mk ⟨_,R8 _,?_⟩;rintro _ _ ⟨rfl,rfl⟩))
  all_goals(try(conv=>whnf))
  all_goals first
   |(simp[-List.append_assoc,Yz, *]at hA
     first
     |(refine RoundE.aft hA ?_ ?_
       ·(try dsimp only);(try rw[Ak hk hm]);(try simp only[List.map_append,List.map_cons,List.map_nil])
        show norm _ _=upd _ _
        kernel_rfl
       ·first|trivial|omega|((try dsimp only);simp only[Az];omega)|((try dsimp only);(try simp at*);omega))
     |(refine Done.mk ⟨?_,by kernel_rfl⟩ (by kernel_rfl)
       have hA':=hA
       first|(rw[←hA'];first|rfl|kernel_rfl|(simp only[List.map_append,List.map_cons,List.map_nil];first|rfl|kernel_rfl))|(rw[←Ff hA'];first|rfl|kernel_rfl|(simp only[List.map_append,List.map_cons,List.map_nil];first|rfl|kernel_rfl))|(simp at hA' ⊢;simp[*];done))
    )
 ·rintro⟨⟩ k rfl hi hA
  dsimp only at hi hA ⊢
  repeat'((conv=>whnf);first|(apply aI<;>intro hb<;>first|(exfalso;simp only[Az]at hb<;>omega)|((try rw[hb]);(try simp only[Ad]at hb)))|(refine eI ?_ ?_;focus (and_intros<;>first|omega|exact rfl)))
  all_goals(try(conv=>whnf))
  subst hA
  exact Done.mk ⟨rfl,by kernel_rfl⟩ (by kernel_rfl)
theorem Wu (x:Usr) (n:Ai):Fn Tryz.prog Ro [.v x.toI,.v (.str n),.rp (.fn Js)] (Is (.v (.int .i64 (cmpS x.name n))) [.no,.no,.no]):=by
 refine Aa0 ?_ (by simp)
 repeat'((conv=>whnf);first|(refine eI ?_ ?_;focus (and_intros<;>first|omega|exact rfl|(intro _ hh;cases hh;done)|(simp;done)|decide))|(refine CallWp.mk ⟨_,R8 _,?_⟩;rintro _ _ ⟨rfl,rfl⟩)|(refine CallWp.mk ⟨_,T1 _ _,?_⟩;rintro _ _ ⟨rfl,rfl⟩))
 all_goals(try(conv=>whnf))
 exact Done.mk ⟨rfl,by kernel_rfl⟩ (by kernel_rfl)
theorem A8p (l:List Usr) (n:Ai) (hl:l.length≤100000):Fn Tryz.prog J0 [.v (.list (l.map Usr.toI)),.v (.str n),.v (.clo Ro [.fn Js])] (Is (.tup [.i (.int .i64 (Ch Usr.name l n)),.i (.bool (Et Usr.name l n))]) [.no,.no,.no]):=by
 refine Jp ?_ (by simp)
 repeat'((conv=>whnf);first|(refine eI ?_ ?_;focus (and_intros<;>exact rfl))|(intro hfact))
 all_goals(try(conv=>whnf))
 obtain⟨A,hA⟩:∃A,A=Ch Usr.name l n:=⟨_,rfl⟩
 have hAF:Et Usr.name l n=(l[A]?).any (fun x=>decide (x.name=n)):=by rw[hA];rfl
 have hAle:A≤l.length:=by rw[hA];exact S9 _ _ _
 rw[hAF, ←hA]
 unfold Ch at hA
 refine LoopWq.by (X:=Nat × Nat × Nat) (fun x=>[(9,.v (.int .i64 x.2.1)),(10,.v (.int .i64 x.2.2))]) (fun x=>x.2.1≤x.2.2∧x.2.2≤l.length∧x.2.2 - x.2.1≤x.1∧bsGo (ltAt Usr.name l n) x.1 x.2.1 x.2.2=A) (fun x=>x.2.2 - x.2.1)
  (l.length,0,l.length) (by rw[List.length_map];kernel_rfl) ⟨Nat.zero_le _,Nat.le_refl _,Nat.sub_le _ _,hA.symm⟩ ?_
 rintro⟨f,i,j⟩ ⟨h1,h2,h3,h4⟩
 dsimp only at h1 h2 h3 h4 ⊢
 by_cases hij:i<j
 case neg=>
  have hlt:¬decide ((i:Int)<(j:Int))=true:=by simp;omega
  obtain rfl:i=A:=by
   rw[←h4]
   cases f with
   |zero=>rfl
   |succ f=>rw[bsGo,if_neg hij]
  by_cases hil:i<l.length
  ·obtain⟨e,he⟩:∃e,l[i]?=some e:=⟨_,List.getElem?_eq_getElem hil⟩
   have hl2:¬decide ((i:Int)<((l.map Usr.toI).length:Int))=false:=by simp[hil]
   have hl3:¬decide ((i:Int)<(l.length:Int))=false:=by simp[hil]
   rw[he]
   simp only[Option.any_some]
   repeat'((conv=>whnf);first|(apply aI<;>intro hb<;>first|exact absurd hb (by first|assumption|decide)|((try rw[hb]);(try simp only[Ad]at hb)))|(refine eI ?_ ?_;focus (and_intros<;>first|omega|exact rfl|(simp;done)))|((try dsimp only);first|rw[Av he]|rw[An he]|rw[Ap he])|(refine CallWp.mk ⟨_,Wu _ _,?_⟩;rintro _ _ ⟨rfl,rfl⟩))
   all_goals(try(conv=>whnf))
   refine Done.mk ⟨?_,by kernel_rfl⟩ (by kernel_rfl)
   rw[←Ai2]
   rfl
  ·have hl2:¬decide ((i:Int)<((l.map Usr.toI).length:Int))=true:=by simp;omega
   have hl3:¬decide ((i:Int)<(l.length:Int))=true:=by simp;omega
   rw[List.getElem?_eq_none (by omega)]
   simp only[Option.any_none]
   repeat'((conv=>whnf);(apply aI<;>intro hb<;>first|exact absurd hb (by first|assumption|decide)|((try rw[hb]);(try simp only[Ad]at hb))))
   all_goals(try(conv=>whnf))
   (apply dK<;>kernel_rfl)
 have hlt:¬decide ((i:Int)<(j:Int))=false:=by simp[hij]
 obtain⟨g,rfl⟩:∃g,f=g+1:=⟨f - 1,by omega⟩
 rw[bsGo,if_pos hij]at h4
 have hmid:=Aqk (i:=i) (j:=j) (by omega)
 obtain⟨h,hh⟩:∃h,h=(i+j) / 2:=⟨_,rfl⟩
 rw[←hh]at hmid h4
 have hhj:h<j:=by omega
 obtain⟨e,he⟩:∃e,l[h]?=some e:=⟨_,List.getElem?_eq_getElem (by omega)⟩
 have hle:ltAt Usr.name l n h=decide (e.name<n):=by unfold ltAt;rw[he];rfl
 have hw:IntKind.i64.wrap ((h:Int)+1)=((h+1:Nat):Int):=Ak (n:=1000000) (by omega) (by simp only[maxLen];omega)
 rw[hle, ←Ann]at h4
 by_cases hc:cmpS e.name n<0
 ·have hb:¬decide (cmpS e.name n<0)=false:=by simp[hc]
  rw[if_pos (by simpa using hc)]at h4
  repeat'((conv=>whnf);first|(apply aI<;>intro hb<;>first|exact absurd hb (by assumption)|((try rw[hb]);(try simp only[Ad]at hb)))|(refine eI ?_ ?_;focus (and_intros<;>first|omega|exact rfl|(simp;done)))|((try dsimp only);rw[hmid])|((try dsimp only);first|rw[Av he]|rw[An he]|rw[Ap he])|(refine CallWp.mk ⟨_,Wu _ _,?_⟩;rintro _ _ ⟨rfl,rfl⟩)|((try dsimp only);rw[hw]))
  all_goals(try(conv=>whnf))
  refine Round.by (g,h+1,j) ?_ ⟨by dsimp only;omega,h2,by dsimp only;omega,h4⟩ (by dsimp only;omega)
  dsimp only
  show norm _ _=upd _ _
  kernel_rfl
 ·have hb:¬decide (cmpS e.name n<0)=true:=by simp[hc]
  rw[if_neg (by simpa using hc)]at h4
  repeat'((conv=>whnf);first|(apply aI<;>intro hb<;>first|exact absurd hb (by assumption)|((try rw[hb]);(try simp only[Ad]at hb)))|(refine eI ?_ ?_;focus (and_intros<;>first|omega|exact rfl|(simp;done)))|((try dsimp only);rw[hmid])|((try dsimp only);first|rw[Av he]|rw[An he]|rw[Ap he])|(refine CallWp.mk ⟨_,Wu _ _,?_⟩;rintro _ _ ⟨rfl,rfl⟩))
  all_goals(try(conv=>whnf))
  refine Round.by (g,i,h) ?_ ⟨by dsimp only;omega,by dsimp only;omega,by dsimp only;omega,h4⟩ (by dsimp only;omega)
  dsimp only
  show norm _ _=upd _ _
  kernel_rfl
theorem T4 (l:List Usr) (n:Ai) (hl:l.length≤100000):Fn Tryz.prog Af4 [.v (.list (l.map Usr.toI)),.v (.str n),.v (.fn Js)] (Is (.tup [.i (.int .i64 (Ch Usr.name l n)),.i (.bool (Et Usr.name l n))]) [.no,.no,.no]):=by
 refine Afm ?_ (by simp)
 repeat'((conv=>whnf);first|(refine eI ?_ ?_;focus (and_intros<;>first|(intro _ hh;cases hh;done)|(simp;done)|decide))|(refine CallWp.mk ⟨_,(A8p l n hl),?_⟩;rintro _ _ ⟨rfl,rfl⟩))
 all_goals(try(conv=>whnf))
 exact Done.mk ⟨rfl,by kernel_rfl⟩ (by kernel_rfl)
theorem Ate (l:List I) (h:∀u∈l,u.size=5) (hl:l.length≤100000):Fn Tryz.prog Re [.v (.list l)] (Is (.vec B3 5 l) [.no]):=by
 refine P7 ?_ (by simp)
 repeat'((conv=>whnf);first|(refine aI (fun hb=>?_) (fun hb=>?_)<;>((try rw[hb]);(try subst hb)))|(refine eI ?_ ?_;focus (and_intros<;>first|omega|exact rfl|(simp only[Az];omega)|(simp;done)))|(intro hfact))
 all_goals(try(conv=>whnf))
 ·refine Done.mk ⟨congrArg (fun l=>SV.vec B3 5 l) ?_,by kernel_rfl⟩ (by kernel_rfl)
  exact(hfact rfl).symm
 ·exact Done.mk ⟨congrArg (fun l=>SV.vec B3 5 l) (List.nil_append _),by kernel_rfl⟩ (by kernel_rfl)
theorem R7 (x:Rol):Fn Tryz.prog Jr [.v x.toI] (Is (.v (.str x.name)) [.no]):=by
 refine Aoc ?_ (by simp)
 repeat'((conv=>whnf);(refine eI ?_ ?_;focus (and_intros<;>first|omega|exact rfl|(simp;done))))
 all_goals(try(conv=>whnf))
 exact Done.mk ⟨rfl,by kernel_rfl⟩ (by kernel_rfl)
def getR (l:List Rol) (n:Ai):Rol × Bool:=match l.find? (fun t=>decide (t.name=n))with
 |some x=>(x,true)
 |none=>(⟨[],[],[]⟩,false)
def Yx (n:Ai) (_:Unit) (e:Rol):Unit ⊕ (Rol × Bool):=if e.name=n then .inr (e,true)else .inl ()
theorem Ayb (n:Ai):∀(l:List Rol) (u:Unit),runL (Yx n) (fun _=>((⟨[],[],[]⟩:Rol),false)) l u=getR l n
 | [],_=>rfl
 |a::r,u=>by
  rw[Kh]
  by_cases h:a.name=n
  ·simp[Yx,h,aft,getR]
  ·have:=Ayb n r ()
   simp[Yx,h,aft,getR,this]
theorem Bcc (l:List Rol) (n:Ai) (hl:l.length≤10000):Fn Tryz.prog Ain [.v (.list (l.map Rol.toI)),.v (.str n),.v (.fn Jr)] (Is (.tup [.i (getR l n).1.toI,.i (.bool (getR l n).2)]) [.no,.no,.no]):=by
 refine Ag4 ?_ (by simp)
 have hm:l.length≤maxLen:=by simp only[maxLen];omega
 have hAns:runL (Yx n) (fun _=>((⟨[],[],[]⟩:Rol),false)) l ()=getR l n:=Ayb n l ()
 generalize getR l n=A at hAns ⊢
 repeat'((conv=>whnf);first|(refine eI ?_ ?_;focus (and_intros<;>exact rfl))|(intro hfact))
 all_goals(try(conv=>whnf))
 refine each (l) _ _ _ (fun k s=>[(13,.v (.int .i64 k))]) (fun k s=>True) () (by kernel_rfl) (by simp) hAns ?_ ?_<;>clear hAns
 ·rintro k ⟨⟩ e he hk hi hA
  dsimp only at hi hA ⊢
  repeat'((conv=>whnf);first|(apply aI<;>intro hb<;>first|(exfalso;simp only[Az]at hb<;>omega)|((try rw[hb]);(try simp only[Ad]at hb);(try subst hb)))|(refine eI ?_ ?_;focus (and_intros<;>first|omega|exact rfl|(intro _ hh;cases hh;done)|(simp;done)|decide))|((try dsimp only);first|rw[Av he]|rw[An he]|rw[Ap he])|(refine CallWp.mk ⟨_,R7 _,?_⟩;rintro _ _ ⟨rfl,rfl⟩))
  all_goals(try(conv=>whnf))
  all_goals first
   |(simp[-List.append_assoc,Yx, *]at hA
     first
     |(refine RoundE.aft hA ?_ ?_
       ·(try dsimp only);(try rw[Ak hk hm]);(try simp only[List.map_append,List.map_cons,List.map_nil])
        show norm _ _=upd _ _
        kernel_rfl
       ·first|trivial|omega|((try dsimp only);simp only[Az];omega)|((try dsimp only);(try simp at*);omega))
     |(refine Done.mk ⟨?_,by kernel_rfl⟩ (by kernel_rfl)
       have hA':=hA
       first|(rw[←hA'];first|rfl|kernel_rfl|(simp only[List.map_append,List.map_cons,List.map_nil];first|rfl|kernel_rfl))|(rw[←Ff hA'];first|rfl|kernel_rfl|(simp only[List.map_append,List.map_cons,List.map_nil];first|rfl|kernel_rfl))|(simp at hA' ⊢;simp[*];done))
    )
 ·rintro⟨⟩ k rfl hi hA
  dsimp only at hi hA ⊢
  repeat'((conv=>whnf);first|(apply aI<;>intro hb<;>first|(exfalso;simp only[Az]at hb<;>omega)|((try rw[hb]);(try simp only[Ad]at hb)))|(refine eI ?_ ?_;focus (and_intros<;>first|omega|exact rfl)))
  all_goals(try(conv=>whnf))
  subst hA
  exact Done.mk ⟨rfl,by kernel_rfl⟩ (by kernel_rfl)
theorem Ws (x:Rol) (n:Ai):Fn Tryz.prog Rn [.v x.toI,.v (.str n),.rp (.fn Jr)] (Is (.v (.int .i64 (cmpS x.name n))) [.no,.no,.no]):=by
 refine Aay ?_ (by simp)
 repeat'((conv=>whnf);first|(refine eI ?_ ?_;focus (and_intros<;>first|omega|exact rfl|(intro _ hh;cases hh;done)|(simp;done)|decide))|(refine CallWp.mk ⟨_,R7 _,?_⟩;rintro _ _ ⟨rfl,rfl⟩)|(refine CallWp.mk ⟨_,T1 _ _,?_⟩;rintro _ _ ⟨rfl,rfl⟩))
 all_goals(try(conv=>whnf))
 exact Done.mk ⟨rfl,by kernel_rfl⟩ (by kernel_rfl)
theorem A8m (l:List Rol) (n:Ai) (hl:l.length≤100000):Fn Tryz.prog Jz [.v (.list (l.map Rol.toI)),.v (.str n),.v (.clo Rn [.fn Jr])] (Is (.tup [.i (.int .i64 (Ch Rol.name l n)),.i (.bool (Et Rol.name l n))]) [.no,.no,.no]):=by
 refine Jo ?_ (by simp)
 repeat'((conv=>whnf);first|(refine eI ?_ ?_;focus (and_intros<;>exact rfl))|(intro hfact))
 all_goals(try(conv=>whnf))
 obtain⟨A,hA⟩:∃A,A=Ch Rol.name l n:=⟨_,rfl⟩
 have hAF:Et Rol.name l n=(l[A]?).any (fun x=>decide (x.name=n)):=by rw[hA];rfl
 have hAle:A≤l.length:=by rw[hA];exact S9 _ _ _
 rw[hAF, ←hA]
 unfold Ch at hA
 refine LoopWq.by (X:=Nat × Nat × Nat) (fun x=>[(9,.v (.int .i64 x.2.1)),(10,.v (.int .i64 x.2.2))]) (fun x=>x.2.1≤x.2.2∧x.2.2≤l.length∧x.2.2 - x.2.1≤x.1∧bsGo (ltAt Rol.name l n) x.1 x.2.1 x.2.2=A) (fun x=>x.2.2 - x.2.1)
  (l.length,0,l.length) (by rw[List.length_map];kernel_rfl) ⟨Nat.zero_le _,Nat.le_refl _,Nat.sub_le _ _,hA.symm⟩ ?_
 rintro⟨f,i,j⟩ ⟨h1,h2,h3,h4⟩
 dsimp only at h1 h2 h3 h4 ⊢
 by_cases hij:i<j
 case neg=>
  have hlt:¬decide ((i:Int)<(j:Int))=true:=by simp;omega
  obtain rfl:i=A:=by
   rw[←h4]
   cases f with
   |zero=>rfl
   |succ f=>rw[bsGo,if_neg hij]
  by_cases hil:i<l.length
  ·obtain⟨e,he⟩:∃e,l[i]?=some e:=⟨_,List.getElem?_eq_getElem hil⟩
   have hl2:¬decide ((i:Int)<((l.map Rol.toI).length:Int))=false:=by simp[hil]
   have hl3:¬decide ((i:Int)<(l.length:Int))=false:=by simp[hil]
   rw[he]
   simp only[Option.any_some]
   repeat'((conv=>whnf);first|(apply aI<;>intro hb<;>first|exact absurd hb (by first|assumption|decide)|((try rw[hb]);(try simp only[Ad]at hb)))|(refine eI ?_ ?_;focus (and_intros<;>first|omega|exact rfl|(simp;done)))|((try dsimp only);first|rw[Av he]|rw[An he]|rw[Ap he])|(refine CallWp.mk ⟨_,Ws _ _,?_⟩;rintro _ _ ⟨rfl,rfl⟩))
   all_goals(try(conv=>whnf))
   refine Done.mk ⟨?_,by kernel_rfl⟩ (by kernel_rfl)
   rw[←Ai2]
   rfl
  ·have hl2:¬decide ((i:Int)<((l.map Rol.toI).length:Int))=true:=by simp;omega
   have hl3:¬decide ((i:Int)<(l.length:Int))=true:=by simp;omega
   rw[List.getElem?_eq_none (by omega)]
   simp only[Option.any_none]
   repeat'((conv=>whnf);(apply aI<;>intro hb<;>first|exact absurd hb (by first|assumption|decide)|((try rw[hb]);(try simp only[Ad]at hb))))
   all_goals(try(conv=>whnf))
   (apply dK<;>kernel_rfl)
 have hlt:¬decide ((i:Int)<(j:Int))=false:=by simp[hij]
 obtain⟨g,rfl⟩:∃g,f=g+1:=⟨f - 1,by omega⟩
 rw[bsGo,if_pos hij]at h4
 have hmid:=Aqk (i:=i) (j:=j) (by omega)
 obtain⟨h,hh⟩:∃h,h=(i+j) / 2:=⟨_,rfl⟩
 rw[←hh]at hmid h4
 have hhj:h<j:=by omega
 obtain⟨e,he⟩:∃e,l[h]?=some e:=⟨_,List.getElem?_eq_getElem (by omega)⟩
 have hle:ltAt Rol.name l n h=decide (e.name<n):=by unfold ltAt;rw[he];rfl
 have hw:IntKind.i64.wrap ((h:Int)+1)=((h+1:Nat):Int):=Ak (n:=1000000) (by omega) (by simp only[maxLen];omega)
 rw[hle, ←Ann]at h4
 by_cases hc:cmpS e.name n<0
 ·have hb:¬decide (cmpS e.name n<0)=false:=by simp[hc]
  rw[if_pos (by simpa using hc)]at h4
  repeat'((conv=>whnf);first|(apply aI<;>intro hb<;>first|exact absurd hb (by assumption)|((try rw[hb]);(try simp only[Ad]at hb)))|(refine eI ?_ ?_;focus (and_intros<;>first|omega|exact rfl|(simp;done)))|((try dsimp only);rw[hmid])|((try dsimp only);first|rw[Av he]|rw[An he]|rw[Ap he])|(refine CallWp.mk ⟨_,Ws _ _,?_⟩;rintro _ _ ⟨rfl,rfl⟩)|((try dsimp only);rw[hw]))
  all_goals(try(conv=>whnf))
  refine Round.by (g,h+1,j) ?_ ⟨by dsimp only;omega,h2,by dsimp only;omega,h4⟩ (by dsimp only;omega)
  dsimp only
  show norm _ _=upd _ _
  kernel_rfl
 ·have hb:¬decide (cmpS e.name n<0)=true:=by simp[hc]
  rw[if_neg (by simpa using hc)]at h4
  repeat'((conv=>whnf);first|(apply aI<;>intro hb<;>first|exact absurd hb (by assumption)|((try rw[hb]);(try simp only[Ad]at hb)))|(refine eI ?_ ?_;focus (and_intros<;>first|omega|exact rfl|(simp;done)))|((try dsimp only);rw[hmid])|((try dsimp only);first|rw[Av he]|rw[An he]|rw[Ap he])|(refine CallWp.mk ⟨_,Ws _ _,?_⟩;rintro _ _ ⟨rfl,rfl⟩))
  all_goals(try(conv=>whnf))
  refine Round.by (g,i,h) ?_ ⟨by dsimp only;omega,by dsimp only;omega,by dsimp only;omega,h4⟩ (by dsimp only;omega)
  dsimp only
  show norm _ _=upd _ _
  kernel_rfl
theorem T3 (l:List Rol) (n:Ai) (hl:l.length≤100000):Fn Tryz.prog Af3 [.v (.list (l.map Rol.toI)),.v (.str n),.v (.fn Jr)] (Is (.tup [.i (.int .i64 (Ch Rol.name l n)),.i (.bool (Et Rol.name l n))]) [.no,.no,.no]):=by
 refine Afk ?_ (by simp)
 repeat'((conv=>whnf);first|(refine eI ?_ ?_;focus (and_intros<;>first|(intro _ hh;cases hh;done)|(simp;done)|decide))|(refine CallWp.mk ⟨_,(A8m l n hl),?_⟩;rintro _ _ ⟨rfl,rfl⟩))
 all_goals(try(conv=>whnf))
 exact Done.mk ⟨rfl,by kernel_rfl⟩ (by kernel_rfl)
theorem Atd (l:List I) (h:∀u∈l,u.size=3) (hl:l.length≤100000):Fn Tryz.prog Rb [.v (.list l)] (Is (.vec B2 3 l) [.no]):=by
 refine P5 ?_ (by simp)
 repeat'((conv=>whnf);first|(refine aI (fun hb=>?_) (fun hb=>?_)<;>((try rw[hb]);(try subst hb)))|(refine eI ?_ ?_;focus (and_intros<;>first|omega|exact rfl|(simp only[Az];omega)|(simp;done)))|(intro hfact))
 all_goals(try(conv=>whnf))
 ·refine Done.mk ⟨congrArg (fun l=>SV.vec B2 3 l) ?_,by kernel_rfl⟩ (by kernel_rfl)
  exact(hfact rfl).symm
 ·exact Done.mk ⟨congrArg (fun l=>SV.vec B2 3 l) (List.nil_append _),by kernel_rfl⟩ (by kernel_rfl)
theorem Aif (l:List Ai) (hl:l.length≤100000):Fn Tryz.prog S6 [.v (.list (l.map I.str))] (Is (.vec Em 1 (l.map I.str)) [.no]):=by
 refine Sg ?_ (by simp)
 repeat'((conv=>whnf);first|(refine aI (fun hb=>?_) (fun hb=>?_)<;>((try rw[hb]);(try subst hb)))|(refine eI ?_ ?_;focus (and_intros<;>first|omega|exact rfl|exact size_map (fun _=>rfl)|(simp only[Az];omega)|(simp;done)))|(intro hfact))
 all_goals(try(conv=>whnf))
 ·refine Done.mk ⟨congrArg (fun l=>SV.vec Em 1 l) ?_,by kernel_rfl⟩ (by kernel_rfl)
  exact(hfact rfl).symm
 ·exact Done.mk ⟨congrArg (fun l=>SV.vec Em 1 l) (List.nil_append _),by kernel_rfl⟩ (by kernel_rfl)
theorem Aih (r:Roll) (hf:r.Small) (n:Ai):Fn Tryz.prog A2w [.v r.toI,.v (.str n)] (Is (.tup [.i (getU r.usrs n).1.toI,.i (.bool (getU r.usrs n).2)]) [.no,.no]):=by
 refine Az8 ?_ (by simp)
 have hb1:=hf.hU
 have g:=Bce r.usrs n (by omega)
 have hl:(getU r.usrs n).1.roles.length≤1000:=by
  unfold getU
  split
  ·rename_i x hx;exact hf.hR x (List.mem_of_find?_eq_some hx)
  ·simp
 generalize getU r.usrs n=x at g hl ⊢
 have c:=Aif x.1.roles (by omega)
 repeat'((conv=>whnf);first|(refine eI ?_ ?_;focus (and_intros<;>first|omega|exact rfl|(intro _ hh;cases hh;done)|(simp;done)|decide))|(refine CallWp.mk ⟨_,g,?_⟩;rintro _ _ ⟨rfl,rfl⟩)|(refine CallWp.mk ⟨_,c,?_⟩;rintro _ _ ⟨rfl,rfl⟩))
 all_goals(try(conv=>whnf))
 exact Done.mk ⟨rfl,by kernel_rfl⟩ (by kernel_rfl)
theorem Aie (l:List Gra) (hl:l.length≤100000):Fn Tryz.prog N7 [.v (.list (l.map Gra.toI))] (Is (.vec Ep 4 (l.map Gra.toI)) [.no]):=by
 refine Nd ?_ (by simp)
 repeat'((conv=>whnf);first|(refine aI (fun hb=>?_) (fun hb=>?_)<;>((try rw[hb]);(try subst hb)))|(refine eI ?_ ?_;focus (and_intros<;>first|omega|exact rfl|exact size_map (fun _=>rfl)|(simp only[Az];omega)|(simp;done)))|(intro hfact))
 all_goals(try(conv=>whnf))
 ·refine Done.mk ⟨congrArg (fun l=>SV.vec Ep 4 l) ?_,by kernel_rfl⟩ (by kernel_rfl)
  exact(hfact rfl).symm
 ·exact Done.mk ⟨congrArg (fun l=>SV.vec Ep 4 l) (List.nil_append _),by kernel_rfl⟩ (by kernel_rfl)
theorem Aig (r:Roll) (hf:r.Small) (n:Ai):Fn Tryz.prog A2v [.v r.toI,.v (.str n)] (Is (.tup [.i (getR r.rols n).1.toI,.i (.bool (getR r.rols n).2)]) [.no,.no]):=by
 refine Az7 ?_ (by simp)
 have hb1:=hf.hX
 have g:=Bcc r.rols n (by omega)
 have hl:(getR r.rols n).1.grants.length≤1000:=by
  unfold getR
  split
  ·rename_i x hx;exact hf.hG x (List.mem_of_find?_eq_some hx)
  ·simp
 generalize getR r.rols n=x at g hl ⊢
 have c:=Aie x.1.grants (by omega)
 repeat'((conv=>whnf);first|(refine eI ?_ ?_;focus (and_intros<;>first|omega|exact rfl|(intro _ hh;cases hh;done)|(simp;done)|decide))|(refine CallWp.mk ⟨_,g,?_⟩;rintro _ _ ⟨rfl,rfl⟩)|(refine CallWp.mk ⟨_,c,?_⟩;rintro _ _ ⟨rfl,rfl⟩))
 all_goals(try(conv=>whnf))
 exact Done.mk ⟨rfl,by kernel_rfl⟩ (by kernel_rfl)
theorem Nv (r:Roll) (hf:r.Small) (n:Ai):Fn Tryz.prog Avk [.v r.toI,.v (.str n)] (Is (.tup [.i (getT r.tens n).1.toI,.i (.bool (getT r.tens n).2)]) [.no,.no]):=by
 refine Ast ?_ (by simp)
 have g:=Bcd r.tens n (by have:=hf.hT;omega)
 generalize getT r.tens n=x at g ⊢
 repeat'((conv=>whnf);first|(refine eI ?_ ?_;focus (and_intros<;>first|omega|exact rfl|(intro _ hh;cases hh;done)|(simp;done)|decide))|(refine CallWp.mk ⟨_,g,?_⟩;rintro _ _ ⟨rfl,rfl⟩))
 all_goals(try(conv=>whnf))
 exact Done.mk ⟨rfl,by kernel_rfl⟩ (by kernel_rfl)

open Go.Shelf Go.RowKit Go.Lib Go.Proofs
variable{P:Program}{ρ:Ren}
structure LIns (P:Program) (ρ:Ren) (i0:TypeInfo) (zv:Value):Prop where
 mixed:P.follows .mixedOrders=true
 f22:Bears P (ρ.f 22) (Body2.n22 ρ)
 f29:∀(a:Array Value) (w:World) (v:Value),(Extern.SlicesOverlaps.overlaps #[(ρ.t 24),(ρ.t 24)] #[(ρ.t 4)] a).run P w= .ok v w→(callFunc (ρ.f 29) a).run P w= .ok (.value v) w
 t0:P.underlying (ρ.t 0)=some (TypeDesc.tuple #[])
 a0:∀w,(isAgg (ρ.t 0)).run P w= .ok false w
 z0:∀w,(Go.sizeOf (ρ.t 0)).run P w= .ok 1 w
 v0:∀w,(zeroValue (ρ.t 0)).run P w= .ok (Value.tuple #[]) w
 t3:P.underlying (ρ.t 3)=some (TypeDesc.int IntKind.i64)
 a3:∀w,(isAgg (ρ.t 3)).run P w= .ok false w
 z3:∀w,(Go.sizeOf (ρ.t 3)).run P w= .ok 1 w
 v3:∀w,(zeroValue (ρ.t 3)).run P w= .ok (Value.int IntKind.i64 0) w
 t4:P.underlying (ρ.t 4)=some (TypeDesc.bool)
 a4:∀w,(isAgg (ρ.t 4)).run P w= .ok false w
 z4:∀w,(Go.sizeOf (ρ.t 4)).run P w= .ok 1 w
 v4:∀w,(zeroValue (ρ.t 4)).run P w= .ok (Value.bool false) w
 t24:P.underlying (ρ.t 24)=some (TypeDesc.slice (ρ.t 9))
 a24:∀w,(isAgg (ρ.t 24)).run P w= .ok false w
 z24:∀w,(Go.sizeOf (ρ.t 24)).run P w= .ok 1 w
 v24:∀w,(zeroValue (ρ.t 24)).run P w= .ok (Value.slice none 0 0) w
 z9:∀w,(Go.sizeOf (ρ.t 9)).run P w= .ok i0.size w
 i9:P.info? (ρ.t 9)=some i0
 iz:i0.zero=some zv
 izs:zv.cells.size=i0.size
 ipos:0<i0.size
 ib:i0.bytes≤100000
theorem Xy (w:World) (dT sT ty elem:TypeId) (b o dLen dCap:Nat) (a:Addr) (sLen sCap:Nat) (cs:List Value) (i:TypeInfo)
 (hu:P.underlying dT=some (.slice elem)) (hs:P.info? elem=some i) (hn:cs.length=Nat.min sLen dLen*i.size)
 (hsrc:∀j v,cs[j]?=some v→w.cell? (a.add j)=some v) (hc:∀j,j<cs.length→(w.cell? ⟨b,o+j,none⟩).isSome=true) (hf:∀j,j<cs.length→w.frozen? ⟨b,o+j,none⟩=false) (h1:∀v∈cs,v.oneCell'=true):
 (Builtin.copy_ #[dT,sT] ty #[.slice (some ⟨b,o,none⟩) dLen dCap,.slice (some a) sLen sCap]).run P w= .ok (goInt (Nat.min sLen dLen)) (w.setCells b o cs):=by
 have hl:=run_loadCells_list (P:=P) w a cs hsrc
 have hst:=run_storeCells_cells (P:=P) b o cs 0 w (by simpa using hc) (by simpa using hf) h1
 simp[Builtin.copy_,run_underlying hu,Builtin.lenOf,Builtin.firstCells,sizeOf,typeInfo,hs, ←hn,hl,hst]
set_option maxHeartbeats 4000000 in
set_option maxRecDepth 100000 in
theorem Baw {i0:TypeInfo} {zv:Value} (L:LIns P ρ i0 zv) (b n c i vb vc:Nat) (cs vs:List Value) (w:World) (hi:i<n) (hroom:n+1≤c) (hc63:c≤9223372036854775807) (hvb:vb≠b)
 (hcl:cs.length=n*i0.size) (hvl:vs.length=1*i0.size)
 (hcs:∀j v,cs[j]?=some v→w.cell? ⟨b,j,none⟩=some v) (hsp:∀j,j<(n+1)*i0.size→(w.cell? ⟨b,j,none⟩).isSome=true) (hfz:∀j,j<(n+1)*i0.size→w.frozen? ⟨b,j,none⟩=false)
 (hvs:∀j v,vs[j]?=some v→w.cell? ⟨vb,j,none⟩=some v) (h1c:∀v∈cs,v.oneCell'=true) (h1v:∀v∈vs,v.oneCell'=true)
 (tA tB:TypeId) (kA kB:Nat) (hsa:w.shape? vb=some (tA,kA)) (hsb:w.shape? b=some (tB,kB)) (hkB:kB≠0) (hfa:w.frozen? ⟨vb,0,none⟩=false) (hfe:w.frozen? ⟨vb,kA,none⟩=false):
 Calls P (ρ.f 22) #[.slice (some ⟨b,0,none⟩) n c,.int .i64 i,.slice (some ⟨vb,0,none⟩) 1 vc] w fun e w'=>
  e= .returned (.slice (some ⟨b,0,none⟩) (n+1) c)∧w'=(w.drew.setCells b (i*i0.size+i0.size) (cs.drop (i*i0.size))).setCells b (i*i0.size) vs:=by
 have t0:=L.t0;have a0:=L.a0;have z0:=L.z0;have v0:=L.v0;have t3:=L.t3;have a3:=L.a3;have z3:=L.z3;have v3:=L.v3;have t4:=L.t4;have a4:=L.a4;have z4:=L.z4;have v4:=L.v4;have z9:=L.z9;have t24:=L.t24;have a24:=L.a24;have z24:=L.z24;have v24:=L.v24
 have u0:=run_underlying L.t0;have u3:=run_underlying L.t3;have u4:=run_underlying L.t4;have u24:=run_underlying L.t24
 have hz2:¬((i:Int)=(n:Int)):=by omega
 have hov:∀o lb cb,(callFunc (ρ.f 29) #[.slice (some ⟨vb,0,none⟩) 1 vc,.slice (some ⟨b,o,none⟩) lb cb]).run P w= .ok (.value (.bool false)) w:=fun o lb cb=>by
  exact L.f29 _ w _ (Lib.run_overlaps_apart w (ρ.t 24) (ρ.t 4) (ρ.t 9) L.t24 i0.size L.z9 ⟨vb,0,none⟩ ⟨b,o,none⟩ 1 vc lb cb hvb tA tB kA kB hsa hsb hkB hfa hfe)
 have hnk:(n+1)*i0.size=n*i0.size+i0.size:=Nat.succ_mul ..
 have hik:(i+1)*i0.size=i*i0.size+i0.size:=Nat.succ_mul ..
 have hin':i*i0.size+i0.size≤n*i0.size:=by rw[←hik];exact Nat.mul_le_mul_right _ hi
 have hdl:(cs.drop (i*i0.size)).length=(n - i)*i0.size:=by rw[List.length_drop,hcl,Nat.sub_mul]
 have hni:(n - i)*i0.size=n*i0.size - i*i0.size:=Nat.sub_mul ..
 have mixed:=L.mixed
 have hw1:IntKind.i64.wrap ((i:Int)+(1:Int))=(i:Int)+(1:Int):=by rw[IntKind.wrap_i64];omega
 have hb1:(0:Int)≤(i:Int)+(1:Int):=by omega
 have hin:i≤n:=by omega
 have htn:((i:Int)+(1:Int)).toNat=i+1:=by omega
 have hb2:¬(c=i+1):=by omega
 have hb3:(i:Int)≤(n:Int)+(1:Int):=by omega
 have hb4:¬(c=i):=by omega
 have hcp1:∀ty dc sc,(Builtin.copy_ #[(ρ.t 24),(ρ.t 24)] ty #[.slice (some ⟨b,i*i0.size+i0.size,none⟩) (n - i) dc,.slice (some ⟨b,i*i0.size,none⟩) (n+1 - i) sc]).run P w.drew= .ok (goInt (Nat.min (n+1 - i) (n - i))) (w.drew.setCells b (i*i0.size+i0.size) (cs.drop (i*i0.size))):=fun ty dc sc=>
  Xy w.drew _ _ ty (ρ.t 9) b (i*i0.size+i0.size) (n - i) dc ⟨b,i*i0.size,none⟩ (n+1 - i) sc (cs.drop (i*i0.size)) i0 L.t24 L.i9 (by rw[hdl];congr 1;simp only[Nat.min_def];split<;>omega)
   (fun j v hj=>by rw[Addr.add_lit];exact hcs _ v (by rwa [List.getElem?_drop]at hj))
   (fun j hj=>hsp _ (by omega)) (fun j hj=>hfz _ (by omega)) (fun v hv=>h1c v (List.mem_of_mem_drop hv))
 obtain⟨W1,hW1⟩:∃W1,W1=w.drew.setCells b (i*i0.size+i0.size) (cs.drop (i*i0.size)):=⟨_,rfl⟩
 have hsp1:∀k,k<(n+1)*i0.size→(W1.cell? ⟨b,k,none⟩).isSome=true:=fun k hk=>by
  rw[hW1]
  exact isSome_setCells b _ _ _ (fun j hj=>by rw[hdl]at hj;exact hsp _ (by omega)) _ (hsp k hk)
 have hcp2:∀(W:World),(∀x,W.cell? x=W1.cell? x)→(∀x,W.frozen? x=W1.frozen? x)→∀ty dc,(Builtin.copy_ #[(ρ.t 24),(ρ.t 24)] ty #[.slice (some ⟨b,i*i0.size,none⟩) (n+1 - i) dc,.slice (some ⟨vb,0,none⟩) 1 vc]).run P W= .ok (goInt (Nat.min 1 (n+1 - i))) (W.setCells b (i*i0.size) vs):=fun W hWc hWf ty dc=>
  Xy W _ _ ty (ρ.t 9) b (i*i0.size) (n+1 - i) dc ⟨vb,0,none⟩ 1 vc vs i0 L.t24 L.i9 (by rw[hvl];congr 1;simp only[Nat.min_def];split<;>omega)
   (fun j v hj=>by
     rw[Addr.add_lit,hWc,hW1,World.cell?_setCells_out b _ _ _ _ (fun h _=>absurd h hvb),Nat.zero_add]
     exact hvs j v hj)
   (fun j hj=>by rw[hWc];exact hsp1 _ (by omega)) (fun j hj=>by rw[hWf,hW1,World.frozen?_setCells];exact hfz _ (by omega)) h1v
 rw[←hW1]at hcp1
 obtain⟨_,_,FG⟩:=L.f22
 go_enter FG,Body2.n22_ntmps ρ
 go_wp2_with (simp only[hov])
 go_region_law_o (refine step_copy_runI rfl _ _ (ρ.t 24) (ρ.t 24) rfl _ _ (by simp[Act.eval,Act.put]) (by simp[Act.eval,Act.put]) (hcp1 _ _ _) ?_)
 go_wp2_with (at_builtin;refine wpList_copy_runI _ rfl _ _ (ρ.t 24) (ρ.t 24) rfl _ _ rfl rfl (hcp2 _ (fun _=>rfl) (fun _=>rfl) _ _) ?_)
 go_ret
 first|exact⟨rfl,rfl⟩|exact⟨rfl,by rw[hW1]⟩
set_option maxHeartbeats 4000000 in
set_option maxRecDepth 100000 in
theorem A47 {i0:TypeInfo} {zv:Value} (L:LIns P ρ i0 zv) (base:Option Addr) (n c vb vc:Nat) (w:World) (hnil:base=none→n=0∧c=0) (hnc:n≤c) {v':Value} {w':World}
 (hrun:∀ty,(Builtin.append_ #[(ρ.t 24),(ρ.t 24)] ty #[.slice base n c,.slice (some ⟨vb,0,none⟩) 1 vc]).run P w= .ok v' w'):
 Calls P (ρ.f 22) #[.slice base n c,.int .i64 n,.slice (some ⟨vb,0,none⟩) 1 vc] w fun e w1=>e= .returned v'∧w1=w':=by
 have t0:=L.t0;have a0:=L.a0;have z0:=L.z0;have v0:=L.v0;have t3:=L.t3;have a3:=L.a3;have z3:=L.z3;have v3:=L.v3;have t4:=L.t4;have a4:=L.a4;have z4:=L.z4;have v4:=L.v4;have z9:=L.z9;have t24:=L.t24;have a24:=L.a24;have z24:=L.z24;have v24:=L.v24
 have u0:=run_underlying L.t0;have u3:=run_underlying L.t3;have u4:=run_underlying L.t4;have u24:=run_underlying L.t24
 have mixed:=L.mixed
 obtain⟨_,_,FG⟩:=L.f22
 go_enter FG,Body2.n22_ntmps ρ
 cases base with
 |none=>
  obtain⟨rfl,rfl⟩:=hnil rfl
  go_wp2_with (at_builtin;refine Lib.wpList_append_run _ rfl _ _ _ _ rfl _ _ rfl rfl _ _ (hrun _) ?_)
  go_ret
  exact⟨rfl,rfl⟩
 |some a=>
  obtain⟨ab,ao,asp⟩:=a
  go_wp2_with (at_builtin;refine Lib.wpList_append_run _ rfl _ _ _ _ rfl _ _ rfl rfl _ _ (hrun _) ?_)
  all_goals(go_ret;exact⟨rfl,rfl⟩)
set_option maxHeartbeats 4000000 in
set_option maxRecDepth 100000 in
theorem Beb {i0:TypeInfo} {zv:Value} (L:LIns P ρ i0 zv) (b n c i vb vc:Nat) (cs vs:List Value) (w:World) (hi:i<n) (hnc:n≤c) (hroom:c<n+1) (hbig:(n+1)*i0.bytes≤140737488355328) (hn:n≤1000000000)
 (hcl:cs.length=n*i0.size) (hvl:vs.length=1*i0.size)
 (hcs:∀j v,cs[j]?=some v→w.cell? ⟨b,j,none⟩=some v)
 (hvs:∀j v,vs[j]?=some v→w.cell? ⟨vb,j,none⟩=some v) (h1c:∀v∈cs,v.oneCell'=true) (h1v:∀v∈vs,v.oneCell'=true):
 Calls P (ρ.f 22) #[.slice (some ⟨b,0,none⟩) n c,.int .i64 i,.slice (some ⟨vb,0,none⟩) 1 vc] w fun e w'=>
  e= .returned (.slice (some ⟨w.heap.size,0,none⟩) (n+1) (grownCap w (n+1) c (ρ.t 9)))∧
  w'=(((w.alloc (.cells ((cs.take (i*i0.size)).toArray++Builtin.zeroCells zv.cells (n+1 - i)++Builtin.zeroCells zv.cells (grownCap w (n+1) c (ρ.t 9) - (n+1))) (ρ.t 9))).drew.setCells w.heap.size (i*i0.size) vs).drew).setCells w.heap.size (i*i0.size+i0.size) (cs.drop (i*i0.size)):=by
 have t0:=L.t0;have a0:=L.a0;have z0:=L.z0;have v0:=L.v0;have t3:=L.t3;have a3:=L.a3;have z3:=L.z3;have v3:=L.v3;have t4:=L.t4;have a4:=L.a4;have z4:=L.z4;have v4:=L.v4;have z9:=L.z9;have t24:=L.t24;have a24:=L.a24;have z24:=L.z24;have v24:=L.v24
 have u0:=run_underlying L.t0;have u3:=run_underlying L.t3;have u4:=run_underlying L.t4;have u24:=run_underlying L.t24
 have mixed:=L.mixed
 have hpos:=L.ipos
 have hz2:¬((i:Int)=(n:Int)):=by omega
 have hz3:(c:Int)<(n:Int)+(1:Int):=by omega
 have hnk:(n+1)*i0.size=n*i0.size+i0.size:=Nat.succ_mul ..
 have hik':(i+1)*i0.size=i*i0.size+i0.size:=Nat.succ_mul ..
 have hin':i*i0.size+i0.size≤n*i0.size:=by rw[←hik'];exact Nat.mul_le_mul_right _ hi
 have hdl:(cs.drop (i*i0.size)).length=(n - i)*i0.size:=by rw[List.length_drop,hcl,Nat.sub_mul]
 have hni:(n - i)*i0.size=n*i0.size - i*i0.size:=Nat.sub_mul ..
 have hni1:(n+1 - i)*i0.size=n*i0.size+i0.size - i*i0.size:=by rw[Nat.sub_mul,hnk]
 have hbw:b<w.heap.size:=block_lt_of_cell (hcs 0 _ (List.getElem?_eq_getElem (by omega)))
 have hvw:vb<w.heap.size:=block_lt_of_cell (hvs 0 _ (List.getElem?_eq_getElem (by omega)))
 have hkk:(n:Int)+(1:Int) - (i:Int)=((n+1 - i:Nat):Int):=by omega
 have hik:i+(n+1 - i)=n+1:=by omega
 have hold:(Builtin.firstCells i0.size i (.slice (some ⟨b,0,none⟩) i c)).run P w.drew= .ok (cs.take (i*i0.size)).toArray w.drew:=
  run_firstCells_some w.drew i0.size i ⟨b,0,none⟩ i c (cs.take (i*i0.size)) (by rw[List.length_take];omega) (fun j v hj=>by
   rw[Addr.add_lit,Nat.zero_add]
   rw[List.getElem?_take]at hj
   split at hj
   ·exact hcs j v hj
   ·cases hj)
 have hrz:∀ty,(Builtin.append_ #[(ρ.t 24),(ρ.t 3)] ty #[.slice (some ⟨b,0,none⟩) i c,.int .i64 ((n:Int)+(1:Int) - (i:Int))]).run P w=
  .ok (.slice (some ⟨w.heap.size,0,none⟩) (n+1) (grownCap w (n+1) c (ρ.t 9))) (w.drew.alloc (.cells ((cs.take (i*i0.size)).toArray++Builtin.zeroCells zv.cells (n+1 - i)++Builtin.zeroCells zv.cells (grownCap w (n+1) c (ρ.t 9) - (n+1))) (ρ.t 9))):=fun ty=>by
  have h:=Lib.run_append_grow_zeros w (ρ.t 24) (ρ.t 3) ty (ρ.t 9) i0 _ .i64 .i64 L.t24 L.t3 L.i9 L.iz (some ⟨b,0,none⟩) i c (cs.take (i*i0.size)) hold (n+1 - i) (by omega) (by omega) (by omega) (by omega) (by
   have:(n+1 - i)*i0.bytes≤(n+1)*i0.bytes:=Nat.mul_le_mul_right _ (by omega)
   omega) (by rw[hik];exact growslice_fits hroom hbig)
  rw[hik]at h
  rw[hkk]
  exact h
 obtain⟨G,hG⟩:∃G,G=grownCap w (n+1) c (ρ.t 9):=⟨_,rfl⟩
 obtain⟨ROW,hROW⟩:∃ROW:Array Value,ROW=(cs.take (i*i0.size)).toArray++Builtin.zeroCells zv.cells (n+1 - i)++Builtin.zeroCells zv.cells (G - (n+1)):=⟨_,rfl⟩
 rw[←hG]at hrz ⊢
 rw[←hROW]at hrz ⊢
 have hRl:(n+1)*i0.size≤ROW.size:=by
  rw[hROW]
  have e1:(Builtin.zeroCells zv.cells (n+1 - i)).size=(n+1 - i)*i0.size:=by rw[←L.izs];simp[Builtin.zeroCells]
  simp only[Array.size_append,e1,List.size_toArray,List.length_take]
  omega
 obtain⟨W1,hW1⟩:∃W1,W1=w.drew.alloc (.cells ROW (ρ.t 9)):=⟨_,rfl⟩
 rw[←hW1]at hrz
 have hN:∀j,j<(n+1)*i0.size→(W1.cell? ⟨w.heap.size,j,none⟩).isSome=true:=fun j hj=>by
  rw[hW1,World.cell?_alloc_at (w:=w.drew) ROW _ w.heap.size j rfl,Array.getElem?_eq_getElem (by omega)];rfl
 have hNf:∀j,W1.frozen? ⟨w.heap.size,j,none⟩=false:=fun j=>by rw[hW1];exact World.frozen?_alloc_at (w:=w.drew) ROW _ w.heap.size j rfl
 have hOb:∀j v,w.cell? ⟨b,j,none⟩=some v→W1.cell? ⟨b,j,none⟩=some v:=fun j v h=>by rw[hW1,World.cell?_alloc_past (w:=w.drew) _ b j hbw];exact h
 have hOv:∀j v,w.cell? ⟨vb,j,none⟩=some v→W1.cell? ⟨vb,j,none⟩=some v:=fun j v h=>by rw[hW1,World.cell?_alloc_past (w:=w.drew) _ vb j hvw];exact h
 have hcpA:∀(W:World),(∀x,W.cell? x=W1.cell? x)→(∀x,W.frozen? x=W1.frozen? x)→∀ty dc,(Builtin.copy_ #[(ρ.t 24),(ρ.t 24)] ty #[.slice (some ⟨w.heap.size,i*i0.size,none⟩) (n+1 - i) dc,.slice (some ⟨vb,0,none⟩) 1 vc]).run P W= .ok (goInt (Nat.min 1 (n+1 - i))) (W.setCells w.heap.size (i*i0.size) vs):=fun W hWc hWf ty dc=>
  Xy W _ _ ty (ρ.t 9) w.heap.size (i*i0.size) (n+1 - i) dc ⟨vb,0,none⟩ 1 vc vs i0 L.t24 L.i9 (by rw[hvl];congr 1;simp only[Nat.min_def];split<;>omega)
   (fun j v hj=>by rw[Addr.add_lit,hWc,Nat.zero_add];exact hOv _ v (hvs j v hj))
   (fun j hj=>by rw[hWc];exact hN _ (by omega)) (fun j hj=>by rw[hWf];exact hNf _) h1v
 have hGn:n+1≤G:=by rw[hG];exact grownCap_ge w _ _ _
 have hG63:G≤9223372036854775807:=by
  have:=grownCap_le_maxLen w (n+1) c (ρ.t 9) (by unfold maxLen;omega)
  rw[←hG]at this
  unfold maxLen at this
  omega
 have hGi:¬(G=i):=by omega
 have hGim:¬(G=i+1):=by omega
 have hci:¬(c=i):=by omega
 have hbN:b≠w.heap.size:=by omega
 have hcpB:∀(W:World),(∀x,W.cell? x=(W1.setCells w.heap.size (i*i0.size) vs).cell? x)→(∀x,W.frozen? x=(W1.setCells w.heap.size (i*i0.size) vs).frozen? x)→∀ty dc sc,(Builtin.copy_ #[(ρ.t 24),(ρ.t 24)] ty #[.slice (some ⟨w.heap.size,i*i0.size+i0.size,none⟩) (n - i) dc,.slice (some ⟨b,i*i0.size,none⟩) (n - i) sc]).run P W= .ok (goInt (Nat.min (n - i) (n - i))) (W.setCells w.heap.size (i*i0.size+i0.size) (cs.drop (i*i0.size))):=fun W hWc hWf ty dc sc=>
  Xy W _ _ ty (ρ.t 9) w.heap.size (i*i0.size+i0.size) (n - i) dc ⟨b,i*i0.size,none⟩ (n - i) sc (cs.drop (i*i0.size)) i0 L.t24 L.i9 (by rw[hdl];congr 1;simp only[Nat.min_def];split<;>omega)
   (fun j v hj=>by
     rw[Addr.add_lit,hWc,World.cell?_setCells_out _ _ _ _ _ (fun h _=>absurd h hbN)]
     exact hOb _ v (hcs _ v (by rwa [List.getElem?_drop]at hj)))
   (fun j hj=>by rw[hWc];rw[hdl]at hj;exact isSome_setCells _ _ _ _ (fun t ht=>hN _ (by omega)) _ (hN _ (by omega)))
   (fun j hj=>by rw[hWf,World.frozen?_setCells];exact hNf _) (fun v hv=>h1c v (List.mem_of_mem_drop hv))
 subst hW1
 have hE1:∀x,((w.alloc (.cells ROW (ρ.t 9))).drew).cell? x=(w.drew.alloc (.cells ROW (ρ.t 9))).cell? x:=fun x=>rfl
 have hE2:∀x,((w.alloc (.cells ROW (ρ.t 9))).drew).frozen? x=(w.drew.alloc (.cells ROW (ρ.t 9))).frozen? x:=fun x=>rfl
 have hF1:∀x,(((w.alloc (.cells ROW (ρ.t 9))).drew.setCells w.heap.size (i*i0.size) vs).drew).cell? x=((w.drew.alloc (.cells ROW (ρ.t 9))).setCells w.heap.size (i*i0.size) vs).cell? x:=fun x=>rfl
 have hF2:∀x,(((w.alloc (.cells ROW (ρ.t 9))).drew.setCells w.heap.size (i*i0.size) vs).drew).frozen? x=((w.drew.alloc (.cells ROW (ρ.t 9))).setCells w.heap.size (i*i0.size) vs).frozen? x:=fun x=>rfl
 have hw1:IntKind.i64.wrap ((i:Int)+(1:Int))=(i:Int)+(1:Int):=by rw[IntKind.wrap_i64];omega
 have hb1:(0:Int)≤(i:Int)+(1:Int):=by omega
 have hin:i≤n:=by omega
 have htn:((i:Int)+(1:Int)).toNat=i+1:=by omega
 have hb3:(i:Int)≤(n:Int):=by omega
 clear hkk hik hold hROW hG hRl
 obtain⟨_,_,FG⟩:=L.f22
 go_enter FG,Body2.n22_ntmps ρ
 go_wp2_with (first
  |(at_builtin;refine Lib.wpList_append_run _ rfl _ _ _ _ rfl _ _ rfl rfl _ _ (hrz _) ?_)
  |(at_builtin;refine wpList_copy_runI _ rfl _ _ (ρ.t 24) (ρ.t 24) rfl _ _ rfl rfl (hcpA _ hE1 hE2 _ _) ?_)
  |(at_builtin;refine wpList_copy_runI _ rfl _ _ (ρ.t 24) (ρ.t 24) rfl _ _ rfl rfl (hcpB _ (fun _=>rfl) (fun _=>rfl) _ _ _) ?_))
 go_region_law_o (refine step_copy_runI rfl _ _ (ρ.t 24) (ρ.t 24) rfl (.slice (some ⟨w.heap.size,i*i0.size+i0.size,none⟩) (n - i) (G - (i+1))) (.slice (some ⟨b,i*i0.size,none⟩) (n - i) (c - i)) (by simp[Act.eval,Act.put]) (by simp[Act.eval,Act.put]) (hcpB _ hF1 hF2 (ρ.t 3) (G - (i+1)) (c - i)) ?_)
 go_wp2
 go_ret
 exact⟨rfl,rfl⟩
end Go.Ab
