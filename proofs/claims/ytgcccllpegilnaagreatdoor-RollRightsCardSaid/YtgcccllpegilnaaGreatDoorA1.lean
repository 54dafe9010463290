/- Lemmas -/
import Derived.Test.YtgcccllpegilnaaGreatDoorR12b
import Derived.Shelf.SlSortCmp.NoneTotal
import Derived.Test.YtgcccllpegilnaaGreatDoorA13d
set_option linter.unusedVariables false
set_option linter.unusedSimpArgs false
set_option maxRecDepth 100000
set_option maxHeartbeats 4000000
namespace Go.Ab
open Go.Proofs
def Mi(E:List Ai)(s:Sp):List Ai:=if Dk s then ins s.t (ins s.f E)else E
def Hi(l:List Sp):List Ai:=l.foldl Mi [[]]
theorem Ax3(E:List Ai)(s:Sp):(Mi E s).length≤E.length+2:=by
 unfold Mi;split
 ·exact Nat.le_trans (Xg _ _) (Nat.add_le_add_right (Xg _ _) 1)
 ·omega
theorem A6i{l:List Sp}{k:Nat}{e:Sp}(he:l[k]?=some e):Hi (l.take (k+1))=Mi (Hi (l.take k)) e:=by
 unfold Hi;rw[List.take_add_one,he,List.foldl_append];rfl
theorem Yu(l:List Sp):(Hi l).length≤1+2*l.length:=by
 have:∀(l:List Sp) (E:List Ai),(l.foldl Mi E).length≤E.length+2*l.length:=by
  intro l;induction l with
  |nil=>intro E;simp
  |cons s r ih=>
   intro E;have h1:=ih (Mi E s);have h2:=Ax3 E s;simp only[List.foldl_cons,List.length_cons];omega
 exact this l [[]]
theorem A8x(l:List Sp)(hl:l.length≤1000):Fn Tryz.prog Ad6 [.v (.list (Cj l))] (Is (.v (.list (strs (Hi l)))) [.no]):=by
 refine Adh ?_ (by simp)
 have hm:l.length≤maxLen:=by simp only[maxLen];omega
 repeat'((conv=>whnf);(refine eI ?_ ?_;focus (and_intros<;>first|omega|exact rfl|exact B8 (by rfl))))
 all_goals(try(conv=>whnf))
 refine Bq.by (X:=Nat) (fun x=>[(3,.vec 9 1 (strs (Hi (l.take x)))),(4,.v (.int .i64 x))]) (fun x=>x≤l.length) (fun x=>l.length - x)
  0 (by rw[List.take_zero];kernel_rfl) (Nat.zero_le _) ?_
 intro k h1;have hEl:(Hi (l.take k)).length≤3000:=by have:=Yu (l.take k);rw[List.length_take]at this;omega
 by_cases hk:k<l.length
 case neg=>
  have Bb:¬decide ((k:Int)<((Cj l).length:Int))=true:=by simp;omega
  rw[show l.take k=l from List.take_of_length_le (by omega)]
  repeat'((conv=>whnf);first|(apply aI<;>intro hb<;>first|exact absurd hb (by assumption)|((try rw[hb]);(try simp only[Ad]at hb)))|(refine eI ?_ ?_;focus (and_intros<;>first|omega|exact rfl|(simp;done)))|(intro Aa))
  all_goals(try(conv=>whnf))
  exact Bd.mk ⟨rfl,by kernel_rfl⟩ (by kernel_rfl)
 obtain⟨e,he⟩:∃e,l[k]?=some e:=⟨_,List.getElem?_eq_getElem hk⟩;have hg:(Cj l)[Int.toNat (k:Int)]?=some e.Ae:=Vg he;have Bb:¬decide ((k:Int)<((Cj l).length:Int))=false:=by simp[hk]
 have Di:l.length - (k+1)<l.length - k:=by omega
 have hs:=A6i he;obtain⟨E,hE⟩:∃E,E=Hi (l.take k):=⟨_,rfl⟩;rw[←hE]at hs hEl ⊢;have hp1:=Avc E e.f (by omega)
 have hp2:=Avc (ins e.f E) e.t (by have:=Xg e.f E;omega)
 by_cases hr:Dk e
 ·have n1:¬decide (Dk e)=false:=by simp[hr]
  rw[Mi,if_pos hr]at hs;repeat'((conv=>whnf);first|(apply aI<;>intro hb<;>first|exact absurd hb (by assumption)|((try rw[hb]);(try simp only[Ad]at hb)))|(refine eI ?_ ?_;focus (and_intros<;>first|omega|exact rfl|(intro _ hh;cases hh;done)|(simp;done)|decide))|(intro Aa)|((with_reducible apply A5.B5);(focus kernel_rfl);intro Aa;(try simp only[dRS]at Aa))|((try dsimp only);rw[hg])|(refine Ac.mk ⟨_,Hc _,?_⟩;rintro _ _ ⟨rfl,rfl⟩)|(refine Aj.mk ⟨_,_,hp1,?_⟩)|(refine Aj.mk ⟨_,_,hp2,?_⟩))
  all_goals(try(conv=>whnf))
  refine Round.by (k+1) ?_ hk Di;rw[Ak hk hm,hs];show norm _ _=Bt _ _
  kernel_rfl
 ·have n1:¬decide (Dk e)=true:=by simp[hr]
  rw[Mi,if_neg hr]at hs;repeat'((conv=>whnf);first|(apply aI<;>intro hb<;>first|exact absurd hb (by assumption)|((try rw[hb]);(try simp only[Ad]at hb)))|(refine eI ?_ ?_;focus (and_intros<;>first|omega|exact rfl|(intro _ hh;cases hh;done)|(simp;done)|decide))|(intro Aa)|((try dsimp only);rw[hg])|(refine Ac.mk ⟨_,Hc _,?_⟩;rintro _ _ ⟨rfl,rfl⟩))
  all_goals(try(conv=>whnf))
  refine Round.by (k+1) ?_ hk Di;rw[Ak hk hm,hs];show norm _ _=Bt _ _
  kernel_rfl
def La(o:List Sp × Bool)(p:Ai × Bool):List Sp × Bool:=
 if p.2=true then(if o.2=true then(o.1,true)else(o.1++[⟨p.1,[]⟩],true))
 else(if o.2=true then(match o.1.getLast? with
  |some s=>o.1.set (o.1.length - 1) ⟨s.f,p.1⟩
  |none=>o.1,false)else(o.1,false))
def Ag0(E:List Ai)(H:List Bool):List Sp:=((E.zip H).foldl La ([],false)).1
abbrev Af5(H:List Bool):List I:=H.map I.bool
theorem A9e{H:List Bool}{k:Nat}{e:Bool}(h:H[k]?=some e):(Af5 H)[k]?=some (.bool e):=by simp[h]
theorem Bci(E:List Ai)(H:List Bool)(hEH:H.length=E.length)(hl:E.length≤5000):Fn Tryz.prog Ad7 [.v (.list (strs E)),.v (.list (Af5 H))] (Is (.v (.list (Cj (Ag0 E H)))) [.no,.no]):=by
 refine Adi ?_ (by simp)
 have hm:E.length≤maxLen:=by simp only[maxLen];omega
 have hzl:(E.zip H).length=E.length:=by rw[List.length_zip];omega
 repeat'((conv=>whnf);(refine eI ?_ ?_;focus (and_intros<;>omega)))
 all_goals(try(conv=>whnf))
 refine Bq.by (X:=Nat × List Sp × Bool) (fun x=>[(5,.vec 34 2 (Cj x.2.1)),(6,.v (.bool x.2.2)),(7,.v (.int .i64 x.1))])
  (fun x=>x.1≤E.length∧x.2=((E.zip H).take x.1).foldl La ([],false)∧x.2.1.length≤x.1∧(x.2.2=true→x.2.1≠[])) (fun x=>E.length - x.1)
  (0,[],false) (by kernel_rfl) ⟨Nat.zero_le _,rfl,Nat.le_refl _,by simp⟩ ?_
 rintro⟨k,out,op⟩ ⟨h1,h2,h3,h4⟩;dsimp only at h1 h2 h3 h4 ⊢;by_cases hk:k<E.length
 case neg=>
  have Bb:¬decide ((k:Int)<((strs E).length:Int))=true:=by simp;omega
  rw[List.take_of_length_le (by omega)]at h2
  have Tj:Ag0 E H=out:=by unfold Ag0;rw[←h2]
  rw[Tj];repeat'((conv=>whnf);first|(apply aI<;>intro hb<;>first|exact absurd hb (by assumption)|((try rw[hb]);(try simp only[Ad]at hb)))|(refine eI ?_ ?_;focus (and_intros<;>first|omega|exact rfl|(simp;done)))|(intro Aa))
  all_goals(try(conv=>whnf))
  exact Bd.mk ⟨rfl,by kernel_rfl⟩ (by kernel_rfl)
 obtain⟨e,he⟩:∃e,E[k]?=some e:=⟨_,List.getElem?_eq_getElem hk⟩;obtain⟨b,Y0⟩:∃b,H[k]?=some b:=⟨_,List.getElem?_eq_getElem (by omega)⟩
 have hg:(strs E)[Int.toNat (k:Int)]?=some (.str e):=Z1 he;have hgb:(Af5 H)[Int.toNat (k:Int)]?=some (.bool b):=A9e Y0;have Bb:¬decide ((k:Int)<((strs E).length:Int))=false:=by simp[hk]
 have Di:E.length - (k+1)<E.length - k:=by omega
 have Ek:((E.zip H).take (k+1)).foldl La ([],false)=La (out,op) (e,b):=by
  have hz:(E.zip H)[k]?=some (e,b):=by simp[List.getElem?_zip_eq_some,he,Y0]
  rw[List.take_add_one,hz,List.foldl_append, ←h2];rfl
 have e1:((Cj out).length+[(⟨e,[]⟩:Sp).Ae].length)*32≤140737488355328:=by
  rw[List.length_map];show(out.length+1)*32≤140737488355328;omega
 have e2:(Cj out).length+[(⟨e,[]⟩:Sp).Ae].length≤maxLen:=by
  rw[List.length_map];show out.length+1≤9223372036854775807;omega
 have e3:∀u∈[(⟨e,[]⟩:Sp).Ae],u.size=2:=Vh [⟨e,[]⟩];have Ru:Cj out++[(⟨e,[]⟩:Sp).Ae]=Cj (out++[⟨e,[]⟩]):=by simp
 cases b with
 |true=>
  cases op with
  |true=>
   rw[show La (out,true) (e,true)=(out,true)from rfl]at Ek;repeat'((conv=>whnf);first|(apply aI<;>intro hb<;>first|exact absurd hb (by first|assumption|decide)|((try rw[hb]);(try simp only[Ad]at hb)))|(refine eI ?_ ?_;focus (and_intros<;>first|omega|exact rfl))|(intro Aa)|((try dsimp only);rw[hgb]))
   all_goals(try(conv=>whnf))
   refine Round.by (k+1,out,true) ?_ ⟨hk,Ek.symm,by dsimp only;omega,h4⟩ Di
   dsimp only;rw[Ak hk hm];show norm _ _=Bt _ _
   kernel_rfl
  |false=>
   rw[show La (out,false) (e,true)=(out++[⟨e,[]⟩],true)from rfl]at Ek;repeat'((conv=>whnf);first|(apply aI<;>intro hb<;>first|exact absurd hb (by first|assumption|decide)|((try rw[hb]);(try simp only[Ad]at hb)))|(refine eI ?_ ?_;focus (and_intros<;>first|omega|exact rfl|assumption|(simp;done)))|(intro Aa)|((try dsimp only);rw[hg])|((try dsimp only);rw[hgb]))
   all_goals(try(conv=>whnf))
   refine Round.by (k+1,out++[⟨e,[]⟩],true) ?_ ⟨hk,Ek.symm,by simp;omega,by simp⟩ Di
   dsimp only;rw[Ak hk hm, ←Ru];show norm _ _=Bt _ _
   kernel_rfl
 |false=>
  cases op with
  |false=>
   rw[show La (out,false) (e,false)=(out,false)from rfl]at Ek;repeat'((conv=>whnf);first|(apply aI<;>intro hb<;>first|exact absurd hb (by first|assumption|decide)|((try rw[hb]);(try simp only[Ad]at hb)))|(refine eI ?_ ?_;focus (and_intros<;>first|omega|exact rfl))|(intro Aa)|((try dsimp only);rw[hgb]))
   all_goals(try(conv=>whnf))
   refine Round.by (k+1,out,false) ?_ ⟨hk,Ek.symm,by dsimp only;omega,by simp⟩ Di
   dsimp only;rw[Ak hk hm];show norm _ _=Bt _ _
   kernel_rfl
  |true=>
   rcases List.eq_nil_or_concat out with rfl|⟨o,F6,ho⟩
   ·exact absurd rfl (h4 rfl)
   rw[List.concat_eq_append]at ho;subst ho;have Jx:(Cj (o++[F6])).length=o.length+1:=by simp
   rw[show La (o++[F6],true) (e,false)=(o++[⟨F6.f,e⟩],false)from by simp[La]]at Ek
   have hw:IntKind.i64.wrap (((Cj (o++[F6])).length:Int) - 1)=(o.length:Int):=by
    rw[Jx];exact(Cf (by simp at h3;omega)).trans (by omega)
   have h0:0≤IntKind.i64.wrap (((Cj (o++[F6])).length:Int) - 1):=by rw[hw];omega
   have Rk:Int.toNat (IntKind.i64.wrap (((Cj (o++[F6])).length:Int) - 1))<(Cj (o++[F6])).length:=by rw[hw,Jx];omega
   have hgl:(Cj (o++[F6]))[Int.toNat (IntKind.i64.wrap (((Cj (o++[F6])).length:Int) - 1))]?=some F6.Ae:=by
    rw[hw];simp
   have hhl:=Bfv (e:=34) hgl;have Fe:Nf (Cj (o++[F6])) ([Int.toNat (IntKind.i64.wrap (((Cj (o++[F6])).length:Int) - 1))]++[1]) (.str e)=Cj (o++[⟨F6.f,e⟩]):=by
    rw[Bf9 hgl,hw];simp
   repeat'((conv=>whnf);first|(apply aI<;>intro hb<;>first|exact absurd hb (by first|assumption|decide)|((try rw[hb]);(try simp only[Ad]at hb)))|(refine eI ?_ ?_;focus (and_intros<;>first|omega|exact rfl|(simp;done)))|(intro Aa)|((try dsimp only);rw[hg])|((try dsimp only);rw[hgb])|((try dsimp only);rw[hhl]))
   all_goals(try(conv=>whnf))
   refine Round.by (k+1,o++[⟨F6.f,e⟩],false) ?_ ⟨hk,Ek.symm,by simp at h3 ⊢;omega,by simp⟩ Di
   dsimp only;rw[Ak hk hm, ←Fe];show norm _ _=Bt _ _
   kernel_rfl

open Go.Proofs
def Bhs(l:List Sp)(s:Sp):Prop:=Dk s∧∀e∈Hi (l++[s]),Jc s e→Kp l e
instance(l:List Sp)(s:Sp):Decidable (Bhs l s):=by unfold Bhs;infer_instance

abbrev Yh(E:List Ai):Prop:=E.Pairwise fun x y=>x<y
theorem Aky(s x:Ai):∀l:List Ai,x∈ins s l↔x=s∨x∈l
 | []=>by simp[ins]
 |y::r=>by
  unfold ins;have:=Aky s x r;split
  ·simp
  ·split
   ·rename_i h;subst h;simp
   ·simp[this];grind
theorem An2(s:Ai):∀{l:List Ai},Yh l→Yh (ins s l)
 | [],_=>by simp[ins,Yh]
 |y::r,h=>by
  obtain⟨h1,h2⟩:=List.pairwise_cons.1 h;unfold ins;split
  ·rename_i hs;refine List.pairwise_cons.2 ⟨fun z hz=>?_,h⟩
   rcases List.mem_cons.1 hz with rfl|hz
   ·exact hs
   ·have:=h1 z hz
    grind
  ·split
   ·exact h
   ·rename_i hs Aw;refine List.pairwise_cons.2 ⟨fun z hz=>?_,An2 s h2⟩
    rcases(Aky s z r).1 hz with rfl|hz
    ·grind
    ·exact h1 z hz
theorem A6m{E:List Ai}{s:Sp}(h:Yh E):Yh (Mi E s):=by
 unfold Mi;split
 ·exact An2 _ (An2 _ h)
 ·exact h
theorem A9m{E:List Ai}{s:Sp}{x:Ai}:x∈Mi E s↔x∈E∨(Dk s∧(x=s.f∨x=s.t)):=by
 unfold Mi;split
 ·rename_i h;rw[Aky,Aky]
  grind
 ·grind
theorem Xd(l:List Sp):Yh (Hi l)∧∀x,x∈Hi l↔x=[]∨∃s∈l,Dk s∧(x=s.f∨x=s.t):=by
 have:∀(l:List Sp) (E:List Ai),Yh E→Yh (l.foldl Mi E)∧∀x,x∈l.foldl Mi E↔x∈E∨∃s∈l,Dk s∧(x=s.f∨x=s.t):=by
  intro l;induction l with
  |nil=>intro E h;exact⟨h,by simp⟩
  |cons s r ih=>
   intro E h;obtain⟨h1,h2⟩:=ih (Mi E s) (A6m h);refine⟨h1,fun x=>?_⟩
   rw[List.foldl_cons,h2,A9m];simp only[List.mem_cons]
   grind
 obtain⟨h1,h2⟩:=this l [[]] (by simp[Yh])
 exact⟨h1,fun x=>by rw[Hi,h2];simp⟩
def R1(E:List Ai)(k e:Ai):Prop:=e∈E∧e≤k∧∀x∈E,x≤k→x≤e
theorem Ai7:∀{E:List Ai} {k:Ai},(∃e∈E,e≤k)→∃e,R1 E k e
 | [],k,h=>by simp at h
 |y::r,k,h=>by
  by_cases hr:∃e∈r,e≤k
  ·obtain⟨e,h1,h2,h3⟩:=Ai7 hr;by_cases hy:y≤k∧e<y
   ·refine⟨y,List.mem_cons_self ..,hy.1,fun x hx hxk=>?_⟩
    rcases List.mem_cons.1 hx with rfl|hx
    ·exact Std.le_refl _
    ·have:=h3 x hx hxk
     grind
   ·refine⟨e,List.mem_cons_of_mem _ h1,h2,fun x hx hxk=>?_⟩
    rcases List.mem_cons.1 hx with rfl|hx
    ·grind
    ·exact h3 x hx hxk
  ·obtain⟨e,he,Rx⟩:=h;rcases List.mem_cons.1 he with rfl|he
   ·refine⟨e,List.mem_cons_self ..,Rx,fun x hx hxk=>?_⟩
    rcases List.mem_cons.1 hx with rfl|hx
    ·exact Std.le_refl _
    ·exact absurd ⟨x,hx,hxk⟩ hr
   ·exact absurd ⟨e,he,Rx⟩ hr
theorem A6n{D:List Ai}{e k x:Ai}(h:∀d∈D,d<e):R1 (D++[e]) k x↔if e≤k then x=e else R1 D k x:=by
 unfold R1;simp only[List.mem_append,List.mem_singleton];split
 ·rename_i hk;constructor
  ·rintro⟨h1,h2,h3⟩;have h4:=h3 e (.inr rfl) hk;rcases h1 with h1|h1
   ·have:=h x h1
    grind
   ·exact h1
  ·rintro rfl;refine⟨.inr rfl,hk,fun y hy hyk=>?_⟩
   rcases hy with hy|rfl
   ·have:=h y hy
    grind
   ·exact Std.le_refl _
 ·rename_i hk;constructor
  ·rintro⟨h1,h2,h3⟩;refine⟨?_,h2,fun y hy hyk=>h3 y (.inl hy) hyk⟩
   rcases h1 with h1|rfl
   ·exact h1
   ·exact absurd h2 hk
  ·rintro⟨h1,h2,h3⟩;refine⟨.inl h1,h2,fun y hy hyk=>?_⟩
   rcases hy with hy|rfl
   ·exact h3 y hy hyk
   ·exact absurd hyk hk
structure Axi(p:Ai→Bool)(D:List Ai)(o:List Sp × Bool):Prop where
 canon:Canon o.1
 keys:∀k,Fb o.1 k↔∃e,R1 D k e∧p e=true
 Bsg:∀x∈o.1,x.f∈D
 shut:o.2=false→∀x∈o.1,x.t≠[]∧x.t∈D
 opened:o.2=true→∃q f,o.1=q++[⟨f,[]⟩]∧f∈D∧∀x∈q,x.t≠[]∧x.t∈D
theorem Abt(o:List Sp)(y:Sp)(k:Ai):Fb (o++[y]) k↔Fb o k∨Jc y k:=by
 unfold Fb;simp only[List.mem_append,List.mem_singleton];constructor
 ·rintro⟨x,hx|rfl,hk⟩
  ·exact .inl ⟨x,hx,hk⟩
  ·exact .inr hk
 ·rintro(⟨x,hx,hk⟩|hk)
  ·exact⟨x,.inl hx,hk⟩
  ·exact⟨y,.inr rfl,hk⟩
theorem Ba5{p:Ai→Bool}{D:List Ai}{o:List Sp × Bool}{e:Ai}(h:Axi p D o)(hD:∀d∈D,d<e):Axi p (D++[e]) (La o (e,p e)):=by
 obtain⟨out,op⟩:=o;obtain⟨hc,hk,hs,W5,Mw⟩:=h;dsimp only at hc hk hs W5 Mw;have Dw:∀k,(∃x,R1 (D++[e]) k x∧p x=true)↔if e≤k then p e=true else Fb out k:=by
  intro k;simp only[A6n hD];split
  ·constructor
   ·rintro⟨x,rfl,hx⟩;exact hx
   ·intro hx;exact⟨e,rfl,hx⟩
  ·rw[hk]
 have D0:∀x∈out,x.f∈D++[e]:=fun x hx=>List.mem_append_left _ (hs x hx)
 have dead:∀x∈out,x.t≠[]→x.t∈D→∀k,e≤k→¬Jc x k:=by
  intro x hx h1 h2 k Rx hh;have h3:=hD _ h2;have h4:=hh.2
  grind
 cases hp:p e with
 |true=>
  cases op with
  |true=>
   obtain⟨q,f,rfl,hf,hq⟩:=Mw rfl;refine⟨hc,fun k=>?_,D0,fun h=>(by cases h),fun _=>⟨q,f,rfl,List.mem_append_left _ hf,fun x hx=>⟨(hq x hx).1,List.mem_append_left _ (hq x hx).2⟩⟩⟩
   rw[Dw];split
   ·rename_i Rx;rw[hp];simp only[iff_true];show Fb (q++[⟨f,[]⟩]) k;rw[Abt];right;have:=hD f hf;exact⟨by dsimp only;grind,.inl rfl⟩
   ·rfl
  |false=>
   have W5:=W5 rfl;refine⟨?_,fun k=>?_,?_,fun h=>(by cases h),fun _=>⟨out,e,rfl,by simp,fun x hx=>⟨(W5 x hx).1,List.mem_append_left _ (W5 x hx).2⟩⟩⟩
   ·refine⟨?_,List.pairwise_append.2 ⟨hc.2,by simp,?_⟩⟩
    ·intro x hx;rcases List.mem_append.1 hx with hx|hx
     ·exact hc.1 x hx
     ·rw[List.mem_singleton.1 hx];exact .inl rfl
    ·intro x hx y hy;rw[List.mem_singleton.1 hy];exact⟨(W5 x hx).1,hD _ (W5 x hx).2⟩
   ·rw[Dw];show Fb (out++[⟨e,[]⟩]) k↔_;rw[Abt];split
    ·rename_i Rx;rw[hp];simp only[iff_true];exact .inr ⟨Rx,.inl rfl⟩
    ·rename_i Rx;constructor
     ·rintro(h|h)
      ·exact h
      ·exact absurd h.1 Rx
     ·exact .inl
   ·intro x hx;rcases List.mem_append.1 hx with hx|hx
    ·exact D0 x hx
    ·rw[List.mem_singleton.1 hx];simp
 |false=>
  cases op with
  |true=>
   obtain⟨q,f,rfl,hf,hq⟩:=Mw rfl;have hfe:=hD f hf;have hm:La (q++[⟨f,[]⟩],true) (e,false)=(q++[⟨f,e⟩],false):=by simp[La]
   rw[hm];have Aw:e≠[]:=by
    rintro rfl;exact List.not_lt_nil f hfe
   have hpw:=List.pairwise_append.1 hc.2;refine⟨⟨?_,List.pairwise_append.2 ⟨hpw.1,by simp,?_⟩⟩,fun k=>?_,?_,fun _ x hx=>?_,fun h=>(by cases h)⟩
   ·intro x hx;rcases List.mem_append.1 hx with hx|hx
    ·exact hc.1 x (List.mem_append_left _ hx)
    ·rw[List.mem_singleton.1 hx];exact .inr hfe
   ·intro x hx y hy;rw[List.mem_singleton.1 hy];exact hpw.2.2 x hx ⟨f,[]⟩ (by simp)
   ·rw[Dw];show Fb (q++[⟨f,e⟩]) k↔_;rw[Abt];split
    ·rename_i Rx;rw[hp];simp only[Bool.false_eq_true,iff_false];rintro(⟨x,hx,hk⟩|hk)
     ·exact dead x (List.mem_append_left _ hx) (hq x hx).1 (hq x hx).2 k Rx hk
     ·have:=hk.2;dsimp only at this
      grind
    ·rename_i Rx;rw[Abt];unfold Jc;dsimp only
     grind
   ·intro x hx;rcases List.mem_append.1 hx with hx|hx
    ·exact D0 x (List.mem_append_left _ hx)
    ·rw[List.mem_singleton.1 hx];exact List.mem_append_left _ hf
   ·rcases List.mem_append.1 hx with hx|hx
    ·exact⟨(hq x hx).1,List.mem_append_left _ (hq x hx).2⟩
    ·rw[List.mem_singleton.1 hx];exact⟨Aw,by simp⟩
  |false=>
   have W5:=W5 rfl;refine⟨hc,fun k=>?_,D0,fun _ x hx=>⟨(W5 x hx).1,List.mem_append_left _ (W5 x hx).2⟩,fun h=>(by cases h)⟩
   rw[Dw];split
   ·rename_i Rx;rw[hp];simp only[Bool.false_eq_true,iff_false];rintro⟨x,hx,hk⟩;exact dead x hx (W5 x hx).1 (W5 x hx).2 k Rx hk
   ·rfl
theorem Azw(p:Ai→Bool):∀{R D:List Ai} {o:List Sp × Bool},Axi p D o→Yh (D++R)→Axi p (D++R) ((R.zip (R.map p)).foldl La o)
 | [],D,o,h,_=>by simpa using h
 |e::R,D,o,h,hr=>by
  have h1:=Ba5 h fun d hd=>(List.pairwise_append.1 hr).2.2 d hd e (List.mem_cons_self ..)
  have:=Azw p (R:=R) h1 (by simpa using hr)
  simpa using this
theorem Ba2{p:Ai→Bool}{E:List Ai}(hr:Yh E):Canon (Ag0 E (E.map p))∧∀k,Fb (Ag0 E (E.map p)) k↔∃e,R1 E k e∧p e=true:=by
 have h0:Axi p [] ([],false):=⟨⟨by simp,by simp⟩,fun k=>by simp[Fb,R1],by simp,by simp,by simp⟩
 have:=Azw p (R:=E) h0 (by simpa using hr)
 rw[List.nil_append]at this;exact⟨this.canon,this.keys⟩
theorem Aa7{E:List Ai}{k e:Ai}(h:R1 E k e){s:Sp}(hf:s.f∈E)(ht:s.t∈E):Jc s k↔Jc s e:=by
 obtain⟨h1,h2,h3⟩:=h;have h4:=h3 _ hf;have h5:=h3 _ ht;unfold Jc
 grind
theorem A9t{l:List Sp}{E:List Ai}(hE:∀s∈l,Dk s→s.f∈E∧s.t∈E){k e:Ai}(h:R1 E k e):Kp l k↔Kp l e:=by
 unfold Kp;constructor
 ·rintro⟨s,hs,hr,hk⟩;obtain⟨h1,h2⟩:=hE s hs hr;exact⟨s,hs,hr,(Aa7 h h1 h2).1 hk⟩
 ·rintro⟨s,hs,hr,hk⟩;obtain⟨h1,h2⟩:=hE s hs hr;exact⟨s,hs,hr,(Aa7 h h1 h2).2 hk⟩
theorem A21(l:List Sp)(k:Ai):∃e,R1 (Hi l) k e:=Ai7 ⟨[],((Xd l).2 []).2 (.inl rfl),List.nil_le k⟩
theorem Ai3{l:List Sp}{s:Sp}(hs:s∈l)(hr:Dk s):s.f∈Hi l∧s.t∈Hi l:=
 ⟨((Xd l).2 _).2 (.inr ⟨s,hs,hr,.inl rfl⟩),((Xd l).2 _).2 (.inr ⟨s,hs,hr,.inr rfl⟩)⟩

open Go.Proofs Go.Shelf
theorem Bhk:A4e:=by
 intro G σ Fr w B6 Bu C4 E6;have W0:Aq G (.list []) (B6.getD 0 undef):=(E6 0 _ rfl).2;have Lm:Aq G (.fn 141) (B6.getD 1 undef):=(E6 1 _ rfl).2;rw[Aq.fn]at Lm;obtain⟨ad,cap,hc,_⟩:=Aq.list.1 W0;have Rv:B6= #[.slice ad 0 cap,.func (.func 141) #[] #[]]:=by
  rw[←Lm,show(.slice ad 0 cap:Value)=B6.getD 0 undef from hc.symm];apply Array.ext
  ·simpa using C4
  ·intro j h1 h2;have:j=0∨j=1:=by simp at h2;omega
   rcases this with rfl|rfl<;>simp[Array.getD,h1]
 have Abc:=AnyF.slices_SortFunc_none Bgi ad cap (.func (.func 141) #[] #[]) w;rw[Rv];refine Calls.mono Abc ?_;rintro e w' ⟨rfl,rfl⟩;refine⟨_,_,_,G,fun _=>none,rfl,⟨rfl,rfl⟩,Mem.le.refl G,⟨Bu.fixed,fun b Bg h=>by(cases h),fun b b' Bg h=>by(cases h),Bu.frame,rfl,rfl,rfl,Nat.le_refl _,Bu.apart,Bu.Jd⟩,rfl,⟨#[],rfl,rfl⟩,rfl,?_⟩
 intro i sv hi;have:sv= .no:=by
  have:=List.mem_of_getElem? hi;simpa using this
 subst this;exact⟨rfl,trivial⟩

open Go.Proofs
theorem A2f(u:List Sp)(s:Sp):(T5 u s).length≤u.length+1:=by
 unfold T5;split
 ·simp
 ·split
  ·simp
  ·split
   ·simp
   ·omega
theorem Atn(p:List Sp):(S2 p).length≤p.length:=by
 have:∀(p u:List Sp),(p.foldl T5 u).length≤u.length+p.length:=by
  intro p;induction p with
  |nil=>intro u;simp
  |cons s r ih=>
   intro u;have h1:=ih (T5 u s);have h2:=A2f u s;simp only[List.foldl_cons,List.length_cons];omega
 have h:=this p [];rw[List.length_nil,Nat.zero_add]at h;exact h
theorem A84(l:List Sp):(Uh l).length≤l.length:=by
 unfold Uh;refine Nat.le_trans (Atn _) ?_;rw[List.length_mergeSort];exact List.length_filter_le ..

def Azy(a b:Ai):Ai:=if(!Op.bytesLess a b)=true then a else b
theorem Asq(a b:Ai):Azy a b=if a<b then b else a:=by
 unfold Azy;rw[G5];by_cases h:a<b<;>simp[h]
def Ack(s x:Sp):List Sp:=if x.f<s.f then[⟨x.f,if Gr x.t s.f then s.f else x.t⟩]else[]
def Yq(s x:Sp):List Sp:=if s.t≠[]∧Gr x.t s.t then[⟨Azy x.f s.t,x.t⟩]else[]
def Rr(s x:Sp):List Sp:=Ack s x++Yq s x
def minus(l:List Sp)(s:Sp):List Sp:=if Dk s then(Uh l).flatMap (Rr s)else Uh l
theorem Vw{s x y:Sp}(h:y∈Rr s x):(x.f<s.f∧s.f≠[]∧y.f=x.f∧((Gr x.t s.f∧y.t=s.f)∨(¬Gr x.t s.f∧y.t=x.t)))∨(s.t≠[]∧Gr x.t s.t∧y.t=x.t∧((x.f<s.t∧y.f=s.t)∨(¬x.f<s.t∧y.f=x.f))):=by
 unfold Rr Ack Yq at h;rcases List.mem_append.1 h with h|h
 ·split at h
  ·rw[List.mem_singleton.1 h];left;rename_i h1;refine⟨h1,fun e=>List.not_lt_nil x.f (by rw[e]at h1;exact h1),rfl,?_⟩
   dsimp only;split
   ·exact .inl ⟨by assumption,rfl⟩
   ·exact .inr ⟨by assumption,rfl⟩
  ·cases h
 ·split at h
  ·rw[List.mem_singleton.1 h,Asq];rename_i hc;right;refine⟨hc.1,hc.2,rfl,?_⟩;dsimp only;split
   ·exact .inl ⟨by assumption,rfl⟩
   ·exact .inr ⟨by assumption,rfl⟩
  ·cases h
theorem Axx{s x:Sp}(hs:K0 s)(hx:K0 x)(k:Ai):(∃y∈Rr s x,Jc y k)↔Jc x k∧¬Jc s k:=by
 unfold K0 at hs hx;constructor
 ·rintro⟨y,hy,h1,h2⟩;have:=Vw hy;unfold Gr at this;unfold Jc
  grind
 ·rintro⟨⟨h1,h2⟩,h3⟩;unfold Jc at h3;by_cases h4:k<s.f
  ·refine⟨⟨x.f,if Gr x.t s.f then s.f else x.t⟩,List.mem_append_left _ (by unfold Ack;rw[if_pos (by grind)];exact List.mem_singleton.2 rfl),h1,?_⟩
   dsimp only;unfold Gr
   grind
  ·have h5:s.t≠[]∧¬k<s.t:=by grind
   refine⟨⟨Azy x.f s.t,x.t⟩,List.mem_append_right _ (by unfold Yq;rw[if_pos (by unfold Gr;grind)];exact List.mem_singleton.2 rfl),?_,h2⟩
   dsimp only;rw[Asq]
   grind
theorem Atu{s:Sp}(hs:K0 s){u:List Sp}(hu:Canon u):Canon (u.flatMap (Rr s)):=by
 unfold K0 at hs;refine⟨fun y hy=>?_,List.pairwise_flatMap.2 ⟨fun x hx=>?_,?_⟩⟩
 ·obtain⟨x,hx,hy⟩:=List.mem_flatMap.1 hy;have h1:=hu.1 x hx;have:=Vw hy;unfold Gr at this;unfold K0 at h1 ⊢
  grind
 ·have h1:=hu.1 x hx;unfold K0 at h1;refine List.pairwise_append.2 ⟨by unfold Ack;split<;>simp,by unfold Yq;split<;>simp,fun a ha b hb=>?_⟩
  unfold Ack at ha;unfold Yq at hb;split at ha
  ·rename_i h2;split at hb
   ·rename_i h3;rw[Asq]at hb;rw[List.mem_singleton.1 ha,List.mem_singleton.1 hb];dsimp only;unfold Gr at h3 ⊢;have h4:s.f≠[]:=by
     intro e;rw[e]at h2;exact List.not_lt_nil _ h2
    grind
   ·cases hb
  ·cases ha
 ·refine hu.2.imp_of_mem ?_;intro a b ha hb hab y1 hy1 y2 hy2;have h1:=hu.1 a ha;have h2:=hu.1 b hb;have h3:=Vw hy1;have h4:=Vw hy2;unfold Gr at h3 h4;unfold K0 at h1 h2;have h5:∀{p q:Ai},p<q→q≠[]:=by
   intro p q h e;rw[e]at h;exact List.not_lt_nil _ h
  grind
theorem A9h{s:Sp}(hs:Dk s){u:List Sp}(hc:Canon u)(hu:∀x∈u,Dk x):∀y∈u.flatMap (Rr s),Dk y:=by
 intro y hy;have Bky:=(Atu hs.2.2 hc).1 y hy;obtain⟨x,hx,hy⟩:=List.mem_flatMap.1 hy;have h1:=hu x hx;have:=Vw hy;have g1:=h1.1;have g2:=h1.2.1;have g3:=hs.1;have g4:=hs.2.1;refine⟨?_,?_,Bky⟩
 ·rcases this with⟨_,_,e,_⟩|⟨_,_,_,⟨_,e⟩|⟨_,e⟩⟩<;>rw[e]<;>assumption
 ·rcases this with⟨_,_,_,⟨_,e⟩|⟨_,e⟩⟩|⟨_,_,e,_⟩<;>rw[e]<;>assumption
theorem A29(l:List Sp)(s:Sp):Canon (minus l s):=by
 unfold minus;split
 ·rename_i h;exact Atu h.2.2 (Qf l)
 ·exact Qf l
theorem A3a(l:List Sp)(s:Sp):∀y∈minus l s,Dk y:=by
 unfold minus;split
 ·rename_i h;exact A9h h (Qf l) Avg
 ·exact Avg
theorem A7c(l:List Sp)(s:Sp)(k:Ai):Fb (minus l s) k↔Kp l k∧¬(Dk s∧Jc s k):=by
 unfold minus;split
 ·rename_i h;rw[←Aop];unfold Fb;constructor
  ·rintro⟨y,hy,hk⟩;obtain⟨x,hx,hy⟩:=List.mem_flatMap.1 hy;have:=(Axx h.2.2 ((Qf l).1 x hx) k).1 ⟨y,hy,hk⟩;exact⟨⟨x,hx,this.1⟩,fun g=>this.2 g.2⟩
  ·rintro⟨⟨x,hx,hk⟩,h2⟩;obtain⟨y,hy,hk⟩:=(Axx h.2.2 ((Qf l).1 x hx) k).2 ⟨hk,fun g=>h2 ⟨h,g⟩⟩
   exact⟨y,List.mem_flatMap.2 ⟨x,hx,hy⟩,hk⟩
 ·rename_i h;rw[Aop];simp[h]
def Nu(l:List Sp)(s:Sp)(e:Ai):Bool:=decide (Kp l e)&& !(decide (Dk s)&&decide (Jc s e))
def Lc(l:List Sp)(s:Sp):List Sp:=Ag0 (Hi (l++[s])) ((Hi (l++[s])).map (Nu l s))
theorem Aut(l:List Sp)(s:Sp):Lc l s=minus l s:=by
 obtain⟨h1,h2⟩:=Ba2 (p:=Nu l s) (Xd (l++[s])).1;refine Yk h1 (A29 l s) fun k=>?_
 rw[show Fb (Lc l s) k↔_ from h2 k,A7c];have aux:∀e,R1 (Hi (l++[s])) k e→(Nu l s e=true↔Kp l k∧¬(Dk s∧Jc s k)):=by
  intro e hf;rw[A9t (fun x hx hr=>Ai3 (List.mem_append_left _ hx) hr) hf]
  have:(Dk s∧Jc s k)↔(Dk s∧Jc s e):=by
   constructor
   ·rintro⟨h3,h4⟩;obtain⟨h5,h6⟩:=Ai3 (l:=l++[s]) (s:=s) (by simp) h3
    exact⟨h3,(Aa7 hf h5 h6).1 h4⟩
   ·rintro⟨h3,h4⟩;obtain⟨h5,h6⟩:=Ai3 (l:=l++[s]) (s:=s) (by simp) h3
    exact⟨h3,(Aa7 hf h5 h6).2 h4⟩
  rw[this];unfold Nu;by_cases g1:Dk s<;>by_cases g2:Jc s e<;>simp[g1,g2]
 constructor
 ·rintro⟨e,hf,he⟩;exact(aux e hf).1 he
 ·intro h;obtain⟨e,hf⟩:=A21 (l++[s]) k;exact⟨e,hf,(aux e hf).2 h⟩

open Go.Proofs
theorem A2a(l:List Sp)(s:Sp)(hl:l.length≤900):Fn Tryz.prog Acb [.v (.list (Cj l)),.v s.Ae] (Is (.v (.list (Cj (Lc l s)))) [.no,.no]):=by
 refine Aat ?_ (by simp)
 have Ru:[]++Cj l++[s.Ae]=Cj (l++[s]):=by simp
 have b1:(([]:List I).length+(Cj l).length)*32≤140737488355328:=by rw[List.length_map];show(0+l.length)*32≤_;omega
 have b2:([]:List I).length+(Cj l).length≤maxLen:=by rw[List.length_map];show 0+l.length≤9223372036854775807;omega
 have b3:=Vh l;have hll:([]++Cj l).length=l.length:=by simp
 have d1:(([]++Cj l).length+[s.Ae].length)*32≤140737488355328:=by rw[hll];show(l.length+1)*32≤_;omega
 have d2:([]++Cj l).length+[s.Ae].length≤maxLen:=by rw[hll];show l.length+1≤9223372036854775807;omega
 have d3:∀u∈[s.Ae],u.size=2:=Vh [s];have hE:=A8x (l++[s]) (by simp;omega)
 rw[←Ru]at hE;have hEl:(Hi (l++[s])).length≤2000:=by
  have:=Yu (l++[s]);simp at this;omega
 unfold Lc;generalize Hi (l++[s])=E at hE hEl;have hm:E.length≤maxLen:=by simp only[maxLen];omega
 have Bkv:=Bci E (E.map (Nu l s)) (by simp) (by omega)
 repeat'((conv=>whnf);first|(refine eI ?_ ?_;focus (and_intros<;>first|omega|exact rfl|assumption|(intro _ hh;cases hh;done)|(simp;done)|decide))|((with_reducible apply A5.B5);(focus kernel_rfl);intro Aa;(try simp only[dRS]at Aa))|(refine Aj.mk ⟨_,_,hE,?_⟩))
 all_goals(try(conv=>whnf))
 refine Bq.by (X:=Nat) (fun x=>[(6,.vec 4 1 (Af5 ((E.take x).map (Nu l s)))),(7,.v (.int .i64 x))]) (fun x=>x≤E.length) (fun x=>E.length - x)
  0 (by rw[List.take_zero];kernel_rfl) (Nat.zero_le _) ?_
 intro k h1;by_cases hk:k<E.length
 case neg=>
  have Bb:¬decide ((k:Int)<((strs E).length:Int))=true:=by simp;omega
  rw[show E.take k=E from List.take_of_length_le (by omega)]
  repeat'((conv=>whnf);first|(apply aI<;>intro hb<;>first|exact absurd hb (by assumption)|((try rw[hb]);(try simp only[Ad]at hb)))|(refine eI ?_ ?_;focus (and_intros<;>first|omega|exact rfl|(intro _ hh;cases hh;done)|(simp;done)|decide))|(intro Aa)|(refine Ac.mk ⟨_,Bkv,?_⟩;rintro _ _ ⟨rfl,rfl⟩))
  all_goals(try(conv=>whnf))
  exact Bd.mk ⟨rfl,by kernel_rfl⟩ (by kernel_rfl)
 obtain⟨e,he⟩:∃e,E[k]?=some e:=⟨_,List.getElem?_eq_getElem hk⟩;have hg:(strs E)[Int.toNat (k:Int)]?=some (.str e):=Z1 he;have Nq:Int.toNat (k:Int)<(strs E).length:=by simp[hk]
 have Bb:¬decide ((k:Int)<((strs E).length:Int))=false:=by simp[hk]
 have Di:E.length - (k+1)<E.length - k:=by omega
 have hbl:(Af5 ((E.take k).map (Nu l s))).length=k:=by simp;omega
 have Ru:∀v,Nu l s e=v→Af5 ((E.take (k+1)).map (Nu l s))=Af5 ((E.take k).map (Nu l s))++[I.bool v]:=by
  rintro v rfl;rw[List.take_add_one,he];simp
 by_cases c1:Kp l e
 case neg=>
  have g1:¬decide (Kp l e)=true:=by simp[c1]
  have Ru:=Ru false (by simp[Nu,c1])
  repeat'((conv=>whnf);first|(apply aI<;>intro hb<;>first|exact absurd hb (by first|assumption|decide)|((try rw[hb]);(try simp only[Ad]at hb)))|(refine eI ?_ ?_;focus (and_intros<;>first|omega|exact rfl|(intro _ hh;cases hh;done)|exact B8 (by rfl)|(simp only[Az];omega)|(simp;done)|decide))|(intro Aa)|((with_reducible apply A5.B5);(focus kernel_rfl);intro Aa;(try simp only[dRS]at Aa))|((try dsimp only);rw[hg])|(refine Aj.mk ⟨_,_,Aoj _ _,?_⟩))
  all_goals(try(conv=>whnf))
  refine Round.by (k+1) ?_ hk Di;rw[Ak hk hm,Ru];show norm _ _=Bt _ _
  kernel_rfl
 have g1:¬decide (Kp l e)=false:=by simp[c1]
 by_cases c2:Dk s
 case neg=>
  have g2:¬decide (Dk s)=true:=by simp[c2]
  have Ru:=Ru true (by simp[Nu,c1,c2])
  repeat'((conv=>whnf);first|(apply aI<;>intro hb<;>first|exact absurd hb (by first|assumption|decide)|((try rw[hb]);(try simp only[Ad]at hb)))|(refine eI ?_ ?_;focus (and_intros<;>first|omega|exact rfl|(intro _ hh;cases hh;done)|exact B8 (by rfl)|(simp only[Az];omega)|(simp;done)|decide))|(intro Aa)|((with_reducible apply A5.B5);(focus kernel_rfl);intro Aa;(try simp only[dRS]at Aa))|((try dsimp only);rw[hg])|(refine Aj.mk ⟨_,_,Aoj _ _,?_⟩)|(refine Aj.mk ⟨_,_,Hc _,?_⟩))
  all_goals(try(conv=>whnf))
  refine Round.by (k+1) ?_ hk Di;rw[Ak hk hm,Ru];show norm _ _=Bt _ _
  kernel_rfl
 have g2:¬decide (Dk s)=false:=by simp[c2]
 have Ru:=Ru (!decide (Jc s e)) (by simp[Nu,c1,c2])
 repeat'((conv=>whnf);first|(apply aI<;>intro hb<;>first|exact absurd hb (by first|assumption|decide)|((try rw[hb]);(try simp only[Ad]at hb)))|(refine eI ?_ ?_;focus (and_intros<;>first|omega|exact rfl|(intro _ hh;cases hh;done)|exact B8 (by rfl)|(simp only[Az];omega)|(simp;done)|decide))|(intro Aa)|((with_reducible apply A5.B5);(focus kernel_rfl);intro Aa;(try simp only[dRS]at Aa))|((try dsimp only);rw[hg])|(refine Aj.mk ⟨_,_,Aoj _ _,?_⟩)|(refine Aj.mk ⟨_,_,Hc _,?_⟩)|(refine Aj.mk ⟨_,_,Ahj _ _,?_⟩))
 all_goals(try(conv=>whnf))
 refine Round.by (k+1) ?_ hk Di;rw[Ak hk hm,Ru];show norm _ _=Bt _ _
 kernel_rfl
set_option maxHeartbeats 40000000

open Go.Proofs
theorem Az0(st:List Sp × Bool)(e:Ai × Bool):(La st e).1.length≤st.1.length+1:=by
 unfold La;split
 ·split
  ·simp
  ·simp
 ·split
  ·cases st.1.getLast? <;>simp
  ·simp
theorem Ajx:∀(l:List (Ai × Bool)) (st:List Sp × Bool),(l.foldl La st).1.length≤st.1.length+l.length
 | [],st=>Nat.le_refl _
 |e::l,st=>by
  have h1:=Ajx l (La st e);have h2:=Az0 st e;simp only[List.foldl_cons,List.length_cons];omega
theorem Va(g s:Sp):(Lc [g] s).length≤5:=by
 unfold Lc Ag0;have h1:=Ajx ((Hi ([g]++[s])).zip ((Hi ([g]++[s])).map (Nu [g] s))) ([],false);have h2:=Yu ([g]++[s]);simp at h1 h2 ⊢;omega
def Ph{α S:Type}(f:S→α→S)(s:S)(e:α):S ⊕ S:=.inl (f s e)
def X9{S:Type}(s:S):S:=s
theorem Uv{α S:Type}(f:S→α→S):∀(l:List α) (s:S),Ef (Ph f) X9 l s=l.foldl f s
 | [],_=>rfl
 |a::r,s=>by rw[Kh];simp[Ph,Gk,Uv f r]
def Lf(g:Dg)(out:List Dg)(sp:Sp):List Dg:=if out.any (fun e=>decide (e=⟨sp,g.r,g.w⟩))then out else out++[⟨sp,g.r,g.w⟩]
def Hb(s:Sp)(out:List Dg)(g:Dg):List Dg:=(Lc [g.sp] s).foldl (Lf g) out
def Wr(l:List Dg)(s:Sp):List Dg:=l.foldl (Hb s) []
theorem M3(g:Dg)(out:List Dg)(sp:Sp):(Lf g out sp).length≤out.length+1:=by
 unfold Lf;split<;>simp
theorem Aix(g:Dg):∀(l:List Sp) (out:List Dg),(l.foldl (Lf g) out).length≤out.length+l.length
 | [],_=>Nat.le_refl _
 |e::l,out=>by
  have h1:=Aix g l (Lf g out e);have h2:=M3 g out e;simp only[List.foldl_cons,List.length_cons];omega
theorem Aid(s:Sp)(out:List Dg)(g:Dg):(Hb s out g).length≤out.length+5:=by
 have h1:=Aix g (Lc [g.sp] s) out;have h2:=Va g.sp s;unfold Hb;omega
def Hu(r:A8)(c:Ds):A8 × Int:=
 if decide (Dk c.Bz.sp)=false then(r,1)
 else if r.Ex c.name<0 then(r,16)
 else match r.Am[(r.Ex c.name).toNat]? with
 |none=>(r,16)
 |some x=>
  if 8<((Wr x.A4 c.Bz.sp).length:Int)then(r,17)
  else({r with rev:=r.rev+1,Am:=r.Am.set (r.Ex c.name).toNat {x with A4:=Wr x.A4 c.Bz.sp}},0)
theorem Atg(r:A8)(hs:r.Small)(c:Ds)(Pu: -9223372036854775808≤r.rev∧r.rev<1099511627776)(Bsx:c.kind=12):Fn Tryz.prog C6 [.v r.Ae,.v c.Ae] (Is (.Dv [.i (Hu r c).1.Ae,.i (.int .i64 (Hu r c).2)]) [.no,.no]):=by
 refine Fn.isF (x:=[(Hu r c).1.Ae,.int .i64 (Hu r c).2]) ?_;refine C3 ?_ (by simp)
 have cp:=Ka r hs;have hw:IntKind.i64.wrap (r.rev+1)=r.rev+1:=Cf (by omega)
 have Jf:=hs.hT;have Kd:=hs.hU;have Pj:=hs.hX;have t1:=D6 r c.other (by omega)
 have u1:=Gc r c.name (by omega)
 have x1:=Fs r c.name (by omega)
 have s1:=Hc c.Bz.sp;rcases G7 (fun t:Bh=>decide (t.name=c.name)) 0 r.Am with h|⟨j,h,hj,x,Hg,Mg⟩
 ·have h':r.Ex c.name= -1:=h;rw[h']at x1;repeat'((conv=>whnf);first|(apply aI<;>intro hb<;>first|exact absurd hb (by decide)|(exfalso;simp only[Az]at hb<;>omega)|((try rw[hb]);(try simp only[Ad]at hb)))|(refine eI ?_ ?_;focus (and_intros<;>first|exact rfl|(intro _ hh;cases hh;done)|(simp;done)|decide))|((with_reducible apply A5.B5);(focus kernel_rfl);intro Aa;(try simp only[dRS]at Aa))|(refine Ac.mk ⟨_,cp,?_⟩;rintro _ _ ⟨rfl,rfl⟩)|((try dsimp only);rw[hw])|(refine Aj.mk ⟨_,_,t1,?_⟩)|(refine Aj.mk ⟨_,_,u1,?_⟩)|(refine Aj.mk ⟨_,_,x1,?_⟩)|(refine Ac.mk ⟨_,s1,?_⟩;rintro _ _ ⟨rfl,rfl⟩))
  all_goals(try(conv=>whnf))
  all_goals(refine Bd.mk ⟨?_,by kernel_rfl⟩ (by kernel_rfl))
  all_goals(try simp only[Hu,h'])
  all_goals(try simp only[Hu,h', *,if_true,if_false,Bool.false_eq_true,Bool.true_eq_false,Bool.not_true,Bool.not_false,decide_true,decide_false,not_true_eq_false,not_false_eq_true,ne_eq,reduceIte])
  all_goals(try simp only[F4,Es,I.put,List.replicate_succ,List.replicate_zero,Bx,D.Ae,Bn,Dy,List.map_cons,List.map_nil,List.set_cons_zero,List.set_cons_succ,Cu,Cn,List.map_set,Int.toNat_natCast])
  all_goals(try rfl)
 ·have h':r.Ex c.name=(j:Int):=by rw[show r.Ex c.name=((0+j:Nat):Int)from h,Nat.zero_add]
  rw[h']at x1;have hxl:=hs.hG x (List.mem_of_getElem? Hg);have Po:r.Am[Int.toNat (j:Int)]?=some x:=Hg;repeat'((conv=>whnf);first|(apply aI<;>intro hb<;>first|exact absurd hb (by decide)|(exfalso;simp only[Az]at hb<;>omega)|((try rw[hb]);(try simp only[Ad]at hb)))|(refine eI ?_ ?_;focus (and_intros<;>first|omega|exact rfl|(intro _ hh;cases hh;done)|(simp;done)|decide))|((with_reducible apply A5.B5);(focus kernel_rfl);intro Aa;(try simp only[dRS]at Aa))|(refine Ac.mk ⟨_,cp,?_⟩;rintro _ _ ⟨rfl,rfl⟩)|((try dsimp only);rw[hw])|(refine Aj.mk ⟨_,_,t1,?_⟩)|(refine Aj.mk ⟨_,_,u1,?_⟩)|(refine Aj.mk ⟨_,_,x1,?_⟩)|(refine Ac.mk ⟨_,s1,?_⟩;rintro _ _ ⟨rfl,rfl⟩)|((try dsimp only);first|rw[Av Hg]|rw[An Hg]|rw[Ap Hg]))
  all_goals(try(conv=>whnf))
  ·all_goals clear h Hg
   all_goals(refine Bd.mk ⟨?_,by kernel_rfl⟩ (by kernel_rfl))
   all_goals(try simp only[Hu,h',Po])
   all_goals(try simp only[Hu,h',Po, *,if_true,if_false,Bool.false_eq_true,Bool.true_eq_false,Bool.not_true,Bool.not_false,decide_true,decide_false,not_true_eq_false,not_false_eq_true,ne_eq,reduceIte])
   all_goals(try simp only[F4,Es,I.put,List.replicate_succ,List.replicate_zero,Bx,D.Ae,Bn,Dy,List.map_cons,List.map_nil,List.set_cons_zero,List.set_cons_succ,Cu,Cn,List.map_set,Int.toNat_natCast])
   all_goals(try rfl)
  have Ea:Ef (Ph (Hb c.Bz.sp)) X9 x.A4 []=Wr x.A4 c.Bz.sp:=Uv _ _ _;have hm:x.A4.length≤maxLen:=by simp only[maxLen];omega
  refine each x.A4 _ _ _ (fun k s=>[(14,.vec Ep 4 (s.map Dg.Ae)),(15,.v (.int .i64 k))]) (fun k s=>s.length≤5*k) [] (by kernel_rfl) (by simp) Ea ?_ ?_<;>clear Ea
  ·rintro k s e he hk hi hA;dsimp only at hi hA ⊢;have hrl:=Va e.sp c.Bz.sp;have Jx:=Aid c.Bz.sp s e;have m1:=A2a [e.sp] c.Bz.sp (by simp)
   repeat'((conv=>whnf);first|(apply aI<;>intro hb<;>first|(exfalso;simp only[Az]at hb<;>omega)|((try rw[hb]);(try simp only[Ad]at hb)))|(refine eI ?_ ?_;focus (and_intros<;>first|omega|exact rfl|(intro _ hh;cases hh;done)|exact B8 (by rfl)|(simp;done)|decide))|(intro Aa)|((with_reducible apply A5.B5);(focus kernel_rfl);intro Aa;(try simp only[dRS]at Aa))|((try dsimp only);first|rw[Av he]|rw[An he]|rw[Ap he])|(refine Aj.mk ⟨_,_,m1,?_⟩))
   all_goals(try(conv=>whnf))
   have hA2:Ef (Ph (Lf e)) X9 (Lc [e.sp] c.Bz.sp) s=Hb c.Bz.sp s e:=Uv _ _ _;obtain⟨l2,J5⟩:∃l2,l2=Lc [e.sp] c.Bz.sp:=⟨_,rfl⟩;rw[←J5]at hA2 hrl ⊢;obtain⟨hko,hmo⟩:k<x.A4.length∧x.A4.length≤maxLen:=⟨hk,hm⟩;refine each l2 _ _ _ (fun k s=>[(14,.vec Ep 4 (s.map Dg.Ae)),(17,.v (.int .i64 k))]) (fun k' s'=>s'.length≤s.length+k') s (by kernel_rfl) (by simp) hA2 ?_ ?_<;>clear hA2
   ·clear hA;rintro k' s' e' Sr hk Fh hA;dsimp only at Fh hA ⊢;have hm:l2.length≤maxLen:=by simp only[maxLen];omega
    have hx':l2[Int.toNat (k':Int)]?=some e':=Sr;have hg:=Wv s' ⟨e',e.r,e.w⟩ (by omega)
    repeat'((conv=>whnf);first|(apply aI<;>intro hb<;>first|(exfalso;simp only[Az]at hb<;>omega)|((try rw[hb]);(try simp only[Ad]at hb)))|(refine eI ?_ ?_;focus (and_intros<;>first|omega|exact rfl|exact B8 (by rfl)|(simp only[Az];omega)|(simp;done)))|(intro Aa)|((with_reducible apply A5.B5);(focus kernel_rfl);intro Aa;(try simp only[dRS]at Aa))|((try dsimp only);first|rw[Av Sr]|rw[An Sr]|rw[Ap Sr])|((try dsimp only);first|rw[Av he]|rw[An he]|rw[Ap he])|(refine Ac.mk ⟨_,hg,?_⟩;rintro _ _ ⟨rfl,rfl⟩))
    all_goals(try(conv=>whnf))
    all_goals(refine Dx.by (Lf e s' e') ?_ (by have:=M3 e s' e';omega) hA)
    all_goals(rw[Ak hk hm];unfold Lf;rename_i hb;rw[hb];simp only[if_true,Bool.false_eq_true,if_false,List.map_append,List.map_cons,List.map_nil])
    all_goals(show norm _ _=Bt _ _;kernel_rfl)
   ·rintro s' k' rfl Fh C5;dsimp only at Fh C5 ⊢;obtain rfl:s'=Hb c.Bz.sp s e:=C5;repeat'((conv=>whnf);first|(apply aI<;>intro hb<;>first|(exfalso;simp only[Az]at hb<;>omega)|((try rw[hb]);(try simp only[Ad]at hb)))|(refine eI ?_ ?_;focus (and_intros<;>exact rfl))|(intro Aa))
    all_goals(try(conv=>whnf))
    all_goals first
     |(simp[-List.append_assoc,Ph, *]at hA
       first
       |(refine Dx.Gk hA ?_ ?_
         ·(try dsimp only);(try rw[Ak hk hm]);(try simp only[List.map_append,List.map_cons,List.map_nil])
          show norm _ _=Bt _ _
          kernel_rfl
         ·first|trivial|omega|((try dsimp only);simp only[Az];omega)|((try dsimp only);(try simp at*);omega))
       |(refine Bd.mk ⟨?_,by kernel_rfl⟩ (by kernel_rfl)
         have C5:=hA;first|(rw[←C5];first|rfl|kernel_rfl|(simp only[List.map_append,List.map_cons,List.map_nil];first|rfl|kernel_rfl))|(rw[←Ff C5];first|rfl|kernel_rfl|(simp only[List.map_append,List.map_cons,List.map_nil];first|rfl|kernel_rfl))|(simp at C5 ⊢;simp[*];done))
      )
  ·rintro s k rfl hi hA;dsimp only at hi hA ⊢;obtain rfl:s=Wr x.A4 c.Bz.sp:=hA;repeat'((conv=>whnf);first|(apply aI<;>intro hb<;>first|(exfalso;simp only[Az]at hb<;>omega)|((try rw[hb]);(try simp only[Ad]at hb)))|(refine eI ?_ ?_;focus (and_intros<;>first|omega|exact rfl|(simp only[Az];omega)|(simp;done)))|(intro Aa)|((first|with_reducible apply Ahs|((with_reducible apply D9);(focus rfl)));(focus (simp only[D.at,D.put,D.Dj,D.Db,List.cons_append,List.nil_append,List.append,List.getElem?_cons_zero,List.getElem?_cons_succ,Int.toNat_natCast,List.getElem?_set_self',Option.map_eq_map,Option.map_some,List.set_cons_zero,List.set_cons_succ,List.set_set,Function.const_apply,List.map_cons,List.map_nil,Cu,Cn,D.Ae,Bx,Bn,List.getElem?_map,List.length_map,List.length_set,Hg]<;>exact rfl));(try(focus exact rfl))))
   all_goals(try(conv=>whnf))
   all_goals clear h Hg
   all_goals(refine Bd.mk ⟨?_,by kernel_rfl⟩ (by kernel_rfl))
   all_goals(try simp only[Hu,h',Po])
   all_goals(try simp only[Hu,h',Po, *,if_true,if_false,Bool.false_eq_true,Bool.true_eq_false,Bool.not_true,Bool.not_false,decide_true,decide_false,not_true_eq_false,not_false_eq_true,ne_eq,reduceIte])
   all_goals(try simp only[F4,Es,I.put,List.replicate_succ,List.replicate_zero,Bx,D.Ae,Bn,Dy,List.map_cons,List.map_nil,List.set_cons_zero,List.set_cons_succ,Cu,Cn,List.map_set,Int.toNat_natCast,Fm,A8.Ae,Bh.Ae,Akp hj])
   all_goals(try rfl)
set_option maxHeartbeats 4000000

open Go.Proofs
def Cz(s:Ai)(k lo hi:Int):Bool:=match s[k.toNat]? with
 |some c=>decide (lo≤(c.toNat:Int)∧(c.toNat:Int)≤hi)
 |none=>false
theorem Am6(s:Ai)(k lo hi:Int)(h0:0≤k):Fn Tryz.prog Z8 [.v (.str s),.v (.int .i64 k),.v (.int .u8 lo),.v (.int .u8 hi)] (Is (.v (.bool (Cz s k lo hi))) [.no,.no,.no,.no]):=by
 refine Zp ?_ (by simp)
 by_cases hk:k.toNat<s.length
 ·obtain⟨c,hc⟩:∃c,s[k.toNat]?=some c:=⟨_,List.getElem?_eq_getElem hk⟩;have Bb:¬decide (k<(s.length:Int))=false:=by simp;omega
  repeat'((conv=>whnf);first|(apply aI<;>intro hb<;>first|exact absurd hb (by first|assumption|decide)|((try rw[hb]);(try simp only[Ad]at hb)))|(refine eI ?_ ?_;focus (and_intros<;>first|omega|exact rfl))|(intro Aa)|((try dsimp only);rw[hc]))
  all_goals(try(conv=>whnf))
  all_goals(refine Bd.mk ⟨SV.Co ?_,by kernel_rfl⟩ (by kernel_rfl))
  all_goals(simp only[Cz,hc];simp at*;first|done|omega|grind)
 ·have Bb:¬decide (k<(s.length:Int))=true:=by simp;omega
  repeat'((conv=>whnf);first|(apply aI<;>intro hb<;>first|exact absurd hb (by first|assumption|decide)|((try rw[hb]);(try simp only[Ad]at hb)))|(refine eI ?_ ?_;focus (and_intros<;>exact rfl))|(intro Aa))
  all_goals(try(conv=>whnf))
  refine Bd.mk ⟨SV.Co ?_,by kernel_rfl⟩ (by kernel_rfl)
  simp[Cz,List.getElem?_eq_none (show s.length≤k.toNat by omega)]
def Ld(s:Ai)(k n:Nat):Bool:=(List.range n).all fun i=>Cz s ((k+i:Nat):Int) 128 191
theorem Akh(s:Ai)(k n:Nat)(hk:k≤10)(hn:n≤10):Fn Tryz.prog Ad5 [.v (.str s),.v (.int .i64 k),.v (.int .i64 n)] (Is (.v (.bool (Ld s k n))) [.no,.no,.no]):=by
 refine Adg ?_ (by simp)
 (conv=>whnf)
 all_goals(try(conv=>whnf))
 refine Bq.by (X:=Nat) (fun x=>[(7,.v (.int .i64 x))]) (fun x=>x≤n∧Ld s k x=true) (fun x=>n - x) 0 (by kernel_rfl) ⟨Nat.zero_le _,rfl⟩ ?_
 rintro x ⟨h1,h2⟩;by_cases hx:x<n
 ·have Bb:¬decide ((x:Int)<(n:Int))=false:=by simp[hx]
  have hw:IntKind.i64.wrap ((k:Int)+(x:Int))=((k+x:Nat):Int):=by
   rw[show(k:Int)+(x:Int)=((k+x:Nat):Int)by omega];exact Cf (by omega)
  have hs:=Am6 s ((k+x:Nat):Int) 128 191 (by omega)
  repeat'((conv=>whnf);first|(apply aI<;>intro hb<;>first|exact absurd hb (by assumption)|((try rw[hb]);(try simp only[Ad]at hb)))|(refine eI ?_ ?_;focus (and_intros<;>first|(intro _ hh;cases hh;done)|(simp;done)|decide))|((try dsimp only);rw[hw])|(refine Ac.mk ⟨_,hs,?_⟩;rintro _ _ ⟨rfl,rfl⟩))
  all_goals(try(conv=>whnf))
  ·rename_i hb;refine Bd.mk ⟨SV.Co ?_,by kernel_rfl⟩ (by kernel_rfl)
   try simp only[Bool.not_eq_true']at hb
   symm;simp only[Ld,List.all_eq_false,List.mem_range];exact⟨x,hx,by rw[hb];decide⟩
  ·rename_i hb;refine Round.by (x+1) ?_ ⟨hx,?_⟩ (by omega)
   ·rw[Ak hx (by simp only[maxLen];omega)]
    show norm _ _=Bt _ _
    kernel_rfl
   ·unfold Ld at h2 ⊢;rw[List.range_succ,List.all_append,h2];try simp only[Bool.not_eq_false']at hb
    simp only[List.all_cons,List.all_nil,Bool.and_true,Bool.true_and];exact hb
 ·have Bb:¬decide ((x:Int)<(n:Int))=true:=by simp;omega
  have:x=n:=by omega
  subst this;repeat'((conv=>whnf);(apply aI<;>intro hb<;>first|exact absurd hb (by assumption)|((try rw[hb]);(try simp only[Ad]at hb))))
  all_goals(try(conv=>whnf))
  refine Bd.mk ⟨SV.Co ?_,by kernel_rfl⟩ (by kernel_rfl)
  exact h2.symm
def Lq(s:Ai):Int:=
 if Cz s 0 0 127 then 1
 else if(Cz s 0 194 223&&Ld s 1 1)then 2
 else if(Ld s 1 2&&((Cz s 0 224 224&&Cz s 1 160 191)||Cz s 0 225 236||(Cz s 0 237 237&&Cz s 1 128 159)||Cz s 0 238 239))then 3
 else if(Ld s 1 3&&((Cz s 0 240 240&&Cz s 1 144 191)||Cz s 0 241 243||(Cz s 0 244 244&&Cz s 1 128 143)))then 4
 else 0
theorem Bck(s:Ai):Fn Tryz.prog Sk [.v (.str s)] (Is (.v (.int .i64 (Lq s))) [.no]):=by
 refine Adf ?_ (by simp)
 have t1:=Akh s 1 1 (by omega) (by omega)
 have t2:=Akh s 1 2 (by omega) (by omega)
 have t3:=Akh s 1 3 (by omega) (by omega)
 repeat'((conv=>whnf);first|(apply aI<;>intro hb<;>first|exact absurd hb (by decide)|((try rw[hb]);(try simp only[Ad]at hb)))|(refine eI ?_ ?_;focus (and_intros<;>first|(intro _ hh;cases hh;done)|(simp;done)|decide))|(refine Ac.mk ⟨_,Am6 _ _ _ _ (by omega),?_⟩;rintro _ _ ⟨rfl,rfl⟩)|(refine Ac.mk ⟨_,t1,?_⟩;rintro _ _ ⟨rfl,rfl⟩)|(refine Ac.mk ⟨_,t2,?_⟩;rintro _ _ ⟨rfl,rfl⟩)|(refine Ac.mk ⟨_,t3,?_⟩;rintro _ _ ⟨rfl,rfl⟩))
 all_goals(try(conv=>whnf))
 all_goals(refine Bd.mk ⟨congrArg (fun n=>SV.v (.int .i64 n)) ?_,by kernel_rfl⟩ (by kernel_rfl))
 all_goals(unfold Lq;simp at*;grind)
end Go.Ab
