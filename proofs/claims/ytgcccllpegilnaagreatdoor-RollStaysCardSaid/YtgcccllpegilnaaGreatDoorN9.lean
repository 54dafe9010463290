/- Lemmas -/
import Derived.Test.YtgcccllpegilnaaGreatDoorR14
import Derived.Shelf.SlSortCmp.NoneTotal
set_option linter.unusedVariables false
set_option linter.unusedSimpArgs false
set_option maxRecDepth 100000
namespace Go.Ab
abbrev Rise (E:List Ai):Prop:=E.Pairwise fun x y=>x<y
theorem Aky (s x:Ai):∀l:List Ai,x∈ins s l↔x=s∨x∈l
 | []=>by simp[ins]
 |y::r=>by
  unfold ins
  have:=Aky s x r
  split
  ·simp
  ·split
   ·rename_i h;subst h;simp
   ·simp[this];grind
theorem An2 (s:Ai):∀{l:List Ai},Rise l→Rise (ins s l)
 | [],_=>by simp[ins,Rise]
 |y::r,h=>by
  obtain⟨h1,h2⟩:=List.pairwise_cons.1 h
  unfold ins
  split
  ·rename_i hs
   refine List.pairwise_cons.2 ⟨fun z hz=>?_,h⟩
   rcases List.mem_cons.1 hz with rfl|hz
   ·exact hs
   ·have:=h1 z hz
    grind
  ·split
   ·exact h
   ·rename_i hs hne
    refine List.pairwise_cons.2 ⟨fun z hz=>?_,An2 s h2⟩
    rcases(Aky s z r).1 hz with rfl|hz
    ·grind
    ·exact h1 z hz
theorem A6m {E:List Ai} {s:Sp} (h:Rise E):Rise (estep E s):=by
 unfold estep
 split
 ·exact An2 _ (An2 _ h)
 ·exact h
theorem A9m {E:List Ai} {s:Sp} {x:Ai}:x∈estep E s↔x∈E∨(Dk s∧(x=s.f∨x=s.t)):=by
 unfold estep
 split
 ·rename_i h
  rw[Aky,Aky]
  grind
 ·grind
theorem Xd (l:List Sp):Rise (Hi l)∧∀x,x∈Hi l↔x=[]∨∃s∈l,Dk s∧(x=s.f∨x=s.t):=by
 have:∀(l:List Sp) (E:List Ai),Rise E→Rise (l.foldl estep E)∧∀x,x∈l.foldl estep E↔x∈E∨∃s∈l,Dk s∧(x=s.f∨x=s.t):=by
  intro l
  induction l with
  |nil=>intro E h;exact⟨h,by simp⟩
  |cons s r ih=>
   intro E h
   obtain⟨h1,h2⟩:=ih (estep E s) (A6m h)
   refine⟨h1,fun x=>?_⟩
   rw[List.foldl_cons,h2,A9m]
   simp only[List.mem_cons]
   grind
 obtain⟨h1,h2⟩:=this l [[]] (by simp[Rise])
 exact⟨h1,fun x=>by rw[Hi,h2];simp⟩
def R1 (E:List Ai) (k e:Ai):Prop:=e∈E∧e≤k∧∀x∈E,x≤k→x≤e
theorem Ai7:∀{E:List Ai} {k:Ai},(∃e∈E,e≤k)→∃e,R1 E k e
 | [],k,h=>by simp at h
 |y::r,k,h=>by
  by_cases hr:∃e∈r,e≤k
  ·obtain⟨e,h1,h2,h3⟩:=Ai7 hr
   by_cases hy:y≤k∧e<y
   ·refine⟨y,List.mem_cons_self ..,hy.1,fun x hx hxk=>?_⟩
    rcases List.mem_cons.1 hx with rfl|hx
    ·exact Std.le_refl _
    ·have:=h3 x hx hxk
     grind
   ·refine⟨e,List.mem_cons_of_mem _ h1,h2,fun x hx hxk=>?_⟩
    rcases List.mem_cons.1 hx with rfl|hx
    ·grind
    ·exact h3 x hx hxk
  ·obtain⟨e,he,hek⟩:=h
   rcases List.mem_cons.1 he with rfl|he
   ·refine⟨e,List.mem_cons_self ..,hek,fun x hx hxk=>?_⟩
    rcases List.mem_cons.1 hx with rfl|hx
    ·exact Std.le_refl _
    ·exact absurd ⟨x,hx,hxk⟩ hr
   ·exact absurd ⟨e,he,hek⟩ hr
theorem A6n {D:List Ai} {e k x:Ai} (h:∀d∈D,d<e):R1 (D++[e]) k x↔if e≤k then x=e else R1 D k x:=by
 unfold R1
 simp only[List.mem_append,List.mem_singleton]
 split
 ·rename_i hk
  constructor
  ·rintro⟨h1,h2,h3⟩
   have h4:=h3 e (.inr rfl) hk
   rcases h1 with h1|h1
   ·have:=h x h1
    grind
   ·exact h1
  ·rintro rfl
   refine⟨.inr rfl,hk,fun y hy hyk=>?_⟩
   rcases hy with hy|rfl
   ·have:=h y hy
    grind
   ·exact Std.le_refl _
 ·rename_i hk
  constructor
  ·rintro⟨h1,h2,h3⟩
   refine⟨?_,h2,fun y hy hyk=>h3 y (.inl hy) hyk⟩
   rcases h1 with h1|rfl
   ·exact h1
   ·exact absurd h2 hk
  ·rintro⟨h1,h2,h3⟩
   refine⟨.inl h1,h2,fun y hy hyk=>?_⟩
   rcases hy with hy|rfl
   ·exact h3 y hy hyk
   ·exact absurd hyk hk
structure MInv (p:Ai→Bool) (D:List Ai) (o:List Sp × Bool):Prop where
 canon:Canon o.1
 keys:∀k,Keys o.1 k↔∃e,R1 D k e∧p e=true
 starts:∀x∈o.1,x.f∈D
 shut:o.2=false→∀x∈o.1,x.t≠[]∧x.t∈D
 opened:o.2=true→∃q f,o.1=q++[⟨f,[]⟩]∧f∈D∧∀x∈q,x.t≠[]∧x.t∈D
theorem Abt (o:List Sp) (y:Sp) (k:Ai):Keys (o++[y]) k↔Keys o k∨SpH y k:=by
 unfold Keys
 simp only[List.mem_append,List.mem_singleton]
 constructor
 ·rintro⟨x,hx|rfl,hk⟩
  ·exact .inl ⟨x,hx,hk⟩
  ·exact .inr hk
 ·rintro(⟨x,hx,hk⟩|hk)
  ·exact⟨x,.inl hx,hk⟩
  ·exact⟨y,.inr rfl,hk⟩
theorem Ba5 {p:Ai→Bool} {D:List Ai} {o:List Sp × Bool} {e:Ai} (h:MInv p D o) (hD:∀d∈D,d<e):MInv p (D++[e]) (mstep o (e,p e)):=by
 obtain⟨out,op⟩:=o
 obtain⟨hc,hk,hs,hsh,hop⟩:=h
 dsimp only at hc hk hs hsh hop
 have hnew:∀k,(∃x,R1 (D++[e]) k x∧p x=true)↔if e≤k then p e=true else Keys out k:=by
  intro k
  simp only[A6n hD]
  split
  ·constructor
   ·rintro⟨x,rfl,hx⟩;exact hx
   ·intro hx;exact⟨e,rfl,hx⟩
  ·rw[hk]
 have hs':∀x∈out,x.f∈D++[e]:=fun x hx=>List.mem_append_left _ (hs x hx)
 have dead:∀x∈out,x.t≠[]→x.t∈D→∀k,e≤k→¬SpH x k:=by
  intro x hx h1 h2 k hek hh
  have h3:=hD _ h2
  have h4:=hh.2
  grind
 cases hp:p e with
 |true=>
  cases op with
  |true=>
   obtain⟨q,f,rfl,hf,hq⟩:=hop rfl
   refine⟨hc,fun k=>?_,hs',fun h=>(by cases h),fun _=>⟨q,f,rfl,List.mem_append_left _ hf,fun x hx=>⟨(hq x hx).1,List.mem_append_left _ (hq x hx).2⟩⟩⟩
   rw[hnew]
   split
   ·rename_i hek
    rw[hp]
    simp only[iff_true]
    show Keys (q++[⟨f,[]⟩]) k
    rw[Abt]
    right
    have:=hD f hf
    exact⟨by dsimp only;grind,.inl rfl⟩
   ·rfl
  |false=>
   have hsh:=hsh rfl
   refine⟨?_,fun k=>?_,?_,fun h=>(by cases h),fun _=>⟨out,e,rfl,by simp,fun x hx=>⟨(hsh x hx).1,List.mem_append_left _ (hsh x hx).2⟩⟩⟩
   ·refine⟨?_,List.pairwise_append.2 ⟨hc.2,by simp,?_⟩⟩
    ·intro x hx
     rcases List.mem_append.1 hx with hx|hx
     ·exact hc.1 x hx
     ·rw[List.mem_singleton.1 hx];exact .inl rfl
    ·intro x hx y hy
     rw[List.mem_singleton.1 hy]
     exact⟨(hsh x hx).1,hD _ (hsh x hx).2⟩
   ·rw[hnew]
    show Keys (out++[⟨e,[]⟩]) k↔_
    rw[Abt]
    split
    ·rename_i hek
     rw[hp]
     simp only[iff_true]
     exact .inr ⟨hek,.inl rfl⟩
    ·rename_i hek
     constructor
     ·rintro(h|h)
      ·exact h
      ·exact absurd h.1 hek
     ·exact .inl
   ·intro x hx
    rcases List.mem_append.1 hx with hx|hx
    ·exact hs' x hx
    ·rw[List.mem_singleton.1 hx];simp
 |false=>
  cases op with
  |true=>
   obtain⟨q,f,rfl,hf,hq⟩:=hop rfl
   have hfe:=hD f hf
   have hm:mstep (q++[⟨f,[]⟩],true) (e,false)=(q++[⟨f,e⟩],false):=by simp[mstep]
   rw[hm]
   have hne:e≠[]:=by
    rintro rfl
    exact List.not_lt_nil f hfe
   have hpw:=List.pairwise_append.1 hc.2
   refine⟨⟨?_,List.pairwise_append.2 ⟨hpw.1,by simp,?_⟩⟩,fun k=>?_,?_,fun _ x hx=>?_,fun h=>(by cases h)⟩
   ·intro x hx
    rcases List.mem_append.1 hx with hx|hx
    ·exact hc.1 x (List.mem_append_left _ hx)
    ·rw[List.mem_singleton.1 hx];exact .inr hfe
   ·intro x hx y hy
    rw[List.mem_singleton.1 hy]
    exact hpw.2.2 x hx ⟨f,[]⟩ (by simp)
   ·rw[hnew]
    show Keys (q++[⟨f,e⟩]) k↔_
    rw[Abt]
    split
    ·rename_i hek
     rw[hp]
     simp only[Bool.false_eq_true,iff_false]
     rintro(⟨x,hx,hk⟩|hk)
     ·exact dead x (List.mem_append_left _ hx) (hq x hx).1 (hq x hx).2 k hek hk
     ·have:=hk.2
      dsimp only at this
      grind
    ·rename_i hek
     rw[Abt]
     unfold SpH
     dsimp only
     grind
   ·intro x hx
    rcases List.mem_append.1 hx with hx|hx
    ·exact hs' x (List.mem_append_left _ hx)
    ·rw[List.mem_singleton.1 hx];exact List.mem_append_left _ hf
   ·rcases List.mem_append.1 hx with hx|hx
    ·exact⟨(hq x hx).1,List.mem_append_left _ (hq x hx).2⟩
    ·rw[List.mem_singleton.1 hx];exact⟨hne,by simp⟩
  |false=>
   have hsh:=hsh rfl
   refine⟨hc,fun k=>?_,hs',fun _ x hx=>⟨(hsh x hx).1,List.mem_append_left _ (hsh x hx).2⟩,fun h=>(by cases h)⟩
   rw[hnew]
   split
   ·rename_i hek
    rw[hp]
    simp only[Bool.false_eq_true,iff_false]
    rintro⟨x,hx,hk⟩
    exact dead x hx (hsh x hx).1 (hsh x hx).2 k hek hk
   ·rfl
theorem Azw (p:Ai→Bool):∀{R D:List Ai} {o:List Sp × Bool},MInv p D o→Rise (D++R)→MInv p (D++R) ((R.zip (R.map p)).foldl mstep o)
 | [],D,o,h,_=>by simpa using h
 |e::R,D,o,h,hr=>by
  have h1:=Ba5 h fun d hd=>(List.pairwise_append.1 hr).2.2 d hd e (List.mem_cons_self ..)
  have:=Azw p (R:=R) h1 (by simpa using hr)
  simpa using this
theorem Ba2 {p:Ai→Bool} {E:List Ai} (hr:Rise E):Canon (Ag0 E (E.map p))∧∀k,Keys (Ag0 E (E.map p)) k↔∃e,R1 E k e∧p e=true:=by
 have h0:MInv p [] ([],false):=⟨⟨by simp,by simp⟩,fun k=>by simp[Keys,R1],by simp,by simp,by simp⟩
 have:=Azw p (R:=E) h0 (by simpa using hr)
 rw[List.nil_append]at this
 exact⟨this.canon,this.keys⟩
theorem Aa7 {E:List Ai} {k e:Ai} (h:R1 E k e) {s:Sp} (hf:s.f∈E) (ht:s.t∈E):SpH s k↔SpH s e:=by
 obtain⟨h1,h2,h3⟩:=h
 have h4:=h3 _ hf
 have h5:=h3 _ ht
 unfold SpH
 grind
theorem A9t {l:List Sp} {E:List Ai} (hE:∀s∈l,Dk s→s.f∈E∧s.t∈E) {k e:Ai} (h:R1 E k e):AnyH l k↔AnyH l e:=by
 unfold AnyH
 constructor
 ·rintro⟨s,hs,hr,hk⟩
  obtain⟨h1,h2⟩:=hE s hs hr
  exact⟨s,hs,hr,(Aa7 h h1 h2).1 hk⟩
 ·rintro⟨s,hs,hr,hk⟩
  obtain⟨h1,h2⟩:=hE s hs hr
  exact⟨s,hs,hr,(Aa7 h h1 h2).2 hk⟩
theorem A21 (l:List Sp) (k:Ai):∃e,R1 (Hi l) k e:=Ai7 ⟨[],((Xd l).2 []).2 (.inl rfl),List.nil_le k⟩
theorem Ai3 {l:List Sp} {s:Sp} (hs:s∈l) (hr:Dk s):s.f∈Hi l∧s.t∈Hi l:=
 ⟨((Xd l).2 _).2 (.inr ⟨s,hs,hr,.inl rfl⟩),((Xd l).2 _).2 (.inr ⟨s,hs,hr,.inr rfl⟩)⟩

open Go.Proofs Go.Shelf
theorem Bhk:A4e:=by
 intro G σ Fr w cargs hok hcl hargs
 have hc0:RepV G (.list []) (cargs.getD 0 undef):=(hargs 0 _ rfl).2
 have hc1:RepV G (.fn 141) (cargs.getD 1 undef):=(hargs 1 _ rfl).2
 rw[RepV.fn]at hc1
 obtain⟨ad,cap,hc,_⟩:=RepV.list.1 hc0
 have hca:cargs= #[.slice ad 0 cap,.func (.func 141) #[] #[]]:=by
  rw[←hc1,show(.slice ad 0 cap:Value)=cargs.getD 0 undef from hc.symm]
  apply Array.ext
  ·simpa using hcl
  ·intro j h1 h2
   have:j=0∨j=1:=by simp at h2;omega
   rcases this with rfl|rfl<;>simp[Array.getD,h1]
 have hcall:=AnyF.slices_SortFunc_none Bgi ad cap (.func (.func 141) #[] #[]) w
 rw[hca]
 refine Calls.mono hcall ?_
 rintro e w' ⟨rfl,rfl⟩
 refine⟨_,_,_,G,fun _=>none,rfl,⟨rfl,rfl⟩,Mem.le.refl G,⟨hok.fixed,fun b lab h=>by(cases h),fun b b' lab h=>by(cases h),hok.frame,rfl,rfl,rfl,Nat.le_refl _,hok.apart,hok.amb⟩,rfl,⟨#[],rfl,rfl⟩,rfl,?_⟩
 intro i sv hi
 have:sv= .no:=by
  have:=List.mem_of_getElem? hi
  simpa using this
 subst this
 exact⟨rfl,trivial⟩
set_option maxHeartbeats 4000000

open Go.Proofs
theorem A2f (u:List Sp) (s:Sp):(T5 u s).length≤u.length+1:=by
 unfold T5
 split
 ·simp
 ·split
  ·simp
  ·split
   ·simp
   ·omega
theorem Atn (p:List Sp):(S2 p).length≤p.length:=by
 have:∀(p u:List Sp),(p.foldl T5 u).length≤u.length+p.length:=by
  intro p
  induction p with
  |nil=>intro u;simp
  |cons s r ih=>
   intro u
   have h1:=ih (T5 u s)
   have h2:=A2f u s
   simp only[List.foldl_cons,List.length_cons]
   omega
 have h:=this p []
 rw[List.length_nil,Nat.zero_add]at h
 exact h
theorem A84 (l:List Sp):(uni l).length≤l.length:=by
 unfold uni
 refine Nat.le_trans (Atn _) ?_
 rw[List.length_mergeSort]
 exact List.length_filter_le ..

def maxS (a b:Ai):Ai:=if(!Op.bytesLess a b)=true then a else b
theorem Asq (a b:Ai):maxS a b=if a<b then b else a:=by
 unfold maxS
 rw[G5]
 by_cases h:a<b<;>simp[h]
def cutA (s x:Sp):List Sp:=if x.f<s.f then[⟨x.f,if Gr x.t s.f then s.f else x.t⟩]else[]
def cutB (s x:Sp):List Sp:=if s.t≠[]∧Gr x.t s.t then[⟨maxS x.f s.t,x.t⟩]else[]
def Rr (s x:Sp):List Sp:=cutA s x++cutB s x
def minus (l:List Sp) (s:Sp):List Sp:=if Dk s then(uni l).flatMap (Rr s)else uni l
theorem Vw {s x y:Sp} (h:y∈Rr s x):(x.f<s.f∧s.f≠[]∧y.f=x.f∧((Gr x.t s.f∧y.t=s.f)∨(¬Gr x.t s.f∧y.t=x.t)))∨(s.t≠[]∧Gr x.t s.t∧y.t=x.t∧((x.f<s.t∧y.f=s.t)∨(¬x.f<s.t∧y.f=x.f))):=by
 unfold Rr cutA cutB at h
 rcases List.mem_append.1 h with h|h
 ·split at h
  ·rw[List.mem_singleton.1 h]
   left
   rename_i h1
   refine⟨h1,fun e=>List.not_lt_nil x.f (by rw[e]at h1;exact h1),rfl,?_⟩
   dsimp only
   split
   ·exact .inl ⟨by assumption,rfl⟩
   ·exact .inr ⟨by assumption,rfl⟩
  ·cases h
 ·split at h
  ·rw[List.mem_singleton.1 h,Asq]
   rename_i hc
   right
   refine⟨hc.1,hc.2,rfl,?_⟩
   dsimp only
   split
   ·exact .inl ⟨by assumption,rfl⟩
   ·exact .inr ⟨by assumption,rfl⟩
  ·cases h
theorem Axx {s x:Sp} (hs:Sane s) (hx:Sane x) (k:Ai):(∃y∈Rr s x,SpH y k)↔SpH x k∧¬SpH s k:=by
 unfold Sane at hs hx
 constructor
 ·rintro⟨y,hy,h1,h2⟩
  have:=Vw hy
  unfold Gr at this
  unfold SpH
  grind
 ·rintro⟨⟨h1,h2⟩,h3⟩
  unfold SpH at h3
  by_cases h4:k<s.f
  ·refine⟨⟨x.f,if Gr x.t s.f then s.f else x.t⟩,List.mem_append_left _ (by unfold cutA;rw[if_pos (by grind)];exact List.mem_singleton.2 rfl),h1,?_⟩
   dsimp only
   unfold Gr
   grind
  ·have h5:s.t≠[]∧¬k<s.t:=by grind
   refine⟨⟨maxS x.f s.t,x.t⟩,List.mem_append_right _ (by unfold cutB;rw[if_pos (by unfold Gr;grind)];exact List.mem_singleton.2 rfl),?_,h2⟩
   dsimp only
   rw[Asq]
   grind
theorem Atu {s:Sp} (hs:Sane s) {u:List Sp} (hu:Canon u):Canon (u.flatMap (Rr s)):=by
 unfold Sane at hs
 refine⟨fun y hy=>?_,List.pairwise_flatMap.2 ⟨fun x hx=>?_,?_⟩⟩
 ·obtain⟨x,hx,hy⟩:=List.mem_flatMap.1 hy
  have h1:=hu.1 x hx
  have:=Vw hy
  unfold Gr at this
  unfold Sane at h1 ⊢
  grind
 ·have h1:=hu.1 x hx
  unfold Sane at h1
  refine List.pairwise_append.2 ⟨by unfold cutA;split<;>simp,by unfold cutB;split<;>simp,fun a ha b hb=>?_⟩
  unfold cutA at ha
  unfold cutB at hb
  split at ha
  ·rename_i h2
   split at hb
   ·rename_i h3
    rw[Asq]at hb
    rw[List.mem_singleton.1 ha,List.mem_singleton.1 hb]
    dsimp only
    unfold Gr at h3 ⊢
    have h4:s.f≠[]:=by
     intro e
     rw[e]at h2
     exact List.not_lt_nil _ h2
    grind
   ·cases hb
  ·cases ha
 ·refine hu.2.imp_of_mem ?_
  intro a b ha hb hab y1 hy1 y2 hy2
  have h1:=hu.1 a ha
  have h2:=hu.1 b hb
  have h3:=Vw hy1
  have h4:=Vw hy2
  unfold Gr at h3 h4
  unfold Sane at h1 h2
  have h5:∀{p q:Ai},p<q→q≠[]:=by
   intro p q h e
   rw[e]at h
   exact List.not_lt_nil _ h
  grind
theorem A29 (l:List Sp) (s:Sp):Canon (minus l s):=by
 unfold minus
 split
 ·rename_i h;exact Atu h.2.2 (Qf l)
 ·exact Qf l
theorem A7c (l:List Sp) (s:Sp) (k:Ai):Keys (minus l s) k↔AnyH l k∧¬(Dk s∧SpH s k):=by
 unfold minus
 split
 ·rename_i h
  rw[←Aop]
  unfold Keys
  constructor
  ·rintro⟨y,hy,hk⟩
   obtain⟨x,hx,hy⟩:=List.mem_flatMap.1 hy
   have:=(Axx h.2.2 ((Qf l).1 x hx) k).1 ⟨y,hy,hk⟩
   exact⟨⟨x,hx,this.1⟩,fun g=>this.2 g.2⟩
  ·rintro⟨⟨x,hx,hk⟩,h2⟩
   obtain⟨y,hy,hk⟩:=(Axx h.2.2 ((Qf l).1 x hx) k).2 ⟨hk,fun g=>h2 ⟨h,g⟩⟩
   exact⟨y,List.mem_flatMap.2 ⟨x,hx,hy⟩,hk⟩
 ·rename_i h
  rw[Aop]
  simp[h]
def Nu (l:List Sp) (s:Sp) (e:Ai):Bool:=decide (AnyH l e)&& !(decide (Dk s)&&decide (SpH s e))
def Lc (l:List Sp) (s:Sp):List Sp:=Ag0 (Hi (l++[s])) ((Hi (l++[s])).map (Nu l s))
theorem Aut (l:List Sp) (s:Sp):Lc l s=minus l s:=by
 obtain⟨h1,h2⟩:=Ba2 (p:=Nu l s) (Xd (l++[s])).1
 refine Yk h1 (A29 l s) fun k=>?_
 rw[show Keys (Lc l s) k↔_ from h2 k,A7c]
 have aux:∀e,R1 (Hi (l++[s])) k e→(Nu l s e=true↔AnyH l k∧¬(Dk s∧SpH s k)):=by
  intro e hf
  rw[A9t (fun x hx hr=>Ai3 (List.mem_append_left _ hx) hr) hf]
  have:(Dk s∧SpH s k)↔(Dk s∧SpH s e):=by
   constructor
   ·rintro⟨h3,h4⟩
    obtain⟨h5,h6⟩:=Ai3 (l:=l++[s]) (s:=s) (by simp) h3
    exact⟨h3,(Aa7 hf h5 h6).1 h4⟩
   ·rintro⟨h3,h4⟩
    obtain⟨h5,h6⟩:=Ai3 (l:=l++[s]) (s:=s) (by simp) h3
    exact⟨h3,(Aa7 hf h5 h6).2 h4⟩
  rw[this]
  unfold Nu
  by_cases g1:Dk s<;>by_cases g2:SpH s e<;>simp[g1,g2]
 constructor
 ·rintro⟨e,hf,he⟩
  exact(aux e hf).1 he
 ·intro h
  obtain⟨e,hf⟩:=A21 (l++[s]) k
  exact⟨e,hf,(aux e hf).2 h⟩
set_option maxHeartbeats 40000000

open Go.Proofs
theorem Az0 (st:List Sp × Bool) (e:Ai × Bool):(mstep st e).1.length≤st.1.length+1:=by
 unfold mstep
 split
 ·split
  ·simp
  ·simp
 ·split
  ·cases st.1.getLast? <;>simp
  ·simp
theorem Ajx:∀(l:List (Ai × Bool)) (st:List Sp × Bool),(l.foldl mstep st).1.length≤st.1.length+l.length
 | [],st=>Nat.le_refl _
 |e::l,st=>by
  have h1:=Ajx l (mstep st e)
  have h2:=Az0 st e
  simp only[List.foldl_cons,List.length_cons]
  omega
theorem Va (g s:Sp):(Lc [g] s).length≤5:=by
 unfold Lc Ag0
 have h1:=Ajx ((Hi ([g]++[s])).zip ((Hi ([g]++[s])).map (Nu [g] s))) ([],false)
 have h2:=Yu ([g]++[s])
 simp at h1 h2 ⊢
 omega
def Ph {α S:Type} (f:S→α→S) (s:S) (e:α):S ⊕ S:=.inl (f s e)
def X9 {S:Type} (s:S):S:=s
theorem Uv {α S:Type} (f:S→α→S):∀(l:List α) (s:S),runL (Ph f) X9 l s=l.foldl f s
 | [],_=>rfl
 |a::r,s=>by rw[Kh];simp[Ph,aft,Uv f r]
def addG (g:Gra) (out:List Gra) (sp:Sp):List Gra:=if out.any (fun e=>decide (e=⟨sp,g.r,g.w⟩))then out else out++[⟨sp,g.r,g.w⟩]
def Hb (s:Sp) (out:List Gra) (g:Gra):List Gra:=(Lc [g.sp] s).foldl (addG g) out
def revM (l:List Gra) (s:Sp):List Gra:=l.foldl (Hb s) []
theorem M3 (g:Gra) (out:List Gra) (sp:Sp):(addG g out sp).length≤out.length+1:=by
 unfold addG;split<;>simp
theorem Aix (g:Gra):∀(l:List Sp) (out:List Gra),(l.foldl (addG g) out).length≤out.length+l.length
 | [],_=>Nat.le_refl _
 |e::l,out=>by
  have h1:=Aix g l (addG g out e)
  have h2:=M3 g out e
  simp only[List.foldl_cons,List.length_cons]
  omega
theorem Aid (s:Sp) (out:List Gra) (g:Gra):(Hb s out g).length≤out.length+5:=by
 have h1:=Aix g (Lc [g.sp] s) out
 have h2:=Va g.sp s
 unfold Hb
 omega
def Hu (r:Roll) (c:Cmd):Roll × Int:=
 if decide (Dk c.grant.sp)=false then(r,1)
 else if r.rolAt c.name<0 then(r,16)
 else match r.rols[(r.rolAt c.name).toNat]? with
 |none=>(r,16)
 |some x=>
  if 8<((revM x.grants c.grant.sp).length:Int)then(r,17)
  else({r with rev:=r.rev+1,rols:=r.rols.set (r.rolAt c.name).toNat {x with grants:=revM x.grants c.grant.sp}},0)
set_option maxHeartbeats 4000000

open Go.Proofs
theorem Be4 (o:List Sp):sps (o++([]++[]))=sps o:=by simp
theorem Be5 (o:List Sp) (a:Sp):sps (o++([a]++[]))=sps o++[a.toI]:=by simp
theorem Be6 (o:List Sp) (b:Sp):sps (o++([]++[b]))=sps o++[b.toI]:=by simp
theorem Be7 (o:List Sp) (a b:Sp):sps (o++([a]++[b]))=sps o++[a.toI]++[b.toI]:=by simp
theorem A8v (l:List Sp) (s:Sp) (hl:l.length≤1000):Fn Tryz.prog Axe [.v (.list (sps l)),.v s.toI] (Is (.v (.list (sps (minus l s)))) [.no,.no]):=by
 refine Awa ?_ (by simp)
 have hu:=A8z Bhk l hl
 have hul:(uni l).length≤1000:=Nat.le_trans (A84 l) hl
 by_cases hr:Dk s
 case neg=>
  have n1:¬(!decide (Dk s))=false:=by simp[hr]
  rw[show minus l s=uni l from if_neg hr]
  repeat'((conv=>whnf);first|(apply aI<;>intro hb<;>first|exact absurd hb (by assumption)|((try rw[hb]);(try simp only[Ad]at hb)))|(refine eI ?_ ?_;focus (and_intros<;>first|omega|exact rfl|(intro _ hh;cases hh;done)|(simp;done)|decide))|(refine CallWp.mk ⟨_,hu,?_⟩;rintro _ _ ⟨rfl,rfl⟩)|(refine CallWp.mk ⟨_,Rz _,?_⟩;rintro _ _ ⟨rfl,rfl⟩))
  all_goals(try(conv=>whnf))
  exact Done.mk ⟨rfl,by kernel_rfl⟩ (by kernel_rfl)
 have n1:¬(!decide (Dk s))=true:=by simp[hr]
 have hfin:minus l s=(uni l).flatMap (Rr s):=if_pos hr
 generalize uni l=u at hu hul hfin
 rw[hfin]
 clear hfin
 have hmax:u.length≤maxLen:=by simp only[maxLen];omega
 repeat'((conv=>whnf);first|(apply aI<;>intro hb<;>first|exact absurd hb (by assumption)|((try rw[hb]);(try simp only[Ad]at hb)))|(refine eI ?_ ?_;focus (and_intros<;>first|omega|exact rfl|(intro _ hh;cases hh;done)|(simp;done)|decide))|(intro hfact)|(refine CallWp.mk ⟨_,hu,?_⟩;rintro _ _ ⟨rfl,rfl⟩)|(refine CallWp.mk ⟨_,Rz _,?_⟩;rintro _ _ ⟨rfl,rfl⟩))
 all_goals(try(conv=>whnf))
 refine LoopWq.by (X:=Nat × List Sp) (fun x=>[(6,.vec 34 2 (sps x.2)),(18,.v (.int .i64 x.1))]) (fun x=>x.1≤u.length∧x.2=(u.take x.1).flatMap (Rr s)∧x.2.length≤2*x.1) (fun x=>u.length - x.1)
  (0,[]) (by kernel_rfl) ⟨Nat.zero_le _,rfl,Nat.le_refl _⟩ ?_
 rintro⟨k,out⟩ ⟨h1,h2,h3⟩
 dsimp only at h1 h2 h3 ⊢
 by_cases hk:k<u.length
 case neg=>
  have hlt:¬decide ((k:Int)<((sps u).length:Int))=true:=by simp;omega
  rw[show u.take k=u from List.take_of_length_le (by omega)]at h2
  subst h2
  repeat'((conv=>whnf);first|(apply aI<;>intro hb<;>first|exact absurd hb (by assumption)|((try rw[hb]);(try simp only[Ad]at hb)))|(refine eI ?_ ?_;focus (and_intros<;>first|omega|exact rfl|(simp;done))))
  all_goals(try(conv=>whnf))
  exact Done.mk ⟨rfl,by kernel_rfl⟩ (by kernel_rfl)
 obtain⟨e,he⟩:∃e,u[k]?=some e:=⟨_,List.getElem?_eq_getElem hk⟩
 have hlt:¬decide ((k:Int)<((sps u).length:Int))=false:=by simp[hk]
 have hg:(sps u)[Int.toNat (k:Int)]?=some e.toI:=Vg he
 have hkl:Int.toNat (k:Int)<(sps u).length:=by simp[hk]
 have hround:u.length - (k+1)<u.length - k:=by omega
 have hsucc:(u.take (k+1)).flatMap (Rr s)=out++(cutA s e++cutB s e):=by
  rw[List.take_add_one,he,List.flatMap_append, ←h2]
  simp[Rr]
 have hA:(¬Op.bytesLess e.f s.f=true∧cutA s e=[])∨(¬Op.bytesLess e.f s.f=false∧¬decide (0<Nn e.t s.f)=false∧cutA s e=[⟨e.f,s.f⟩])∨(¬Op.bytesLess e.f s.f=false∧¬decide (0<Nn e.t s.f)=true∧cutA s e=[⟨e.f,e.t⟩]):=by
  simp only[Ut,G5]
  unfold cutA
  by_cases g1:e.f<s.f<;>by_cases g2:Gr e.t s.f<;>simp[g1,g2]
 have hB:(¬(!decide (s.t=[]))=true∧cutB s e=[])∨(¬(!decide (s.t=[]))=false∧¬decide (0<Nn e.t s.t)=true∧cutB s e=[])∨(¬(!decide (s.t=[]))=false∧¬decide (0<Nn e.t s.t)=false∧¬(!Op.bytesLess e.f s.t)=false∧cutB s e=[⟨e.f,e.t⟩])∨
  (¬(!decide (s.t=[]))=false∧¬decide (0<Nn e.t s.t)=false∧¬(!Op.bytesLess e.f s.t)=true∧cutB s e=[⟨s.t,e.t⟩]):=by
  simp only[Ut]
  unfold cutB maxS
  by_cases g1:s.t=[]<;>by_cases g2:Gr e.t s.t<;>by_cases g3:(!Op.bytesLess e.f s.t)=true<;>simp[g1,g2,g3]at*
 rcases hA with⟨a1,hA⟩|⟨a1,a2,hA⟩|⟨a1,a2,hA⟩<;>rcases hB with⟨b1,hB⟩|⟨b1,b2,hB⟩|⟨b1,b2,b3,hB⟩|⟨b1,b2,b3,hB⟩
 all_goals rw[hA,hB]at hsucc
 all_goals(
  repeat'((conv=>whnf);first|(apply aI<;>intro hb<;>first|exact absurd hb (by first|assumption|decide)|((try rw[hb]);(try simp only[Ad]at hb)))|(refine eI ?_ ?_;focus (and_intros<;>first|omega|exact rfl|(intro _ hh;cases hh;done)|exact B8 (by rfl)|(simp only[Az];omega)|(simp;done)|decide))|((try dsimp only);rw[hg])|(refine CallWp.mk ⟨_,Wa _ _,?_⟩;rintro _ _ ⟨rfl,rfl⟩))
  all_goals(try(conv=>whnf))
  refine Round.by (k+1,_) ?_ ⟨hk,hsucc.symm,by simp;omega⟩ hround
  dsimp only
  rw[Ak hk hmax]
  first|rw[Be4]|rw[Be5]|rw[Be6]|rw[Be7]
  show norm _ _=upd _ _
  kernel_rfl)
set_option maxHeartbeats 40000000

open Go.Proofs
abbrev revP (s:Sp) (l:List Gra):List Gra:=revM l s
def D5 (r:Roll) (c:Cmd):Roll × Int:=
 if c.kind=9 then
  if D2 c.name=false then(r,5)
  else if Et Rol.name r.rols c.name=true then(r,15)
  else if(getT r.tens c.other).2=false then(r,16)
  else if 16≤(r.rols.length:Int)then(r,17)
  else({r with rols:=Hk (Ch Rol.name r.rols c.name) ⟨c.name,c.other,[]⟩ r.rols},0)
 else if c.kind=11∧(decide (Dk c.grant.sp)&&(c.grant.r||c.grant.w))=false then(r,1)
 else if c.kind=12∧decide (Dk c.grant.sp)=false then(r,1)
 else if Et Rol.name r.rols c.name=false then(r,16)
 else if c.kind=10 then({r with rols:=H6 (Ch Rol.name r.rols c.name) r.rols,usrs:=r.usrs.map (T6 c.name)},0)
 else match r.rols[Ch Rol.name r.rols c.name]? with
 |none=>(r,16)
 |some x=>
  if c.kind=11 then
   if x.grants.any (fun e=>decide (e=c.grant))=true then(r,15)
   else if 8≤(x.grants.length:Int)then(r,17)
   else({r with rols:=r.rols.set (Ch Rol.name r.rols c.name) {x with grants:=x.grants++[c.grant]}},0)
  else if c.kind=12 then
   if 8<((revP c.grant.sp x.grants).length:Int)then(r,17)
   else({r with rols:=r.rols.set (Ch Rol.name r.rols c.name) {x with grants:=revP c.grant.sp x.grants}},0)
  else(r,0)
def Lp (r:Roll) (c:Cmd):D:=
 if c.kind=9∧(D5 r c).2=0 then .st [.it (.int .i64 r.rev),.vec Cc 3 ((r.tens.map Ten.toI).map D.it),.vec B3 5 (r.usrs.map Usr.toD),.vec B2 3 (Hk (Ch Rol.name r.rols c.name) (.it (Rol.toI ⟨c.name,c.other,[]⟩)) (r.rols.map Rol.toD))]
 else(D5 r c).1.toD
theorem A37 (r:Roll) (hs:r.Small) (c:Cmd) (hk:c.kind=9):Fn Tryz.prog Rp [.own [] (.ptr r.toD),.v c.toI] (Is (.v (.int .i64 (D5 r c).2)) [.own [] (.ptr (Lp r c)),.no]):=by
 refine R6 ?_ (by simp)
 have hs':=hs
 obtain⟨b1,b2,b3,b4,b5⟩:=hs
 have hf:=T3 r.rols c.name (by omega)
 have hn:=X0 c.name
 have ht:=Nv r hs' c.other
 repeat'((conv=>whnf);first|(apply aI<;>intro hb<;>first|(exfalso;simp only[Az]at hb<;>omega)|((try rw[hb]);(try simp only[Ad]at hb)))|(refine eI ?_ ?_;focus (and_intros<;>first|omega|exact rfl|(intro _ hh;cases hh;done)|(simp;done)|decide))|(intro hfact)|((with_reducible apply Drawn.by0);(focus kernel_rfl);intro hfact;(try simp only[dRS]at hfact))|((simp only[show D.at (0::[].append [3]) (D.ptr r.toD)=some (D.vec B2 3 (r.rols.map Rol.toD))from rfl,Ge,show D.at [0] (D.ptr r.toD)=some r.toD from rfl,Dr]))|(refine CallIs.mk ⟨_,_,hf,?_⟩)|(refine CallWp.mk ⟨_,hn,?_⟩;rintro _ _ ⟨rfl,rfl⟩)|(refine CallIs.mk ⟨_,_,ht,?_⟩))
 all_goals(try(conv=>whnf))
 all_goals(
  obtain⟨X,hX⟩:∃X,D5 r c=X:=⟨_,rfl⟩
  obtain⟨Y,hY⟩:∃Y,Lp r c=Y:=⟨_,rfl⟩
  have hY2:=hY
  unfold Lp at hY2
  rw[hX]at hY2
  rw[hX,hY]
  clear hY
  simp[D5, *, -hY2]at hX
  subst hX
  simp only[hk,true_and,false_and,if_true,if_false,Int.reduceEq]at hY2
  subst hY2)
 all_goals try(apply dK<;>kernel_rfl)
 have hle:=S9 Rol.name r.rols c.name
 have hins:=A15 (r.rols.map Rol.toD) (.it (Rol.toI ⟨c.name,c.other,[]⟩)) (Ch Rol.name r.rols c.name) (by simp;omega) (by simp;omega)
 have htn:=R7 ⟨c.name,c.other,[]⟩
 refine Agr ?_ (by decide)
 repeat'((conv=>whnf);first|(refine eI ?_ ?_;focus (and_intros<;>first|omega|exact rfl|(intro _ hh;cases hh;done)|exact F5 rfl|(simp;done)|decide))|((with_reducible apply Drawn.by0);(focus kernel_rfl);intro hfact;(try simp only[dRS]at hfact))|((simp only[show D.at (0::[].append [3]) (D.ptr r.toD)=some (D.vec B2 3 (r.rols.map Rol.toD))from rfl,Ge,show D.at [0] (D.ptr r.toD)=some r.toD from rfl,Dr]))|(refine CallIs.mk ⟨_,_,hf,?_⟩)|(refine CallIs.mk ⟨_,_,htn,?_⟩)|(refine CallIs.mk ⟨_,_,hins,?_⟩))
 all_goals(try(conv=>whnf))
 (apply dK<;>kernel_rfl)
theorem A18 (r:Roll) (hs:r.Small) (c:Cmd) (hk:c.kind=11):Fn Tryz.prog Rp [.own [] (.ptr r.toD),.v c.toI] (Is (.v (.int .i64 (D5 r c).2)) [.own [] (.ptr (Lp r c)),.no]):=by
 refine R6 ?_ (by simp)
 have hs':=hs
 obtain⟨b1,b2,b3,b4,b5⟩:=hs
 have hf:=T3 r.rols c.name (by omega)
 have hU:Lp r c=(D5 r c).1.toD:=by simp[Lp,hk]
 rw[hU]
 have hg:=Ab5 c.grant
 cases hgr:(decide (Dk c.grant.sp)&&(c.grant.r||c.grant.w))with
 |false=>
  rw[hgr]at hg
  rw[show D5 r c=(r,1)by simp only[D5,hk,hgr,Int.reduceEq,if_false,if_true,and_self]]
  repeat'((conv=>whnf);first|(apply aI<;>intro hb<;>first|exact absurd hb (by decide)|(exfalso;simp only[Az]at hb<;>omega)|((try rw[hb]);(try simp only[Ad]at hb)))|(refine eI ?_ ?_;focus (and_intros<;>first|omega|exact rfl|(intro _ hh;cases hh;done)|(simp;done)|decide))|((with_reducible apply Drawn.by0);(focus kernel_rfl);intro hfact;(try simp only[dRS]at hfact))|((simp only[show D.at (0::[].append [3]) (D.ptr r.toD)=some (D.vec B2 3 (r.rols.map Rol.toD))from rfl,Ge,show D.at [0] (D.ptr r.toD)=some r.toD from rfl,Dr]))|(refine CallIs.mk ⟨_,_,hf,?_⟩)|(refine CallWp.mk ⟨_,hg,?_⟩;rintro _ _ ⟨rfl,rfl⟩))
  all_goals(try(conv=>whnf))
  all_goals(apply dK<;>kernel_rfl)
 |true=>
 rw[hgr]at hg
 cases hb:Et Rol.name r.rols c.name with
 |false=>
  rw[hb]at hf
  rw[show D5 r c=(r,16)by simp only[D5,hk,hgr,hb,Int.reduceEq,if_false,if_true,and_false,false_and,Bool.true_eq_false]]
  repeat'((conv=>whnf);first|(apply aI<;>intro hb<;>first|exact absurd hb (by decide)|(exfalso;simp only[Az]at hb<;>omega)|((try rw[hb]);(try simp only[Ad]at hb)))|(refine eI ?_ ?_;focus (and_intros<;>first|omega|exact rfl|(intro _ hh;cases hh;done)|(simp;done)|decide))|((with_reducible apply Drawn.by0);(focus kernel_rfl);intro hfact;(try simp only[dRS]at hfact))|((simp only[show D.at (0::[].append [3]) (D.ptr r.toD)=some (D.vec B2 3 (r.rols.map Rol.toD))from rfl,Ge,show D.at [0] (D.ptr r.toD)=some r.toD from rfl,Dr]))|(refine CallIs.mk ⟨_,_,hf,?_⟩)|(refine CallWp.mk ⟨_,hg,?_⟩;rintro _ _ ⟨rfl,rfl⟩))
  all_goals(try(conv=>whnf))
  all_goals(apply dK<;>kernel_rfl)
 |true=>
  rw[hb]at hf
  obtain⟨x,hx, -⟩:=Lv hb
  have hlt:Ch Rol.name r.rols c.name<r.rols.length:=(List.getElem?_eq_some_iff.1 hx).1
  have hxl:=b5 x (List.mem_of_getElem? hx)
  have hP:D5 r c=(if x.grants.any (fun e=>decide (e=c.grant))=true then(r,15)
   else if 8≤(x.grants.length:Int)then(r,17)
   else({r with rols:=r.rols.set (Ch Rol.name r.rols c.name) {x with grants:=x.grants++[c.grant]}},0)):=by
   simp only[D5,hk,hgr,hb,hx,Int.reduceEq,if_false,if_true,and_false,false_and,Bool.true_eq_false]
  rw[hP]
  clear hP hU
  have hc:=Q2 x.grants c.grant (by omega)
  have hxd:(r.rols.map Rol.toD)[Ch Rol.name r.rols c.name]?=some x.toD:=by simp[hx]
  have hset:(r.rols.set (Ch Rol.name r.rols c.name) {x with grants:=x.grants++[c.grant]}).map Rol.toD=(r.rols.map Rol.toD).set (Ch Rol.name r.rols c.name) (Rol.toD {x with grants:=x.grants++[c.grant]}):=by simp[List.map_set]
  have hD:Roll.toD {r with rols:=r.rols.set (Ch Rol.name r.rols c.name) {x with grants:=x.grants++[c.grant]}}= .st [.it (.int .i64 r.rev),.vec Cc 3 ((r.tens.map Ten.toI).map D.it),.vec B3 5 (r.usrs.map Usr.toD),.vec B2 3 ((r.rols.map Rol.toD).set (Ch Rol.name r.rols c.name) (.st [.it (.str x.name),.it (.str x.ten),.vec Ep 4 (((x.grants.map Gra.toI).map D.it)++[D.it c.grant.toI])]))]:=by
   show D.st [_,_,_,D.vec _ _ (List.map _ (r.rols.set _ _))]=_
   rw[hset]
   simp only[Rol.toD,List.map_append,List.map_cons,List.map_nil]
  cases ha:x.grants.any fun e=>decide (e=c.grant)with
  |true=>
   rw[ha]at hc
   rw[if_pos rfl]
   repeat'((conv=>whnf);first|(apply aI<;>intro hb<;>first|exact absurd hb (by decide)|(exfalso;simp only[Az]at hb<;>omega)|((try rw[hb]);(try simp only[Ad]at hb)))|(refine eI ?_ ?_;focus (and_intros<;>first|omega|exact rfl|(intro _ hh;cases hh;done)|(simp only[Az];omega)|(simp;done)|decide))|((with_reducible apply Drawn.by0);(focus kernel_rfl);intro hfact;(try simp only[dRS]at hfact))|((simp only[show D.at (0::[].append [3]) (D.ptr r.toD)=some (D.vec B2 3 (r.rols.map Rol.toD))from rfl,Ge,show D.at [0] (D.ptr r.toD)=some r.toD from rfl,Dr]))|(refine CallIs.mk ⟨_,_,hf,?_⟩)|(refine CallWp.mk ⟨_,hg,?_⟩;rintro _ _ ⟨rfl,rfl⟩)|(refine CallIs.mk ⟨_,_,hc,?_⟩)|((first|with_reducible apply Lr|((with_reducible apply D9);(focus rfl)));(focus (simp only[D.at,D.put,D.kid,D.setKid,List.cons_append,List.nil_append,List.append,List.getElem?_cons_zero,List.getElem?_cons_succ,Int.toNat_natCast,List.getElem?_set_self',Option.map_eq_map,Option.map_some,List.set_cons_zero,List.set_cons_succ,List.set_set,Function.const_apply,List.map_cons,List.map_nil,mkSt,Cn,D.toI,toIs,Bn,List.getElem?_map,List.length_map,List.length_set,hxd]<;>exact rfl));(try(focus exact rfl))))
   all_goals(try(conv=>whnf))
   (apply dK<;>kernel_rfl)
  |false=>
   rw[ha]at hc
   rw[if_neg (by simp)]
   by_cases h8:8≤(x.grants.length:Int)
   ·rw[if_pos h8]
    repeat'((conv=>whnf);first|(apply aI<;>intro hb<;>first|exact absurd hb (by decide)|(exfalso;simp only[Az]at hb<;>omega)|((try rw[hb]);(try simp only[Ad]at hb)))|(refine eI ?_ ?_;focus (and_intros<;>first|omega|exact rfl|(intro _ hh;cases hh;done)|(simp only[Az];omega)|(simp;done)|decide))|(intro hfact)|((with_reducible apply Drawn.by0);(focus kernel_rfl);intro hfact;(try simp only[dRS]at hfact))|((simp only[show D.at (0::[].append [3]) (D.ptr r.toD)=some (D.vec B2 3 (r.rols.map Rol.toD))from rfl,Ge,show D.at [0] (D.ptr r.toD)=some r.toD from rfl,Dr]))|(refine CallIs.mk ⟨_,_,hf,?_⟩)|(refine CallWp.mk ⟨_,hg,?_⟩;rintro _ _ ⟨rfl,rfl⟩)|(refine CallIs.mk ⟨_,_,hc,?_⟩)|((first|with_reducible apply Lr|((first|with_reducible apply D9|with_reducible apply X8);(focus rfl)));(focus (simp only[D.at,D.put,D.kid,D.setKid,List.cons_append,List.nil_append,List.append,List.getElem?_cons_zero,List.getElem?_cons_succ,Int.toNat_natCast,List.getElem?_set_self',Option.map_eq_map,Option.map_some,List.set_cons_zero,List.set_cons_succ,List.set_set,Function.const_apply,List.map_cons,List.map_nil,mkSt,Cn,D.toI,toIs,Bn,List.getElem?_map,List.length_map,List.length_set,hxd]<;>exact rfl));(try(focus exact rfl))))
    all_goals(try(conv=>whnf))
    (apply dK<;>kernel_rfl)
   ·rw[if_neg h8,hD]
    repeat'((conv=>whnf);first|(apply aI<;>intro hb<;>first|exact absurd hb (by decide)|(exfalso;simp only[Az]at hb<;>omega)|((try rw[hb]);(try simp only[Ad]at hb)))|(refine eI ?_ ?_;focus (and_intros<;>first|omega|exact rfl|(intro _ hh;cases hh;done)|exact F5 rfl|(simp only[Az];omega)|(simp;done)|decide))|(intro hfact)|((with_reducible apply Drawn.by0);(focus kernel_rfl);intro hfact;(try simp only[dRS]at hfact))|((simp only[show D.at (0::[].append [3]) (D.ptr r.toD)=some (D.vec B2 3 (r.rols.map Rol.toD))from rfl,Ge,show D.at [0] (D.ptr r.toD)=some r.toD from rfl,Dr]))|(refine CallIs.mk ⟨_,_,hf,?_⟩)|(refine CallWp.mk ⟨_,hg,?_⟩;rintro _ _ ⟨rfl,rfl⟩)|(refine CallIs.mk ⟨_,_,hc,?_⟩)|((first|with_reducible apply Lr|((first|with_reducible apply D9|with_reducible apply X8);(focus rfl)));(focus (simp only[D.at,D.put,D.kid,D.setKid,List.cons_append,List.nil_append,List.append,List.getElem?_cons_zero,List.getElem?_cons_succ,Int.toNat_natCast,List.getElem?_set_self',Option.map_eq_map,Option.map_some,List.set_cons_zero,List.set_cons_succ,List.set_set,Function.const_apply,List.map_cons,List.map_nil,mkSt,Cn,D.toI,toIs,Bn,List.getElem?_map,List.length_map,List.length_set,hxd]<;>exact rfl));(try(focus exact rfl))))
    all_goals(try(conv=>whnf))
    (apply dK<;>kernel_rfl)

open Go.Proofs
theorem A17 (r:Roll) (hs:r.Small) (c:Cmd) (hk:c.kind=10):Fn Tryz.prog Rp [.own [] (.ptr r.toD),.v c.toI] (Is (.v (.int .i64 (D5 r c).2)) [.own [] (.ptr (Lp r c)),.no]):=by
 refine R6 ?_ (by simp)
 have hs':=hs
 obtain⟨b1,b2,b3,b4,b5⟩:=hs
 have hf:=T3 r.rols c.name (by omega)
 have hU:Lp r c=(D5 r c).1.toD:=by simp[Lp,hk]
 rw[hU]
 cases hb:Et Rol.name r.rols c.name with
 |false=>
  rw[hb]at hf
  rw[show D5 r c=(r,16)by simp only[D5,hk,hb,Int.reduceEq,if_false,if_true,and_false,false_and,Bool.true_eq_false]]
  repeat'((conv=>whnf);first|(apply aI<;>intro hb<;>first|exact absurd hb (by decide)|(exfalso;simp only[Az]at hb<;>omega)|((try rw[hb]);(try simp only[Ad]at hb)))|(refine eI ?_ ?_;focus (and_intros<;>first|omega|exact rfl|(simp;done)))|((with_reducible apply Drawn.by0);(focus kernel_rfl);intro hfact;(try simp only[dRS]at hfact))|((simp only[show D.at (0::[].append [3]) (D.ptr r.toD)=some (D.vec B2 3 (r.rols.map Rol.toD))from rfl,Ge,show D.at [0] (D.ptr r.toD)=some r.toD from rfl,Dr]))|(refine CallIs.mk ⟨_,_,hf,?_⟩))
  all_goals(try(conv=>whnf))
  all_goals(apply dK<;>kernel_rfl)
 |true=>
  rw[hb]at hf
  obtain⟨x,hx, -⟩:=Lv hb
  have hlt:Ch Rol.name r.rols c.name<r.rols.length:=(List.getElem?_eq_some_iff.1 hx).1
  have hP:D5 r c=({r with rols:=H6 (Ch Rol.name r.rols c.name) r.rols,usrs:=r.usrs.map (T6 c.name)},0):=by
   simp only[D5,hk,hb,Int.reduceEq,if_false,if_true,and_false,false_and,Bool.true_eq_false]
  rw[hP]
  clear hP hU
  have hxd:(r.rols.map Rol.toD)[Ch Rol.name r.rols c.name]?=some x.toD:=by simp[hx]
  have hdel:=A1u (r.rols.map Rol.toD) (Ch Rol.name r.rols c.name) (by simpa using hlt) (by simp;omega)
  rw[Atv]at hdel
  have hw:IntKind.i64.wrap ((Ch Rol.name r.rols c.name:Int)+1)=((Ch Rol.name r.rols c.name+1:Nat):Int):=Ak hlt (by simp only[maxLen];omega)
  repeat'((conv=>whnf);first|(apply aI<;>intro hb<;>first|exact absurd hb (by decide)|(exfalso;simp only[Az]at hb<;>omega)|((try rw[hb]);(try simp only[Ad]at hb)))|(refine eI ?_ ?_;focus (and_intros<;>first|omega|exact rfl|(intro _ hh;cases hh;done)|(simp only[Az];omega)|(simp;done)|decide))|(intro hfact)|((with_reducible apply Drawn.by0);(focus kernel_rfl);intro hfact;(try simp only[dRS]at hfact))|((simp only[show D.at (0::[].append [3]) (D.ptr r.toD)=some (D.vec B2 3 (r.rols.map Rol.toD))from rfl,Ge,show D.at [0] (D.ptr r.toD)=some r.toD from rfl,Dr]))|(refine CallIs.mk ⟨_,_,hf,?_⟩)|((simp only[List.tail,List.headD,hw]))|(refine CallWp.mk ⟨_,hdel,?_⟩;rintro _ _ ⟨rfl,rfl⟩))
  all_goals(try(conv=>whnf))
  refine LoopWq.by (X:=Nat) (fun k=>[(197,.own [] (.ptr (.st [.it (.int .i64 r.rev),.vec Cc 3 ((r.tens.map Ten.toI).map D.it),.vec B3 5 ((Lb c.name r.usrs k).map Usr.toD),.vec B2 3 ((H6 (Ch Rol.name r.rols c.name) r.rols).map Rol.toD)]))),(3,if k=0 then .box (.one (.i c.toI))else .rp c.toI),(106,.v (.int .i64 k))]) (fun k=>k≤r.usrs.length) (fun k=>r.usrs.length - k)
   0 (by kernel_rfl) (by omega) ?_
  intro k hk2
  have hlen:(r.usrs.map Usr.toD).length=r.usrs.length:=by simp
  by_cases hk3:k<r.usrs.length
  case neg=>
   obtain rfl:k=r.usrs.length:=by omega
   rw[Aun]
   have hlt1:¬decide ((r.usrs.length:Int)<((r.usrs.map Usr.toD).length:Int))=true:=by simp
   by_cases hk0:r.usrs.length=0
   ·rw[if_pos hk0]
    repeat'((conv=>whnf);(apply aI<;>intro hb<;>first|exact absurd hb (by assumption)|((try rw[hb]);(try simp only[Ad]at hb))))
    all_goals(try(conv=>whnf))
    (apply dK<;>kernel_rfl)
   ·rw[if_neg hk0]
    repeat'((conv=>whnf);(apply aI<;>intro hb<;>first|exact absurd hb (by assumption)|((try rw[hb]);(try simp only[Ad]at hb))))
    all_goals(try(conv=>whnf))
    (apply dK<;>kernel_rfl)
  obtain⟨u,hu⟩:∃u,r.usrs[k]?=some u:=⟨_,List.getElem?_eq_getElem hk3⟩
  have hlt1:¬decide ((k:Int)<((r.usrs.map Usr.toD).length:Int))=false:=by simp[hk3]
  have hul:=b4 u (List.mem_of_getElem? hu)
  have hdl:=(A1w u.roles c (by omega)).ofVec0 (by decide)
  have hpg:((Lb c.name r.usrs k).map Usr.toD)[k]?=some u.toD:=by rw[List.getElem?_map,Auo hu];rfl
  have hps:((Lb c.name r.usrs k).map Usr.toD).set k (T6 c.name u).toD=(Lb c.name r.usrs (k+1)).map Usr.toD:=by rw[←Aup hu,List.map_set]
  have hpl:((Lb c.name r.usrs k).map Usr.toD).length=r.usrs.length:=by rw[List.length_map,Aj9]
  have hk10:¬k+1=0:=by omega
  have hws:IntKind.i64.wrap ((k:Int)+1)=((k+1:Nat):Int):=Ak hk3 (by simp only[maxLen];omega)
  obtain⟨L,hL⟩:∃L,L=(Lb c.name r.usrs k).map Usr.toD:=⟨_,rfl⟩
  rw[←hL]at hpg hps hpl ⊢
  by_cases hk0:k=0
  ·rw[if_pos hk0]
   repeat'((conv=>whnf);first|(apply aI<;>intro hb<;>first|exact absurd hb (by assumption)|((try rw[hb]);(try simp only[Ad]at hb)))|(refine eI ?_ ?_;focus (and_intros<;>first|omega|exact rfl|(intro _ hh;cases hh;done)|(simp only[Az];omega)|(simp;done)|decide))|(refine Drawn.mk (by kernel_rfl) (by repeat'((conv=>whnf);first|exact True.intro|refine And.intro ?_ ?_|rfl|(dsimp only[eyeP,eyeO,eyeR,eyeH,seen];rfl))) (fun hfact=>?_);(try simp only[dRS]at hfact))|(refine CallIs.mk ⟨_,_,hdl,?_⟩)|((first|with_reducible apply Lr|((with_reducible apply D9);(focus rfl)));(focus (simp only[D.at,D.put,D.kid,D.setKid,List.cons_append,List.nil_append,List.append,List.getElem?_cons_zero,List.getElem?_cons_succ,Int.toNat_natCast,List.getElem?_set_self',Option.map_eq_map,Option.map_some,List.set_cons_zero,List.set_cons_succ,List.set_set,Function.const_apply,List.map_cons,List.map_nil,mkSt,Cn,D.toI,toIs,Bn,List.getElem?_map,List.length_map,List.length_set,hpg]<;>exact rfl));(try(focus exact rfl))))
   all_goals(try(conv=>whnf))
   refine Round.by (k+1) ?_ (by omega) (by omega)
   rw[if_neg hk10,hws, ←hps]
   show norm _ _=upd _ _
   kernel_rfl
  ·rw[if_neg hk0]
   repeat'((conv=>whnf);first|(apply aI<;>intro hb<;>first|exact absurd hb (by assumption)|((try rw[hb]);(try simp only[Ad]at hb)))|(refine eI ?_ ?_;focus (and_intros<;>first|omega|exact rfl|(intro _ hh;cases hh;done)|(simp only[Az];omega)|(simp;done)|decide))|(refine Drawn.mk (by kernel_rfl) (by repeat'((conv=>whnf);first|exact True.intro|refine And.intro ?_ ?_|rfl|(dsimp only[eyeP,eyeO,eyeR,eyeH,seen];rfl))) (fun hfact=>?_);(try simp only[dRS]at hfact))|(refine CallIs.mk ⟨_,_,hdl,?_⟩)|((first|with_reducible apply Lr|((with_reducible apply D9);(focus rfl)));(focus (simp only[D.at,D.put,D.kid,D.setKid,List.cons_append,List.nil_append,List.append,List.getElem?_cons_zero,List.getElem?_cons_succ,Int.toNat_natCast,List.getElem?_set_self',Option.map_eq_map,Option.map_some,List.set_cons_zero,List.set_cons_succ,List.set_set,Function.const_apply,List.map_cons,List.map_nil,mkSt,Cn,D.toI,toIs,Bn,List.getElem?_map,List.length_map,List.length_set,hpg]<;>exact rfl));(try(focus exact rfl))))
   all_goals(try(conv=>whnf))
   refine Round.by (k+1) ?_ (by omega) (by omega)
   rw[if_neg hk10,hws, ←hps]
   show norm _ _=upd _ _
   kernel_rfl
end Go.Ab
