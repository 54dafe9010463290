/- Lemmas for the last text. -/
import Derived.Test.YtgcccllpegilnaaGreatDoorR14
import Derived.Shelf.SlSortCmp.NoneTotal
set_option linter.unusedVariables false
set_option linter.unusedSimpArgs false
set_option maxRecDepth 100000
namespace Go.Ab
abbrev Rise (E:List Ad):Prop:=E.Pairwise fun x y=>x<y
theorem V3 (s x:Ad):∀l:List Ad,x∈ins s l↔x=s∨x∈l
 | []=>by simp[ins]
 |y::r=>by
  unfold ins
  have:=V3 s x r
  split
  ·simp
  ·split
   ·rename_i h;subst h;simp
   ·simp[this];grind
theorem Xb (s:Ad):∀{l:List Ad},Rise l→Rise (ins s l)
 | [],_=>by simp[ins,Rise]
 |y::r,h=>by
  obtain⟨h1,h2⟩:=List.pairwise_cons.1 h
  unfold ins
  split
  ·rename_i hs
   refine List.pairwise_cons.2 ⟨fun z hz=>?_,h⟩
   rcases List.mem_cons.1 hz with rfl|hz
   ·exact hs
   ·have:=h1 z hz
    grind
  ·split
   ·exact h
   ·rename_i hs hne
    refine List.pairwise_cons.2 ⟨fun z hz=>?_,Xb s h2⟩
    rcases(V3 s z r).1 hz with rfl|hz
    ·grind
    ·exact h1 z hz
theorem Aj7 {E:List Ad} {s:Sp} (h:Rise E):Rise (estep E s):=by
 unfold estep
 split
 ·exact Xb _ (Xb _ h)
 ·exact h
theorem Anb {E:List Ad} {s:Sp} {x:Ad}:x∈estep E s↔x∈E∨(Bj s∧(x=s.f∨x=s.t)):=by
 unfold estep
 split
 ·rename_i h
  rw[V3,V3]
  grind
 ·grind
theorem Lj (l:List Sp):Rise (C0 l)∧∀x,x∈C0 l↔x=[]∨∃s∈l,Bj s∧(x=s.f∨x=s.t):=by
 have:∀(l:List Sp) (E:List Ad),Rise E→Rise (l.foldl estep E)∧∀x,x∈l.foldl estep E↔x∈E∨∃s∈l,Bj s∧(x=s.f∨x=s.t):=by
  intro l
  induction l with
  |nil=>intro E h;exact⟨h,by simp⟩
  |cons s r ih=>
   intro E h
   obtain⟨h1,h2⟩:=ih (estep E s) (Aj7 h)
   refine⟨h1,fun x=>?_⟩
   rw[List.foldl_cons,h2,Anb]
   simp only[List.mem_cons]
   grind
 obtain⟨h1,h2⟩:=this l [[]] (by simp[Rise])
 exact⟨h1,fun x=>by rw[C0,h2];simp⟩
def Hd (E:List Ad) (k e:Ad):Prop:=e∈E∧e≤k∧∀x∈E,x≤k→x≤e
theorem U3:∀{E:List Ad} {k:Ad},(∃e∈E,e≤k)→∃e,Hd E k e
 | [],k,h=>by simp at h
 |y::r,k,h=>by
  by_cases hr:∃e∈r,e≤k
  ·obtain⟨e,h1,h2,h3⟩:=U3 hr
   by_cases hy:y≤k∧e<y
   ·refine⟨y,List.mem_cons_self ..,hy.1,fun x hx hxk=>?_⟩
    rcases List.mem_cons.1 hx with rfl|hx
    ·exact Std.le_refl _
    ·have:=h3 x hx hxk
     grind
   ·refine⟨e,List.mem_cons_of_mem _ h1,h2,fun x hx hxk=>?_⟩
    rcases List.mem_cons.1 hx with rfl|hx
    ·grind
    ·exact h3 x hx hxk
  ·obtain⟨e,he,hek⟩:=h
   rcases List.mem_cons.1 he with rfl|he
   ·refine⟨e,List.mem_cons_self ..,hek,fun x hx hxk=>?_⟩
    rcases List.mem_cons.1 hx with rfl|hx
    ·exact Std.le_refl _
    ·exact absurd ⟨x,hx,hxk⟩ hr
   ·exact absurd ⟨e,he,hek⟩ hr
theorem Aj8 {D:List Ad} {e k x:Ad} (h:∀d∈D,d<e):Hd (D++[e]) k x↔if e≤k then x=e else Hd D k x:=by
 unfold Hd
 simp only[List.mem_append,List.mem_singleton]
 split
 ·rename_i hk
  constructor
  ·rintro⟨h1,h2,h3⟩
   have h4:=h3 e (.inr rfl) hk
   rcases h1 with h1|h1
   ·have:=h x h1
    grind
   ·exact h1
  ·rintro rfl
   refine⟨.inr rfl,hk,fun y hy hyk=>?_⟩
   rcases hy with hy|rfl
   ·have:=h y hy
    grind
   ·exact Std.le_refl _
 ·rename_i hk
  constructor
  ·rintro⟨h1,h2,h3⟩
   refine⟨?_,h2,fun y hy hyk=>h3 y (.inl hy) hyk⟩
   rcases h1 with h1|rfl
   ·exact h1
   ·exact absurd h2 hk
  ·rintro⟨h1,h2,h3⟩
   refine⟨.inl h1,h2,fun y hy hyk=>?_⟩
   rcases hy with hy|rfl
   ·exact h3 y hy hyk
   ·exact absurd hyk hk
structure MInv (p:Ad→Bool) (D:List Ad) (o:List Sp × Bool):Prop where
 canon:Canon o.1
 keys:∀k,Keys o.1 k↔∃e,Hd D k e∧p e=true
 starts:∀x∈o.1,x.f∈D
 shut:o.2=false→∀x∈o.1,x.t≠[]∧x.t∈D
 opened:o.2=true→∃q f,o.1=q++[⟨f,[]⟩]∧f∈D∧∀x∈q,x.t≠[]∧x.t∈D
theorem Pr (o:List Sp) (y:Sp) (k:Ad):Keys (o++[y]) k↔Keys o k∨SpH y k:=by
 unfold Keys
 simp only[List.mem_append,List.mem_singleton]
 constructor
 ·rintro⟨x,hx|rfl,hk⟩
  ·exact .inl ⟨x,hx,hk⟩
  ·exact .inr hk
 ·rintro(⟨x,hx,hk⟩|hk)
  ·exact⟨x,.inl hx,hk⟩
  ·exact⟨y,.inr rfl,hk⟩
theorem Anx {p:Ad→Bool} {D:List Ad} {o:List Sp × Bool} {e:Ad} (h:MInv p D o) (hD:∀d∈D,d<e):MInv p (D++[e]) (mstep o (e,p e)):=by
 obtain⟨out,op⟩:=o
 obtain⟨hc,hk,hs,hsh,hop⟩:=h
 dsimp only at hc hk hs hsh hop
 have hnew:∀k,(∃x,Hd (D++[e]) k x∧p x=true)↔if e≤k then p e=true else Keys out k:=by
  intro k
  simp only[Aj8 hD]
  split
  ·constructor
   ·rintro⟨x,rfl,hx⟩;exact hx
   ·intro hx;exact⟨e,rfl,hx⟩
  ·rw[hk]
 have hs':∀x∈out,x.f∈D++[e]:=fun x hx=>List.mem_append_left _ (hs x hx)
 have dead:∀x∈out,x.t≠[]→x.t∈D→∀k,e≤k→¬SpH x k:=by
  intro x hx h1 h2 k hek hh
  have h3:=hD _ h2
  have h4:=hh.2
  grind
 cases hp:p e with
 |true=>
  cases op with
  |true=>
   obtain⟨q,f,rfl,hf,hq⟩:=hop rfl
   refine⟨hc,fun k=>?_,hs',fun h=>(by cases h),fun _=>⟨q,f,rfl,List.mem_append_left _ hf,fun x hx=>⟨(hq x hx).1,List.mem_append_left _ (hq x hx).2⟩⟩⟩
   rw[hnew]
   split
   ·rename_i hek
    rw[hp]
    simp only[iff_true]
    show Keys (q++[⟨f,[]⟩]) k
    rw[Pr]
    right
    have:=hD f hf
    exact⟨by dsimp only;grind,.inl rfl⟩
   ·rfl
  |false=>
   have hsh:=hsh rfl
   refine⟨?_,fun k=>?_,?_,fun h=>(by cases h),fun _=>⟨out,e,rfl,by simp,fun x hx=>⟨(hsh x hx).1,List.mem_append_left _ (hsh x hx).2⟩⟩⟩
   ·refine⟨?_,List.pairwise_append.2 ⟨hc.2,by simp,?_⟩⟩
    ·intro x hx
     rcases List.mem_append.1 hx with hx|hx
     ·exact hc.1 x hx
     ·rw[List.mem_singleton.1 hx];exact .inl rfl
    ·intro x hx y hy
     rw[List.mem_singleton.1 hy]
     exact⟨(hsh x hx).1,hD _ (hsh x hx).2⟩
   ·rw[hnew]
    show Keys (out++[⟨e,[]⟩]) k↔_
    rw[Pr]
    split
    ·rename_i hek
     rw[hp]
     simp only[iff_true]
     exact .inr ⟨hek,.inl rfl⟩
    ·rename_i hek
     constructor
     ·rintro(h|h)
      ·exact h
      ·exact absurd h.1 hek
     ·exact .inl
   ·intro x hx
    rcases List.mem_append.1 hx with hx|hx
    ·exact hs' x hx
    ·rw[List.mem_singleton.1 hx];simp
 |false=>
  cases op with
  |true=>
   obtain⟨q,f,rfl,hf,hq⟩:=hop rfl
   have hfe:=hD f hf
   have hm:mstep (q++[⟨f,[]⟩],true) (e,false)=(q++[⟨f,e⟩],false):=by simp[mstep]
   rw[hm]
   have hne:e≠[]:=by
    rintro rfl
    exact List.not_lt_nil f hfe
   have hpw:=List.pairwise_append.1 hc.2
   refine⟨⟨?_,List.pairwise_append.2 ⟨hpw.1,by simp,?_⟩⟩,fun k=>?_,?_,fun _ x hx=>?_,fun h=>(by cases h)⟩
   ·intro x hx
    rcases List.mem_append.1 hx with hx|hx
    ·exact hc.1 x (List.mem_append_left _ hx)
    ·rw[List.mem_singleton.1 hx];exact .inr hfe
   ·intro x hx y hy
    rw[List.mem_singleton.1 hy]
    exact hpw.2.2 x hx ⟨f,[]⟩ (by simp)
   ·rw[hnew]
    show Keys (q++[⟨f,e⟩]) k↔_
    rw[Pr]
    split
    ·rename_i hek
     rw[hp]
     simp only[Bool.false_eq_true,iff_false]
     rintro(⟨x,hx,hk⟩|hk)
     ·exact dead x (List.mem_append_left _ hx) (hq x hx).1 (hq x hx).2 k hek hk
     ·have:=hk.2
      dsimp only at this
      grind
    ·rename_i hek
     rw[Pr]
     unfold SpH
     dsimp only
     grind
   ·intro x hx
    rcases List.mem_append.1 hx with hx|hx
    ·exact hs' x (List.mem_append_left _ hx)
    ·rw[List.mem_singleton.1 hx];exact List.mem_append_left _ hf
   ·rcases List.mem_append.1 hx with hx|hx
    ·exact⟨(hq x hx).1,List.mem_append_left _ (hq x hx).2⟩
    ·rw[List.mem_singleton.1 hx];exact⟨hne,by simp⟩
  |false=>
   have hsh:=hsh rfl
   refine⟨hc,fun k=>?_,hs',fun _ x hx=>⟨(hsh x hx).1,List.mem_append_left _ (hsh x hx).2⟩,fun h=>(by cases h)⟩
   rw[hnew]
   split
   ·rename_i hek
    rw[hp]
    simp only[Bool.false_eq_true,iff_false]
    rintro⟨x,hx,hk⟩
    exact dead x hx (hsh x hx).1 (hsh x hx).2 k hek hk
   ·rfl
theorem Aez (p:Ad→Bool):∀{R D:List Ad} {o:List Sp × Bool},MInv p D o→Rise (D++R)→MInv p (D++R) ((R.zip (R.map p)).foldl mstep o)
 | [],D,o,h,_=>by simpa using h
 |e::R,D,o,h,hr=>by
  have h1:=Anx h fun d hd=>(List.pairwise_append.1 hr).2.2 d hd e (List.mem_cons_self ..)
  have:=Aez p (R:=R) h1 (by simpa using hr)
  simpa using this
theorem Anw {p:Ad→Bool} {E:List Ad} (hr:Rise E):Canon (Tn E (E.map p))∧∀k,Keys (Tn E (E.map p)) k↔∃e,Hd E k e∧p e=true:=by
 have h0:MInv p [] ([],false):=⟨⟨by simp,by simp⟩,fun k=>by simp[Keys,Hd],by simp,by simp,by simp⟩
 have:=Aez p (R:=E) h0 (by simpa using hr)
 rw[List.nil_append]at this
 exact⟨this.canon,this.keys⟩
theorem Pm {E:List Ad} {k e:Ad} (h:Hd E k e) {s:Sp} (hf:s.f∈E) (ht:s.t∈E):SpH s k↔SpH s e:=by
 obtain⟨h1,h2,h3⟩:=h
 have h4:=h3 _ hf
 have h5:=h3 _ ht
 unfold SpH
 grind
theorem Ang {l:List Sp} {E:List Ad} (hE:∀s∈l,Bj s→s.f∈E∧s.t∈E) {k e:Ad} (h:Hd E k e):AnyH l k↔AnyH l e:=by
 unfold AnyH
 constructor
 ·rintro⟨s,hs,hr,hk⟩
  obtain⟨h1,h2⟩:=hE s hs hr
  exact⟨s,hs,hr,(Pm h h1 h2).1 hk⟩
 ·rintro⟨s,hs,hr,hk⟩
  obtain⟨h1,h2⟩:=hE s hs hr
  exact⟨s,hs,hr,(Pm h h1 h2).2 hk⟩
theorem Ahn (l:List Sp) (k:Ad):∃e,Hd (C0 l) k e:=U3 ⟨[],((Lj l).2 []).2 (.inl rfl),List.nil_le k⟩
theorem U0 {l:List Sp} {s:Sp} (hs:s∈l) (hr:Bj s):s.f∈C0 l∧s.t∈C0 l:=
 ⟨((Lj l).2 _).2 (.inr ⟨s,hs,hr,.inl rfl⟩),((Lj l).2 _).2 (.inr ⟨s,hs,hr,.inr rfl⟩)⟩

open Go.Proofs Go.Shelf
theorem Aru:Aiz:=by
 intro G σ Fr w cargs hok hcl hargs
 have hc0:RepV G (.list []) (cargs.getD 0 undef):=(hargs 0 _ rfl).2
 have hc1:RepV G (.fn 141) (cargs.getD 1 undef):=(hargs 1 _ rfl).2
 rw[RepV.fn]at hc1
 obtain⟨ad,cap,hc,_⟩:=RepV.list.1 hc0
 have hca:cargs= #[.slice ad 0 cap,.func (.func 141) #[] #[]]:=by
  rw[←hc1,show(.slice ad 0 cap:Value)=cargs.getD 0 undef from hc.symm]
  apply Array.ext
  ·simpa using hcl
  ·intro j h1 h2
   have:j=0∨j=1:=by simp at h2;omega
   rcases this with rfl|rfl<;>simp[Array.getD,h1]
 have hcall:=AnyF.slices_SortFunc_none Aq1 ad cap (.func (.func 141) #[] #[]) w
 rw[hca]
 refine Calls.mono hcall ?_
 rintro e w' ⟨rfl,rfl⟩
 refine⟨_,_,_,G,fun _=>none,rfl,⟨rfl,rfl⟩,Mem.le.refl G,⟨hok.fixed,fun b lab h=>by(cases h),fun b b' lab h=>by(cases h),hok.frame,rfl,rfl,rfl,Nat.le_refl _,hok.apart,hok.amb⟩,rfl,⟨#[],rfl,rfl⟩,rfl,?_⟩
 intro i sv hi
 have:sv= .no:=by
  have:=List.mem_of_getElem? hi
  simpa using this
 subst this
 exact⟨rfl,trivial⟩
set_option maxHeartbeats 4000000

open Go.Proofs
theorem Ag4 (u:List Sp) (s:Sp):(Jm u s).length≤u.length+1:=by
 unfold Jm
 split
 ·simp
 ·split
  ·simp
  ·split
   ·simp
   ·omega
theorem Aa2 (p:List Sp):(Hv p).length≤p.length:=by
 have:∀(p u:List Sp),(p.foldl Jm u).length≤u.length+p.length:=by
  intro p
  induction p with
  |nil=>intro u;simp
  |cons s r ih=>
   intro u
   have h1:=ih (Jm u s)
   have h2:=Ag4 u s
   simp only[List.foldl_cons,List.length_cons]
   omega
 have h:=this p []
 rw[List.length_nil,Nat.zero_add]at h
 exact h
theorem Amw (l:List Sp):(uni l).length≤l.length:=by
 unfold uni
 refine Nat.le_trans (Aa2 _) ?_
 rw[List.length_mergeSort]
 exact List.length_filter_le ..

def maxS (a b:Ad):Ad:=if(!Op.bytesLess a b)=true then a else b
theorem Aad (a b:Ad):maxS a b=if a<b then b else a:=by
 unfold maxS
 rw[Cu]
 by_cases h:a<b<;>simp[h]
def cutA (s x:Sp):List Sp:=if x.f<s.f then[⟨x.f,if Cn x.t s.f then s.f else x.t⟩]else[]
def cutB (s x:Sp):List Sp:=if s.t≠[]∧Cn x.t s.t then[⟨maxS x.f s.t,x.t⟩]else[]
def H6 (s x:Sp):List Sp:=cutA s x++cutB s x
def minus (l:List Sp) (s:Sp):List Sp:=if Bj s then(uni l).flatMap (H6 s)else uni l
theorem Pk {s x y:Sp} (h:y∈H6 s x):(x.f<s.f∧s.f≠[]∧y.f=x.f∧((Cn x.t s.f∧y.t=s.f)∨(¬Cn x.t s.f∧y.t=x.t)))∨(s.t≠[]∧Cn x.t s.t∧y.t=x.t∧((x.f<s.t∧y.f=s.t)∨(¬x.f<s.t∧y.f=x.f))):=by
 unfold H6 cutA cutB at h
 rcases List.mem_append.1 h with h|h
 ·split at h
  ·rw[List.mem_singleton.1 h]
   left
   rename_i h1
   refine⟨h1,fun e=>List.not_lt_nil x.f (by rw[e]at h1;exact h1),rfl,?_⟩
   dsimp only
   split
   ·exact .inl ⟨by assumption,rfl⟩
   ·exact .inr ⟨by assumption,rfl⟩
  ·cases h
 ·split at h
  ·rw[List.mem_singleton.1 h,Aad]
   rename_i hc
   right
   refine⟨hc.1,hc.2,rfl,?_⟩
   dsimp only
   split
   ·exact .inl ⟨by assumption,rfl⟩
   ·exact .inr ⟨by assumption,rfl⟩
  ·cases h
theorem Aea {s x:Sp} (hs:Sane s) (hx:Sane x) (k:Ad):(∃y∈H6 s x,SpH y k)↔SpH x k∧¬SpH s k:=by
 unfold Sane at hs hx
 constructor
 ·rintro⟨y,hy,h1,h2⟩
  have:=Pk hy
  unfold Cn at this
  unfold SpH
  grind
 ·rintro⟨⟨h1,h2⟩,h3⟩
  unfold SpH at h3
  by_cases h4:k<s.f
  ·refine⟨⟨x.f,if Cn x.t s.f then s.f else x.t⟩,List.mem_append_left _ (by unfold cutA;rw[if_pos (by grind)];exact List.mem_singleton.2 rfl),h1,?_⟩
   dsimp only
   unfold Cn
   grind
  ·have h5:s.t≠[]∧¬k<s.t:=by grind
   refine⟨⟨maxS x.f s.t,x.t⟩,List.mem_append_right _ (by unfold cutB;rw[if_pos (by unfold Cn;grind)];exact List.mem_singleton.2 rfl),?_,h2⟩
   dsimp only
   rw[Aad]
   grind
theorem Am5 {s:Sp} (hs:Sane s) {u:List Sp} (hu:Canon u):Canon (u.flatMap (H6 s)):=by
 unfold Sane at hs
 refine⟨fun y hy=>?_,List.pairwise_flatMap.2 ⟨fun x hx=>?_,?_⟩⟩
 ·obtain⟨x,hx,hy⟩:=List.mem_flatMap.1 hy
  have h1:=hu.1 x hx
  have:=Pk hy
  unfold Cn at this
  unfold Sane at h1 ⊢
  grind
 ·have h1:=hu.1 x hx
  unfold Sane at h1
  refine List.pairwise_append.2 ⟨by unfold cutA;split<;>simp,by unfold cutB;split<;>simp,fun a ha b hb=>?_⟩
  unfold cutA at ha
  unfold cutB at hb
  split at ha
  ·rename_i h2
   split at hb
   ·rename_i h3
    rw[Aad]at hb
    rw[List.mem_singleton.1 ha,List.mem_singleton.1 hb]
    dsimp only
    unfold Cn at h3 ⊢
    have h4:s.f≠[]:=by
     intro e
     rw[e]at h2
     exact List.not_lt_nil _ h2
    grind
   ·cases hb
  ·cases ha
 ·refine hu.2.imp_of_mem ?_
  intro a b ha hb hab y1 hy1 y2 hy2
  have h1:=hu.1 a ha
  have h2:=hu.1 b hb
  have h3:=Pk hy1
  have h4:=Pk hy2
  unfold Cn at h3 h4
  unfold Sane at h1 h2
  have h5:∀{p q:Ad},p<q→q≠[]:=by
   intro p q h e
   rw[e]at h
   exact List.not_lt_nil _ h
  grind
theorem Ahv (l:List Sp) (s:Sp):Canon (minus l s):=by
 unfold minus
 split
 ·rename_i h;exact Am5 h.2.2 (Kx l)
 ·exact Kx l
theorem Ake (l:List Sp) (s:Sp) (k:Ad):Keys (minus l s) k↔AnyH l k∧¬(Bj s∧SpH s k):=by
 unfold minus
 split
 ·rename_i h
  rw[←Xv]
  unfold Keys
  constructor
  ·rintro⟨y,hy,hk⟩
   obtain⟨x,hx,hy⟩:=List.mem_flatMap.1 hy
   have:=(Aea h.2.2 ((Kx l).1 x hx) k).1 ⟨y,hy,hk⟩
   exact⟨⟨x,hx,this.1⟩,fun g=>this.2 g.2⟩
  ·rintro⟨⟨x,hx,hk⟩,h2⟩
   obtain⟨y,hy,hk⟩:=(Aea h.2.2 ((Kx l).1 x hx) k).2 ⟨hk,fun g=>h2 ⟨h,g⟩⟩
   exact⟨y,List.mem_flatMap.2 ⟨x,hx,hy⟩,hk⟩
 ·rename_i h
  rw[Xv]
  simp[h]
def Fp (l:List Sp) (s:Sp) (e:Ad):Bool:=decide (AnyH l e)&& !(decide (Bj s)&&decide (SpH s e))
def Ef (l:List Sp) (s:Sp):List Sp:=Tn (C0 (l++[s])) ((C0 (l++[s])).map (Fp l s))
theorem An5 (l:List Sp) (s:Sp):Ef l s=minus l s:=by
 obtain⟨h1,h2⟩:=Anw (p:=Fp l s) (Lj (l++[s])).1
 refine Mk h1 (Ahv l s) fun k=>?_
 rw[show Keys (Ef l s) k↔_ from h2 k,Ake]
 have aux:∀e,Hd (C0 (l++[s])) k e→(Fp l s e=true↔AnyH l k∧¬(Bj s∧SpH s k)):=by
  intro e hf
  rw[Ang (fun x hx hr=>U0 (List.mem_append_left _ hx) hr) hf]
  have:(Bj s∧SpH s k)↔(Bj s∧SpH s e):=by
   constructor
   ·rintro⟨h3,h4⟩
    obtain⟨h5,h6⟩:=U0 (l:=l++[s]) (s:=s) (by simp) h3
    exact⟨h3,(Pm hf h5 h6).1 h4⟩
   ·rintro⟨h3,h4⟩
    obtain⟨h5,h6⟩:=U0 (l:=l++[s]) (s:=s) (by simp) h3
    exact⟨h3,(Pm hf h5 h6).2 h4⟩
  rw[this]
  unfold Fp
  by_cases g1:Bj s<;>by_cases g2:SpH s e<;>simp[g1,g2]
 constructor
 ·rintro⟨e,hf,he⟩
  exact(aux e hf).1 he
 ·intro h
  obtain⟨e,hf⟩:=Ahn (l++[s]) k
  exact⟨e,hf,(aux e hf).2 h⟩

open Go.Proofs
theorem Ag1 (l:List Sp) (s:Sp) (hl:l.length≤900):Fn Tryz.prog Pz [.v (.list (sps l)),.v s.toI] (Is (.v (.list (sps (Ef l s)))) [.no,.no]):=by
 refine N8 ?_ (by simp)
 have hap:[]++sps l++[s.toI]=sps (l++[s]):=by simp
 have b1:(([]:List I).length+(sps l).length)*32≤140737488355328:=by rw[List.length_map];show(0+l.length)*32≤_;omega
 have b2:([]:List I).length+(sps l).length≤maxLen:=by rw[List.length_map];show 0+l.length≤9223372036854775807;omega
 have b3:=J9 l
 have hll:([]++sps l).length=l.length:=by simp
 have d1:(([]++sps l).length+[s.toI].length)*32≤140737488355328:=by rw[hll];show(l.length+1)*32≤_;omega
 have d2:([]++sps l).length+[s.toI].length≤maxLen:=by rw[hll];show l.length+1≤9223372036854775807;omega
 have d3:∀u∈[s.toI],u.size=2:=J9 [s]
 have hE:=Amp (l++[s]) (by simp;omega)
 rw[←hap]at hE
 have hEl:(C0 (l++[s])).length≤2000:=by
  have:=Ms (l++[s])
  simp at this
  omega
 unfold Ef
 generalize C0 (l++[s])=E at hE hEl
 have hm:E.length≤maxLen:=by simp only[maxLen];omega
 have hmade:=Ao6 E (E.map (Fp l s)) (by simp) (by omega)
 repeat'((conv=>whnf);first|(refine eI ?_ ?_;focus (and_intros<;>first|omega|exact rfl|assumption|(intro _ hh;cases hh;done)|(simp;done)|decide))|((with_reducible apply Drawn.by0);(focus kernel_rfl);intro hfact;(try simp only[dRS]at hfact))|(refine CallIs.mk ⟨_,_,hE,?_⟩))
 all_goals(try(conv=>whnf))
 refine LoopWq.by (X:=Nat) (fun x=>[(6,.vec 4 1 (bools ((E.take x).map (Fp l s)))),(7,.v (.int .i64 x))]) (fun x=>x≤E.length) (fun x=>E.length - x)
  0 (by rw[List.take_zero];kernel_rfl) (Nat.zero_le _) ?_
 intro k h1
 by_cases hk:k<E.length
 case neg=>
  have hlt:¬decide ((k:Int)<((strs E).length:Int))=true:=by simp;omega
  rw[show E.take k=E from List.take_of_length_le (by omega)]
  repeat'((conv=>whnf);first|(apply aI<;>intro hb<;>first|exact absurd hb (by assumption)|((try rw[hb]);(try simp only[Aa]at hb)))|(refine eI ?_ ?_;focus (and_intros<;>first|omega|exact rfl|(intro _ hh;cases hh;done)|(simp;done)|decide))|(intro hfact)|(refine CallWp.mk ⟨_,hmade,?_⟩;rintro _ _ ⟨rfl,rfl⟩))
  all_goals(try(conv=>whnf))
  exact Done.mk ⟨rfl,by kernel_rfl⟩ (by kernel_rfl)
 obtain⟨e,he⟩:∃e,E[k]?=some e:=⟨_,List.getElem?_eq_getElem hk⟩
 have hg:(strs E)[Int.toNat (k:Int)]?=some (.str e):=Nj he
 have hkl:Int.toNat (k:Int)<(strs E).length:=by simp[hk]
 have hlt:¬decide ((k:Int)<((strs E).length:Int))=false:=by simp[hk]
 have hround:E.length - (k+1)<E.length - k:=by omega
 have hbl:(bools ((E.take k).map (Fp l s))).length=k:=by simp;omega
 have hap:∀v,Fp l s e=v→bools ((E.take (k+1)).map (Fp l s))=bools ((E.take k).map (Fp l s))++[I.bool v]:=by
  rintro v rfl
  rw[List.take_add_one,he]
  simp
 by_cases c1:AnyH l e
 case neg=>
  have g1:¬decide (AnyH l e)=true:=by simp[c1]
  have hap:=hap false (by simp[Fp,c1])
  repeat'((conv=>whnf);first|(apply aI<;>intro hb<;>first|exact absurd hb (by first|assumption|decide)|((try rw[hb]);(try simp only[Aa]at hb)))|(refine eI ?_ ?_;focus (and_intros<;>first|omega|exact rfl|(intro _ hh;cases hh;done)|exact A0 (by rfl)|(simp only[Ag];omega)|(simp;done)|decide))|(intro hfact)|((with_reducible apply Drawn.by0);(focus kernel_rfl);intro hfact;(try simp only[dRS]at hfact))|((try dsimp only);rw[hg])|(refine CallIs.mk ⟨_,_,Xq _ _,?_⟩))
  all_goals(try(conv=>whnf))
  refine Round.by (k+1) ?_ hk hround
  rw[Ae hk hm,hap]
  show norm _ _=upd _ _
  kernel_rfl
 have g1:¬decide (AnyH l e)=false:=by simp[c1]
 by_cases c2:Bj s
 case neg=>
  have g2:¬decide (Bj s)=true:=by simp[c2]
  have hap:=hap true (by simp[Fp,c1,c2])
  repeat'((conv=>whnf);first|(apply aI<;>intro hb<;>first|exact absurd hb (by first|assumption|decide)|((try rw[hb]);(try simp only[Aa]at hb)))|(refine eI ?_ ?_;focus (and_intros<;>first|omega|exact rfl|(intro _ hh;cases hh;done)|exact A0 (by rfl)|(simp only[Ag];omega)|(simp;done)|decide))|(intro hfact)|((with_reducible apply Drawn.by0);(focus kernel_rfl);intro hfact;(try simp only[dRS]at hfact))|((try dsimp only);rw[hg])|(refine CallIs.mk ⟨_,_,Xq _ _,?_⟩)|(refine CallIs.mk ⟨_,_,Cy _,?_⟩))
  all_goals(try(conv=>whnf))
  refine Round.by (k+1) ?_ hk hround
  rw[Ae hk hm,hap]
  show norm _ _=upd _ _
  kernel_rfl
 have g2:¬decide (Bj s)=false:=by simp[c2]
 have hap:=hap (!decide (SpH s e)) (by simp[Fp,c1,c2])
 repeat'((conv=>whnf);first|(apply aI<;>intro hb<;>first|exact absurd hb (by first|assumption|decide)|((try rw[hb]);(try simp only[Aa]at hb)))|(refine eI ?_ ?_;focus (and_intros<;>first|omega|exact rfl|(intro _ hh;cases hh;done)|exact A0 (by rfl)|(simp only[Ag];omega)|(simp;done)|decide))|(intro hfact)|((with_reducible apply Drawn.by0);(focus kernel_rfl);intro hfact;(try simp only[dRS]at hfact))|((try dsimp only);rw[hg])|(refine CallIs.mk ⟨_,_,Xq _ _,?_⟩)|(refine CallIs.mk ⟨_,_,Cy _,?_⟩)|(refine CallIs.mk ⟨_,_,T6 _ _,?_⟩))
 all_goals(try(conv=>whnf))
 refine Round.by (k+1) ?_ hk hround
 rw[Ae hk hm,hap]
 show norm _ _=upd _ _
 kernel_rfl
set_option maxHeartbeats 40000000

open Go.Proofs
theorem Ae1 (st:List Sp × Bool) (e:Ad × Bool):(mstep st e).1.length≤st.1.length+1:=by
 unfold mstep
 split
 ·split
  ·simp
  ·simp
 ·split
  ·cases st.1.getLast? <;>simp
  ·simp
theorem Vc:∀(l:List (Ad × Bool)) (st:List Sp × Bool),(l.foldl mstep st).1.length≤st.1.length+l.length
 | [],st=>Nat.le_refl _
 |e::l,st=>by
  have h1:=Vc l (mstep st e)
  have h2:=Ae1 st e
  simp only[List.foldl_cons,List.length_cons]
  omega
theorem J4 (g s:Sp):(Ef [g] s).length≤5:=by
 unfold Ef Tn
 have h1:=Vc ((C0 ([g]++[s])).zip ((C0 ([g]++[s])).map (Fp [g] s))) ([],false)
 have h2:=Ms ([g]++[s])
 simp at h1 h2 ⊢
 omega
def F3 {α S:Type} (f:S→α→S) (s:S) (e:α):S ⊕ S:=.inl (f s e)
def Me {S:Type} (s:S):S:=s
theorem Jx {α S:Type} (f:S→α→S):∀(l:List α) (s:S),Br (F3 f) Me l s=l.foldl f s
 | [],_=>rfl
 |a::r,s=>by rw[D0];simp[F3,aft,Jx f r]
def addG (g:Gra) (out:List Gra) (sp:Sp):List Gra:=if out.any (fun e=>decide (e=⟨sp,g.r,g.w⟩))then out else out++[⟨sp,g.r,g.w⟩]
def De (s:Sp) (out:List Gra) (g:Gra):List Gra:=(Ef [g.sp] s).foldl (addG g) out
def revM (l:List Gra) (s:Sp):List Gra:=l.foldl (De s) []
theorem Fb (g:Gra) (out:List Gra) (sp:Sp):(addG g out sp).length≤out.length+1:=by
 unfold addG;split<;>simp
theorem Uv (g:Gra):∀(l:List Sp) (out:List Gra),(l.foldl (addG g) out).length≤out.length+l.length
 | [],_=>Nat.le_refl _
 |e::l,out=>by
  have h1:=Uv g l (addG g out e)
  have h2:=Fb g out e
  simp only[List.foldl_cons,List.length_cons]
  omega
theorem Uf (s:Sp) (out:List Gra) (g:Gra):(De s out g).length≤out.length+5:=by
 have h1:=Uv g (Ef [g.sp] s) out
 have h2:=J4 g.sp s
 unfold De
 omega
def Dp (r:Roll) (c:Cmd):Roll × Int:=
 if decide (Bj c.grant.sp)=false then(r,1)
 else if r.rolAt c.name<0 then(r,16)
 else match r.rols[(r.rolAt c.name).toNat]? with
 |none=>(r,16)
 |some x=>
  if 8<((revM x.grants c.grant.sp).length:Int)then(r,17)
  else({r with rev:=r.rev+1,rols:=r.rols.set (r.rolAt c.name).toNat {x with grants:=revM x.grants c.grant.sp}},0)
theorem Aax (r:Roll) (hs:r.Small) (c:Cmd) (hrev: -9223372036854775808≤r.rev∧r.rev<1099511627776) (hk12:c.kind=12):Fn Tryz.prog Ba [.v r.toI,.v c.toI] (Is (.tup [.i (Dp r c).1.toI,.i (.int .i64 (Dp r c).2)]) [.no,.no]):=by
 refine Fn.isF (x:=[(Dp r c).1.toI,.int .i64 (Dp r c).2]) ?_
 refine A9 ?_ (by simp)
 have cp:=Dw r hs
 have hw:IntKind.i64.wrap (r.rev+1)=r.rev+1:=A5 (by omega)
 have hb1:=hs.hT
 have hb2:=hs.hU
 have hb3:=hs.hX
 have t1:=Bn r c.other (by omega)
 have u1:=Cg r c.name (by omega)
 have x1:=Ca r c.name (by omega)
 have s1:=Cy c.grant.sp
 rcases Cv (fun t:Rol=>decide (t.name=c.name)) 0 r.rols with h|⟨j,h,hj,x,hju,hun⟩
 ·have h':r.rolAt c.name= -1:=h
  rw[h']at x1
  repeat'((conv=>whnf);first|(apply aI<;>intro hb<;>first|exact absurd hb (by decide)|(exfalso;simp only[Ag]at hb<;>omega)|((try rw[hb]);(try simp only[Aa]at hb)))|(refine eI ?_ ?_;focus (and_intros<;>first|exact rfl|(intro _ hh;cases hh;done)|(simp;done)|decide))|((with_reducible apply Drawn.by0);(focus kernel_rfl);intro hfact;(try simp only[dRS]at hfact))|(refine CallWp.mk ⟨_,cp,?_⟩;rintro _ _ ⟨rfl,rfl⟩)|((try dsimp only);rw[hw])|(refine CallIs.mk ⟨_,_,t1,?_⟩)|(refine CallIs.mk ⟨_,_,u1,?_⟩)|(refine CallIs.mk ⟨_,_,x1,?_⟩)|(refine CallWp.mk ⟨_,s1,?_⟩;rintro _ _ ⟨rfl,rfl⟩))
  all_goals(try(conv=>whnf))
  all_goals(refine Done.mk ⟨?_,by kernel_rfl⟩ (by kernel_rfl))
  all_goals(try simp only[Dp,h'])
  all_goals(try simp only[Dp,h', *,if_true,if_false,Bool.false_eq_true,Bool.true_eq_false,Bool.not_true,Bool.not_false,decide_true,decide_false,not_true_eq_false,not_false_eq_true,ne_eq,reduceIte])
  all_goals(try simp only[resD,Bu,I.put,List.replicate_succ,List.replicate_zero,toIs,D.toI,Aj,Bf,List.map_cons,List.map_nil,List.set_cons_zero,List.set_cons_succ,mkSt,A1,List.map_set,Int.toNat_natCast])
  all_goals(try rfl)
 ·have h':r.rolAt c.name=(j:Int):=by rw[show r.rolAt c.name=((0+j:Nat):Int)from h,Nat.zero_add]
  rw[h']at x1
  have hxl:=hs.hG x (List.mem_of_getElem? hju)
  have hj0:r.rols[Int.toNat (j:Int)]?=some x:=hju
  repeat'((conv=>whnf);first|(apply aI<;>intro hb<;>first|exact absurd hb (by decide)|(exfalso;simp only[Ag]at hb<;>omega)|((try rw[hb]);(try simp only[Aa]at hb)))|(refine eI ?_ ?_;focus (and_intros<;>first|omega|exact rfl|(intro _ hh;cases hh;done)|(simp;done)|decide))|((with_reducible apply Drawn.by0);(focus kernel_rfl);intro hfact;(try simp only[dRS]at hfact))|(refine CallWp.mk ⟨_,cp,?_⟩;rintro _ _ ⟨rfl,rfl⟩)|((try dsimp only);rw[hw])|(refine CallIs.mk ⟨_,_,t1,?_⟩)|(refine CallIs.mk ⟨_,_,u1,?_⟩)|(refine CallIs.mk ⟨_,_,x1,?_⟩)|(refine CallWp.mk ⟨_,s1,?_⟩;rintro _ _ ⟨rfl,rfl⟩)|((try dsimp only);first|rw[Au hju]|rw[Am hju]|rw[An hju]))
  all_goals(try(conv=>whnf))
  ·all_goals clear h hju
   all_goals(refine Done.mk ⟨?_,by kernel_rfl⟩ (by kernel_rfl))
   all_goals(try simp only[Dp,h',hj0])
   all_goals(try simp only[Dp,h',hj0, *,if_true,if_false,Bool.false_eq_true,Bool.true_eq_false,Bool.not_true,Bool.not_false,decide_true,decide_false,not_true_eq_false,not_false_eq_true,ne_eq,reduceIte])
   all_goals(try simp only[resD,Bu,I.put,List.replicate_succ,List.replicate_zero,toIs,D.toI,Aj,Bf,List.map_cons,List.map_nil,List.set_cons_zero,List.set_cons_succ,mkSt,A1,List.map_set,Int.toNat_natCast])
   all_goals(try rfl)
  have hAns:Br (F3 (De c.grant.sp)) Me x.grants []=revM x.grants c.grant.sp:=Jx _ _ _
  have hm:x.grants.length≤maxLen:=by simp only[maxLen];omega
  refine each x.grants _ _ _ (fun k s=>[(14,.vec Bt 4 (s.map Gra.toI)),(15,.v (.int .i64 k))]) (fun k s=>s.length≤5*k) [] (by kernel_rfl) (by simp) hAns ?_ ?_<;>clear hAns
  ·rintro k s e he hk hi hA
   dsimp only at hi hA ⊢
   have hrl:=J4 e.sp c.grant.sp
   have hol:=Uf c.grant.sp s e
   have m1:=Ag1 [e.sp] c.grant.sp (by simp)
   repeat'((conv=>whnf);first|(apply aI<;>intro hb<;>first|(exfalso;simp only[Ag]at hb<;>omega)|((try rw[hb]);(try simp only[Aa]at hb)))|(refine eI ?_ ?_;focus (and_intros<;>first|omega|exact rfl|(intro _ hh;cases hh;done)|exact A0 (by rfl)|(simp;done)|decide))|(intro hfact)|((with_reducible apply Drawn.by0);(focus kernel_rfl);intro hfact;(try simp only[dRS]at hfact))|((try dsimp only);first|rw[Au he]|rw[Am he]|rw[An he])|(refine CallIs.mk ⟨_,_,m1,?_⟩))
   all_goals(try(conv=>whnf))
   have hA2:Br (F3 (addG e)) Me (Ef [e.sp] c.grant.sp) s=De c.grant.sp s e:=Jx _ _ _
   obtain⟨l2,hl2⟩:∃l2,l2=Ef [e.sp] c.grant.sp:=⟨_,rfl⟩
   rw[←hl2]at hA2 hrl ⊢
   obtain⟨hko,hmo⟩:k<x.grants.length∧x.grants.length≤maxLen:=⟨hk,hm⟩
   refine each l2 _ _ _ (fun k s=>[(14,.vec Bt 4 (s.map Gra.toI)),(17,.v (.int .i64 k))]) (fun k' s'=>s'.length≤s.length+k') s (by kernel_rfl) (by simp) hA2 ?_ ?_<;>clear hA2
   ·clear hA
    rintro k' s' e' he' hk hi' hA
    dsimp only at hi' hA ⊢
    have hm:l2.length≤maxLen:=by simp only[maxLen];omega
    have hx':l2[Int.toNat (k':Int)]?=some e':=he'
    have hg:=Ui s' ⟨e',e.r,e.w⟩ (by omega)
    repeat'((conv=>whnf);first|(apply aI<;>intro hb<;>first|(exfalso;simp only[Ag]at hb<;>omega)|((try rw[hb]);(try simp only[Aa]at hb)))|(refine eI ?_ ?_;focus (and_intros<;>first|omega|exact rfl|exact A0 (by rfl)|(simp only[Ag];omega)|(simp;done)))|(intro hfact)|((with_reducible apply Drawn.by0);(focus kernel_rfl);intro hfact;(try simp only[dRS]at hfact))|((try dsimp only);first|rw[Au he']|rw[Am he']|rw[An he'])|((try dsimp only);first|rw[Au he]|rw[Am he]|rw[An he])|(refine CallWp.mk ⟨_,hg,?_⟩;rintro _ _ ⟨rfl,rfl⟩))
    all_goals(try(conv=>whnf))
    all_goals(refine RoundE.by (addG e s' e') ?_ (by have:=Fb e s' e';omega) hA)
    all_goals(rw[Ae hk hm];unfold addG;rename_i hb;rw[hb];simp only[if_true,Bool.false_eq_true,if_false,List.map_append,List.map_cons,List.map_nil])
    all_goals(show norm _ _=upd _ _;kernel_rfl)
   ·rintro s' k' rfl hi' hA'
    dsimp only at hi' hA' ⊢
    obtain rfl:s'=De c.grant.sp s e:=hA'
    repeat'((conv=>whnf);first|(apply aI<;>intro hb<;>first|(exfalso;simp only[Ag]at hb<;>omega)|((try rw[hb]);(try simp only[Aa]at hb)))|(refine eI ?_ ?_;focus (and_intros<;>exact rfl))|(intro hfact))
    all_goals(try(conv=>whnf))
    all_goals first
     |(simp[-List.append_assoc,F3, *]at hA
       first
       |(refine RoundE.aft hA ?_ ?_
         ·(try dsimp only);(try rw[Ae hk hm]);(try simp only[List.map_append,List.map_cons,List.map_nil])
          show norm _ _=upd _ _
          kernel_rfl
         ·first|trivial|omega|((try dsimp only);simp only[Ag];omega)|((try dsimp only);(try simp at*);omega))
       |(refine Done.mk ⟨?_,by kernel_rfl⟩ (by kernel_rfl)
         have hA':=hA
         first|(rw[←hA'];first|rfl|kernel_rfl|(simp only[List.map_append,List.map_cons,List.map_nil];first|rfl|kernel_rfl))|(rw[←B0 hA'];first|rfl|kernel_rfl|(simp only[List.map_append,List.map_cons,List.map_nil];first|rfl|kernel_rfl))|(simp at hA' ⊢;simp[*];done))
      )
  ·rintro s k rfl hi hA
   dsimp only at hi hA ⊢
   obtain rfl:s=revM x.grants c.grant.sp:=hA
   repeat'((conv=>whnf);first|(apply aI<;>intro hb<;>first|(exfalso;simp only[Ag]at hb<;>omega)|((try rw[hb]);(try simp only[Aa]at hb)))|(refine eI ?_ ?_;focus (and_intros<;>first|omega|exact rfl|(simp only[Ag];omega)|(simp;done)))|(intro hfact)|((first|with_reducible apply Uc|((with_reducible apply Bm);(focus rfl)));(focus (simp only[D.at,D.put,D.kid,D.setKid,List.cons_append,List.nil_append,List.append,List.getElem?_cons_zero,List.getElem?_cons_succ,Int.toNat_natCast,List.getElem?_set_self',Option.map_eq_map,Option.map_some,List.set_cons_zero,List.set_cons_succ,List.set_set,Function.const_apply,List.map_cons,List.map_nil,mkSt,A1,D.toI,toIs,Aj,List.getElem?_map,List.length_map,List.length_set,hju]<;>exact rfl));(try(focus exact rfl))))
   all_goals(try(conv=>whnf))
   all_goals clear h hju
   all_goals(refine Done.mk ⟨?_,by kernel_rfl⟩ (by kernel_rfl))
   all_goals(try simp only[Dp,h',hj0])
   all_goals(try simp only[Dp,h',hj0, *,if_true,if_false,Bool.false_eq_true,Bool.true_eq_false,Bool.not_true,Bool.not_false,decide_true,decide_false,not_true_eq_false,not_false_eq_true,ne_eq,reduceIte])
   all_goals(try simp only[resD,Bu,I.put,List.replicate_succ,List.replicate_zero,toIs,D.toI,Aj,Bf,List.map_cons,List.map_nil,List.set_cons_zero,List.set_cons_succ,mkSt,A1,List.map_set,Int.toNat_natCast,B6,Roll.toI,Rol.toI,Vx hj])
   all_goals(try rfl)
set_option maxHeartbeats 4000000

open Go.Proofs
theorem Aqj (o:List Sp):sps (o++([]++[]))=sps o:=by simp
theorem Aqk (o:List Sp) (a:Sp):sps (o++([a]++[]))=sps o++[a.toI]:=by simp
theorem Aqm (o:List Sp) (b:Sp):sps (o++([]++[b]))=sps o++[b.toI]:=by simp
theorem Aqn (o:List Sp) (a b:Sp):sps (o++([a]++[b]))=sps o++[a.toI]++[b.toI]:=by simp
theorem Amm (l:List Sp) (s:Sp) (hl:l.length≤1000):Fn Tryz.prog Ad0 [.v (.list (sps l)),.v s.toI] (Is (.v (.list (sps (minus l s)))) [.no,.no]):=by
 refine Ac7 ?_ (by simp)
 have hu:=Amr Aru l hl
 have hul:(uni l).length≤1000:=Nat.le_trans (Amw l) hl
 by_cases hr:Bj s
 case neg=>
  have n1:¬(!decide (Bj s))=false:=by simp[hr]
  rw[show minus l s=uni l from if_neg hr]
  repeat'((conv=>whnf);first|(apply aI<;>intro hb<;>first|exact absurd hb (by assumption)|((try rw[hb]);(try simp only[Aa]at hb)))|(refine eI ?_ ?_;focus (and_intros<;>first|omega|exact rfl|(intro _ hh;cases hh;done)|(simp;done)|decide))|(refine CallWp.mk ⟨_,hu,?_⟩;rintro _ _ ⟨rfl,rfl⟩)|(refine CallWp.mk ⟨_,Hc _,?_⟩;rintro _ _ ⟨rfl,rfl⟩))
  all_goals(try(conv=>whnf))
  exact Done.mk ⟨rfl,by kernel_rfl⟩ (by kernel_rfl)
 have n1:¬(!decide (Bj s))=true:=by simp[hr]
 have hfin:minus l s=(uni l).flatMap (H6 s):=if_pos hr
 generalize uni l=u at hu hul hfin
 rw[hfin]
 clear hfin
 have hmax:u.length≤maxLen:=by simp only[maxLen];omega
 repeat'((conv=>whnf);first|(apply aI<;>intro hb<;>first|exact absurd hb (by assumption)|((try rw[hb]);(try simp only[Aa]at hb)))|(refine eI ?_ ?_;focus (and_intros<;>first|omega|exact rfl|(intro _ hh;cases hh;done)|(simp;done)|decide))|(intro hfact)|(refine CallWp.mk ⟨_,hu,?_⟩;rintro _ _ ⟨rfl,rfl⟩)|(refine CallWp.mk ⟨_,Hc _,?_⟩;rintro _ _ ⟨rfl,rfl⟩))
 all_goals(try(conv=>whnf))
 refine LoopWq.by (X:=Nat × List Sp) (fun x=>[(6,.vec 34 2 (sps x.2)),(18,.v (.int .i64 x.1))]) (fun x=>x.1≤u.length∧x.2=(u.take x.1).flatMap (H6 s)∧x.2.length≤2*x.1) (fun x=>u.length - x.1)
  (0,[]) (by kernel_rfl) ⟨Nat.zero_le _,rfl,Nat.le_refl _⟩ ?_
 rintro⟨k,out⟩ ⟨h1,h2,h3⟩
 dsimp only at h1 h2 h3 ⊢
 by_cases hk:k<u.length
 case neg=>
  have hlt:¬decide ((k:Int)<((sps u).length:Int))=true:=by simp;omega
  rw[show u.take k=u from List.take_of_length_le (by omega)]at h2
  subst h2
  repeat'((conv=>whnf);first|(apply aI<;>intro hb<;>first|exact absurd hb (by assumption)|((try rw[hb]);(try simp only[Aa]at hb)))|(refine eI ?_ ?_;focus (and_intros<;>first|omega|exact rfl|(simp;done))))
  all_goals(try(conv=>whnf))
  exact Done.mk ⟨rfl,by kernel_rfl⟩ (by kernel_rfl)
 obtain⟨e,he⟩:∃e,u[k]?=some e:=⟨_,List.getElem?_eq_getElem hk⟩
 have hlt:¬decide ((k:Int)<((sps u).length:Int))=false:=by simp[hk]
 have hg:(sps u)[Int.toNat (k:Int)]?=some e.toI:=J8 he
 have hkl:Int.toNat (k:Int)<(sps u).length:=by simp[hk]
 have hround:u.length - (k+1)<u.length - k:=by omega
 have hsucc:(u.take (k+1)).flatMap (H6 s)=out++(cutA s e++cutB s e):=by
  rw[List.take_add_one,he,List.flatMap_append, ←h2]
  simp[H6]
 have hA:(¬Op.bytesLess e.f s.f=true∧cutA s e=[])∨(¬Op.bytesLess e.f s.f=false∧¬decide (0<Fm e.t s.f)=false∧cutA s e=[⟨e.f,s.f⟩])∨(¬Op.bytesLess e.f s.f=false∧¬decide (0<Fm e.t s.f)=true∧cutA s e=[⟨e.f,e.t⟩]):=by
  simp only[Jw,Cu]
  unfold cutA
  by_cases g1:e.f<s.f<;>by_cases g2:Cn e.t s.f<;>simp[g1,g2]
 have hB:(¬(!decide (s.t=[]))=true∧cutB s e=[])∨(¬(!decide (s.t=[]))=false∧¬decide (0<Fm e.t s.t)=true∧cutB s e=[])∨(¬(!decide (s.t=[]))=false∧¬decide (0<Fm e.t s.t)=false∧¬(!Op.bytesLess e.f s.t)=false∧cutB s e=[⟨e.f,e.t⟩])∨
  (¬(!decide (s.t=[]))=false∧¬decide (0<Fm e.t s.t)=false∧¬(!Op.bytesLess e.f s.t)=true∧cutB s e=[⟨s.t,e.t⟩]):=by
  simp only[Jw]
  unfold cutB maxS
  by_cases g1:s.t=[]<;>by_cases g2:Cn e.t s.t<;>by_cases g3:(!Op.bytesLess e.f s.t)=true<;>simp[g1,g2,g3]at*
 rcases hA with⟨a1,hA⟩|⟨a1,a2,hA⟩|⟨a1,a2,hA⟩<;>rcases hB with⟨b1,hB⟩|⟨b1,b2,hB⟩|⟨b1,b2,b3,hB⟩|⟨b1,b2,b3,hB⟩
 all_goals rw[hA,hB]at hsucc
 all_goals(
  repeat'((conv=>whnf);first|(apply aI<;>intro hb<;>first|exact absurd hb (by first|assumption|decide)|((try rw[hb]);(try simp only[Aa]at hb)))|(refine eI ?_ ?_;focus (and_intros<;>first|omega|exact rfl|(intro _ hh;cases hh;done)|exact A0 (by rfl)|(simp only[Ag];omega)|(simp;done)|decide))|((try dsimp only);rw[hg])|(refine CallWp.mk ⟨_,Kv _ _,?_⟩;rintro _ _ ⟨rfl,rfl⟩))
  all_goals(try(conv=>whnf))
  refine Round.by (k+1,_) ?_ ⟨hk,hsucc.symm,by simp;omega⟩ hround
  dsimp only
  rw[Ae hk hmax]
  first|rw[Aqj]|rw[Aqk]|rw[Aqm]|rw[Aqn]
  show norm _ _=upd _ _
  kernel_rfl)
end Go.Ab
