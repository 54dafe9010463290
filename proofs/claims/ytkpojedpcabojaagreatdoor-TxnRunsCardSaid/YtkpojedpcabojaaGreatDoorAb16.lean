/- Lemmas -/
import Derived.Test.YtkpojedpcabojaaGreatDoorAbT
import Derived.Deep.LoopGhost
set_option linter.unusedVariables false
set_option linter.unusedSimpArgs false
namespace Go.Ab
inductive IOp where
 |mv (d:Nat) (x:D6)
 |asg (d:Nat) (x:D6)
 |mov (d:Nat) (e:TypeId) (sz:Nat) (x:D6)
 |bin (d:Nat) (op:BinOp) (x y:D6)
 |not (d:Nat) (x:D6)
 |pick (d:Nat) (c x y:D6)
 |load (d:Nat) (agg:Bool) (sz:Nat) (x:D6)
 |store (sz:Nat) (x y:D6)
 |alloc (d:Nat) (t:T)
 |box (d:Nat) (x:D6)
 |A21 (d:Nat) (x:D6) (i off:Nat)
 |A7p (d:Nat) (sz:Nat) (x i:D6)
 |len (d:Nat) (str:Bool) (x:D6)
 |slc (d:Nat) (str:Bool) (sz:Nat) (x:D6) (lo hi:Option D6)
 |b2s (d:Nat) (x:D6)
 |build (d:Nat) (zs:List I) (ps:List (Nat × D6))
 |bsl (d:Nat) (e:TypeId) (sz:Nat) (z:I) (n:Nat) (ps:List (Nat × D6))
 |empty (d:Nat) (e:TypeId) (sz:Nat)
 |ext (d:Nat) (x:D6) (i:Nat)
 |app (d:Nat) (e:TypeId) (sz bytes:Nat) (x y:D6)
 |eqs (d:Nat) (neg:Bool) (e:ETy) (x y:D6)
 |A7s (d:Nat) (neg:Bool) (x:D6)
 |Ayz (d:Nat) (x i:D6)
 |A93 (d:Nat) (agg:Bool) (sz:Nat) (x:D6)
 |A92 (d:Nat) (agg:Bool) (sz:Nat) (x:D6)
 |A0e (d:Nat) (t:D)
 |A6b (d:Nat) (x:D6)
 |A0g (d:Nat) (zs:List D) (ps:List (Nat × D6))
 |Bag (d:Nat) (e:TypeId) (sz:Nat) (z:I) (n:Nat) (ps:List (Nat × D6))
 |bits (d:Nat) (op:BinOp) (x y:D6)
 |conv (d:Nat) (k:IntKind) (x:D6)
 |Ami (d:Nat) (x:D6)
 |Aru (d:Nat) (x:D6)
 |Bfb (d:Nat) (x:D6)
 |A94 (d:Nat) (x:D6)
 |Bff (d:Nat) (sz:Nat) (x lo:D6)
 |A6n (d:Nat) (neg:Bool) (x:D6)
 |A7t (d:Nat)
 |Bbz (d:Nat) (z:I) (ok:Bool) (x k:D6)
 |Bb0 (m k v:D6)
 |Be3 (d:Nat) (x:D6)
 |mkI (d:Nat) (t:TypeId) (x:D6)
 |dead (d:Option Nat)
 deriving Inhabited
def IOp.sem:IOp→M
 | .mv d x=>Yu x (Agb (some d) x) (Ac7 (some d) x)
 | .asg d x=>R0 d x
 | .mov d e sz x=>Zi d e sz x
 | .bin d op x y=>Af7 (some d) op x y
 | .not d x=>Agc (some d) x
 | .pick d c x y=>Ab9 (some d) c x y
 | .load d agg sz x=>Ac0 x (.Hh (agg=false∧sz=1) fun _=>Tk (some d) x) (Lp x (Zf (some d) agg sz x) (Abp (some d) agg sz x))
 | .A93 d agg sz x=>Bcb (some d) agg sz x
 | .A92 d agg sz x=>Zc (some d) agg sz x
 | .A0e d t=>W6 d t
 | .A6b d x=>Abj d x
 | .A0g d zs ps=>Xc d zs ps
 | .Bag d e sz z n ps=>V5 d e sz z n ps
 | .store sz x y=>Lp x (Xm sz x y) (Zq sz x y)
 | .alloc d t=>W9 d t
 | .box d x=>Ac1 x (Abk d x) (Af8 d x)
 | .A21 d x i off=>Lp x (Xd (some d) x i off) (Y8 (some d) x i off)
 | .A7p d sz x i=>Lp x (Xi (some d) sz x i) (X0 x (Xh (some d) sz x i) (Y9 (some d) sz x i))
 | .len d str x=>Lp x (Abn (some d) str x) (match str with
   |true=>V8 (some d) true x
   |false=>X0 x (Wp (some d) x) (V8 (some d) false x))
 | .slc d str sz x lo hi=>Lp x (Ace (some d) str sz x lo hi) (Vd (some d) str sz x lo hi)
 | .b2s d x=>Y4 d x
 | .build d zs ps=>Y5 (some d) zs ps
 | .bsl d e sz z n ps=>Xb d e sz z n ps
 | .empty d e sz=>Y7 d e sz
 | .ext d x i=>Wo d x i
 | .A7t d=>Zh d
 | .Bbz d z ok x k=>Abu d z ok x k
 | .Bb0 m k v=>Abz m k v
 | .Be3 d x=>Abv d x
 | .mkI d t x=>Arj (some d) t x
 | .app d e sz bytes x y=>Lp x (Wn d e sz bytes x y) (Lp y (Wn d e sz bytes x y) (Af6 d e sz bytes x y))
 | .eqs d ng e x y=>Ahf (some d) ng e x y
 | .A7s d ng x=>Bcc (some d) ng x
 | .Ayz d x i=>Agx (some d) x i
 | .bits d op x y=>Abf (some d) op x y
 | .conv d k x=>Abm (some d) k x
 | .Ami d x=>Ab5 (some d) x
 | .Aru d x=>Ab0 d x
 | .Bfb d x=>Acd d x
 | .A94 d x=>Vc (some d) x
 | .Bff d sz x lo=>Bds d sz x lo
 | .A6n d ng x=>Aca (some d) ng x
 | .dead _=>.fail
def Jy(d:Option Nat)(e:Nat):Bool:=match d with
 |some d=>d==e
 |none=>false
theorem Jp{d:Option Nat}{e:Nat}(h:Jy d e=true):d=some e:=by
 unfold Jy at h;split at h
 ·simp only[beq_iff_eq]at h;rw[h]
 ·cases h
def Z7(P:Program)(t:TypeId):Bool:=match P.underlying t with
 |some (.map tk _)=>match P.underlying tk with
  |some .string=>true
  |_=>false
 |_=>false
theorem Aa7{P:Program}{t:TypeId}(h:Z7 P t=true):∃tk tv,P.underlying t=some (.map tk tv)∧P.underlying tk=some .string:=by
 unfold Z7 at h;split at h
 ·rename_i tk tv hu;split at h
  ·rename_i hk;exact⟨_,_,hu,hk⟩
  ·cases h
 ·cases h
def chk(P:Program)(N:Nat)(o:Oper)(i:IOp):Bool:=match o.op,i with
 | .binOp .eql t x y _,.eqs d false e x' y'=>Jy o.dst d&&Jj N x x'&&Jj N y y'&&Bd4 P e t
 | .binOp .neq t x y _,.eqs d true e x' y'=>Jy o.dst d&&Jj N x x'&&Jj N y y'&&Bd4 P e t
 | .binOp .eql t x y _,.A7s d false x'=>Jy o.dst d&&Jj N x x'&&A95 P t y
 | .binOp .neq t x y _,.A7s d true x'=>Jy o.dst d&&Jj N x x'&&A95 P t y
 | .index t x i,.Ayz d x' i'=>Jy o.dst d&&Jj N x x'&&Jj N i i'&&(match P.underlying t with
  |some .string=>true
  |_=>false)
 | .move x,.mv d y| .assign x,.mv d y=>Jy o.dst d&&Jj N x y
 | .move x,.asg d y| .assign x,.asg d y=>Jy o.dst d&&Jj N x y
 | .move x,.mov d _ _ y| .assign x,.mov d _ _ y=>Jy o.dst d&&Jj N x y
 | .binOp op _ x y _,.bits d op' x' y'=>Jy o.dst d&&decide (op=op')&&Jj N x x'&&Jj N y y'
 | .convert src dst x,.conv d k x'=>Jy o.dst d&&Jj N x x'&&Ym P dst k src
 | .binOp op _ x y _,.bin d op' x' y'=>Jy o.dst d&&decide (op=op')&&Jj N x x'&&Jj N y y'
 | .unOp .not _ x,.not d x'=>Jy o.dst d&&Jj N x x'
 | .pick c x y,.pick d c' x' y'=>Jy o.dst d&&Jj N c c'&&Jj N x x'&&Jj N y y'
 | .load t x,.load d agg sz x'=>Jy o.dst d&&Jj N x x'&&Asu P t agg sz
 | .load t x,.A93 d agg sz x'=>Jy o.dst d&&Jj N x x'&&Asu P t agg sz
 | .load t x,.A92 d agg sz x'=>Jy o.dst d&&Jj N x x'&&Asu P t agg sz
 | .store t x y,.store sz x' y'=>o.dst.isNone&&Jj N x x'&&Jj N y y'&&(Asu P t true sz||Asu P t false sz)
 | .alloc e,.alloc d t=>Jy o.dst d&&Aab P e t
 | .alloc e,.A0e d t=>Jy o.dst d&&Wq P e t
 | .box _ x,.box d x'=>Jy o.dst d&&Jj N x x'
 | .box _ x,.A6b d x'=>Jy o.dst d&&Jj N x x'
 | .fieldAddr t x i,.A21 d x' i' off=>Jy o.dst d&&Jj N x x'&&i==i'&&Rz P t i off
 | .indexAddr t x i,.A7p d sz x' i'=>Jy o.dst d&&Jj N x x'&&Jj N i i'&&M3 P t sz
 | .slice t x lo hi none,.slc d str sz x' lo' hi'=>Jy o.dst d&&Jj N x x'&&oOk N lo lo'&&oOk N hi hi'&&Um P t str sz
 | .convert src dst x,.b2s d x'=>Jy o.dst d&&Jj N x x'&&Acu P src dst
 | .build t ps,.build d zs ps'=>Jy o.dst d&&La N ps.toList ps'&&Wk P t zs
 | .build t ps,.A0g d zs ps'=>Jy o.dst d&&La N ps.toList ps'&&U0 P t zs
 | .buildSlice t n ps,.Bag d e sz z n' ps'=>Jy o.dst d&&n==n'&&La N ps.toList ps'&&N6 P t e sz z n
 | .buildSlice t n ps,.bsl d e sz z n' ps'=>Jy o.dst d&&n==n'&&La N ps.toList ps'&&N6 P t e sz z n
 | .buildSlice t n ps,.empty d e _=>Jy o.dst d&&n==0&&ps.isEmpty&&(match P.underlying t with
  |some (.slice e')=>e'==e
  |_=>false)&&(P.info? e).isSome
 | .extract x i,.ext d x' i'=>Jy o.dst d&&Jj N x x'&&i==i'
 | .nilCheck x,.Ami d x'=>Jy o.dst d&&Jj N x x'
 | .move x,.Aru d y| .assign x,.Aru d y=>Jy o.dst d&&Jj N x y
 | .range t x,.Bfb d x'=>Jy o.dst d&&Jj N x x'&&(match P.underlying t with
  |some .string=>true
  |_=>false)
 | .next x true,.A94 d x'=>Jy o.dst d&&Jj N x x'
 | .slice t x (some lo) none none,.Bff d sz x' lo'=>Jy o.dst d&&Jj N x x'&&Jj N lo lo'&&M3 P t sz
 | .binOp .eql t x y _,.A6n d false x'=>Jy o.dst d&&Jj N x x'&&V3 P t y
 | .binOp .neq t x y _,.A6n d true x'=>Jy o.dst d&&Jj N x x'&&V3 P t y
 | .makeInterface t x,.mkI d t' x'=>Jy o.dst d&&t==t'&&Aqq P t&&Jj N x x'
 | .makeMap _ none,.A7t d=>Jy o.dst d
 | .lookup t x k ok,.Bbz d z ok' x' k'=>Jy o.dst d&&ok==ok'&&Ac2 P t z&&Jj N x x'&&Jj N k k'
 | .mapUpdate t m k v,.Bb0 m' k' v'=>o.dst.isNone&&Z7 P t&&Jj N m m'&&Jj N k k'&&Jj N v v'
 | .call {callee:=.builtin b,args,argTypes},i=>match b,args.toList,argTypes.toList,i with
   | .len,[x],[t],.Be3 d x'=>Jy o.dst d&&Yt P t&&Jj N x x'
   | .len,[x],[t],.len d str x'=>Jy o.dst d&&Jj N x x'&&Q9 P t str
   | .append,[x,y],[t,u],.app d e sz bytes x' y'=>Jy o.dst d&&t==u&&Jj N x x'&&Jj N y y'&&Vi P t e sz bytes
   |_,_,_,.dead _=>true
   |_,_,_,_=>false
 |_,.dead _=>true
 |_,_=>false
theorem Ut{α:Type}{a:Array α}{x:α}(h:a.toList=[x]):a= #[x]:=by cases a;simp_all
theorem Acm{α:Type}{a:Array α}{x y:α}(h:a.toList=[x,y]):a= #[x,y]:=by cases a;simp_all
theorem Afe{P:Program}{N:Nat}{o:Oper}{i:IOp}(h:chk P N o i=true):Sound P N o i.sem:=by
 unfold chk at h;split at h;all_goals try(simp only[Ap,beq_iff_eq,decide_eq_true_eq,Q3]at h)
 ·rename_i ho;obtain⟨⟨⟨h1,h2⟩,h3⟩,h4⟩:=h;have hd:=Jp h1;have:=Zy (P:=P) (neg:=false) ho h2 h3 h4;rwa [hd]at this
 ·rename_i ho;obtain⟨⟨⟨h1,h2⟩,h3⟩,h4⟩:=h;have hd:=Jp h1;have:=Zy (P:=P) (neg:=true) ho h2 h3 h4;rwa [hd]at this
 ·rename_i ho;obtain⟨⟨h1,h2⟩,h3⟩:=h;have hd:=Jp h1;have:=A9h (P:=P) (neg:=false) ho h2 h3;rwa [hd]at this
 ·rename_i ho;obtain⟨⟨h1,h2⟩,h3⟩:=h;have hd:=Jp h1;have:=A9h (P:=P) (neg:=true) ho h2 h3;rwa [hd]at this
 ·rename_i ho;obtain⟨⟨⟨h1,h2⟩,h3⟩,h4⟩:=h;have hd:=Jp h1;split at h4
  ·rename_i hu;have:=Ae0 (P:=P) ho h2 h3 hu;rwa [hd]at this
  ·cases h4
 ·rename_i ho;have hd:=Jp h.1;have k1:=Z5 (P:=P) (.inl ho) h.2;have k2:=Xv (P:=P) (.inl ho) h.2;rw[hd]at k1 k2;exact Wb k2 k1
 ·rename_i ho;have hd:=Jp h.1;have k1:=Z5 (P:=P) (.inr ho) h.2;have k2:=Xv (P:=P) (.inr ho) h.2;rw[hd]at k1 k2;exact Wb k2 k1
 ·rename_i ho;exact Tm (Jp h.1) (.inl ho) h.2
 ·rename_i ho;exact Tm (Jp h.1) (.inr ho) h.2
 ·rename_i ho;exact Xu (Jp h.1) (.inl ho) h.2
 ·rename_i ho;exact Xu (Jp h.1) (.inr ho) h.2
 ·rename_i ho;obtain⟨⟨⟨h1,rfl⟩,h2⟩,h3⟩:=h;have hd:=Jp h1;have:=Ac9 (P:=P) ho h2 h3;rwa [hd]at this
 ·rename_i ho;obtain⟨⟨h1,h2⟩,h3⟩:=h;have hd:=Jp h1;have:=Adh (P:=P) ho h2 h3;rwa [hd]at this
 ·rename_i ho;obtain⟨⟨⟨h1,rfl⟩,h2⟩,h3⟩:=h;have hd:=Jp h1;have:=Agf (P:=P) ho h2 h3;rwa [hd]at this
 ·rename_i ho;have hd:=Jp h.1;have:=Agq (P:=P) ho h.2;rwa [hd]at this
 ·rename_i ho;obtain⟨⟨⟨h1,h2⟩,h3⟩,h4⟩:=h;have hd:=Jp h1;have:=Aeu (P:=P) ho h2 h3 h4;rwa [hd]at this
 ·rename_i ho;obtain⟨⟨h1,h2⟩,h3⟩:=h;have hd:=Jp h1;have h4:=Ad6 (P:=P) ho h2 h3;have h5:=Aav (P:=P) ho h2 h3;rw[hd]at h4 h5;refine Agh ?_ (Kx h5 h4);intro G σ Fr w0 st a w Q next E hN hr hw hn C2
  obtain⟨⟨rfl,h6⟩,hw⟩:=hw;have h7:=Z4 (P:=P) ho h2 h3 h6;rw[hd]at h7;exact h7 G σ Fr w0 st a w Q next E hN hr hw hn C2
 ·rename_i ho;obtain⟨⟨h1,h2⟩,h3⟩:=h;have hd:=Jp h1;have:=Bcw (P:=P) ho h2 h3;rwa [hd]at this
 ·rename_i ho;obtain⟨⟨h1,h2⟩,h3⟩:=h;have hd:=Jp h1;have:=Aas (P:=P) ho h2 h3;rwa [hd]at this
 ·rename_i ho;obtain⟨⟨⟨h1,h2⟩,h3⟩,h4⟩:=h;have hd:o.dst=none:=by simpa using h1
  rcases h4 with h4|h4<;>exact Kx (Z6 hd ho h2 h3 h4) (Aa4 hd ho h2 h3 h4)
 ·rename_i ho;exact Aan (Jp h.1) ho h.2
 ·rename_i ho;exact Zs (Jp h.1) ho h.2
 ·rename_i ho;exact Ags (Adb (Jp h.1) ho h.2) (Agg (Jp h.1) ho h.2)
 ·rename_i ho;exact Ada (Jp h.1) ho h.2
 ·rename_i ho;obtain⟨⟨⟨h1,h2⟩,rfl⟩,h3⟩:=h;have hd:=Jp h1;have k1:=Aaq (P:=P) ho h2 h3;have k2:=Zz (P:=P) ho h2 h3;rw[hd]at k1 k2;exact Kx k2 k1
 ·rename_i ho;obtain⟨⟨⟨h1,h2⟩,h3⟩,h4⟩:=h;have hd:=Jp h1;have k1:=Aar (P:=P) ho h2 h3 h4;have k2:=Z3 (P:=P) ho h2 h3 h4;have k3:=Z2 (P:=P) ho h2 h3 h4;rw[hd]at k1 k2 k3;exact Kx k2 (Xt k3 k1)
 ·rename_i ho;obtain⟨⟨⟨⟨h1,h2⟩,h3⟩,h4⟩,h5⟩:=h;have hd:=Jp h1;have k1:=Aa3 (P:=P) ho h2 h3 h4 h5;have k2:=Ae2 (P:=P) ho h2 h3 h4 h5;rw[hd]at k1 k2;exact Kx k2 k1
 ·rename_i ho;obtain⟨⟨h1,h2⟩,h3⟩:=h;exact Age (Jp h1) ho h2 h3
 ·rename_i ho;obtain⟨⟨h1,h2⟩,h3⟩:=h;have hd:=Jp h1;have:=Aao (P:=P) ho h2 h3;rwa [hd]at this
 ·rename_i ho;obtain⟨⟨h1,h2⟩,h3⟩:=h;exact Zw (Jp h1) ho h2 h3
 ·rename_i ho;obtain⟨⟨⟨h1,rfl⟩,h3⟩,h4⟩:=h;exact Xy (Jp h1) ho h3 h4
 ·rename_i ho;obtain⟨⟨⟨h1,rfl⟩,h3⟩,h4⟩:=h;exact Zu (Jp h1) ho h3 h4
 ·rename_i ho;obtain⟨⟨⟨⟨h1,rfl⟩,h2⟩,h3⟩,h4⟩:=h;have h2':=Array.isEmpty_iff.1 h2;subst h2';refine Aap (Jp h1) ho ⟨?_,h4⟩;split at h3
  ·rename_i hu;rw[beq_iff_eq]at h3;rw[hu,h3]
  ·cases h3
 ·rename_i ho;obtain⟨⟨h1,h2⟩,rfl⟩:=h;exact Adm (Jp h1) ho h2
 ·rename_i ho;obtain⟨h1,h2⟩:=h;have hd:=Jp h1;have:=Aeh (P:=P) ho h2;rwa [hd]at this
 ·rename_i ho;exact Wa (Jp h.1) (.inl ho) h.2
 ·rename_i ho;exact Wa (Jp h.1) (.inr ho) h.2
 ·rename_i ho;obtain⟨⟨h1,h2⟩,h3⟩:=h;split at h3
  ·rename_i hu;exact Aev (Jp h1) ho h2 hu
  ·cases h3
 ·rename_i ho;obtain⟨h1,h2⟩:=h;have hd:=Jp h1;have:=Aax (P:=P) ho h2;rwa [hd]at this
 ·rename_i ho;obtain⟨⟨⟨h1,h2⟩,h3⟩,h4⟩:=h;exact Bfh (Jp h1) ho h2 h3 h4
 ·rename_i ho;obtain⟨⟨h1,h2⟩,h3⟩:=h;have hd:=Jp h1;have:=Wc (P:=P) (neg:=false) ho h2 h3;rwa [hd]at this
 ·rename_i ho;obtain⟨⟨h1,h2⟩,h3⟩:=h;have hd:=Jp h1;have:=Wc (P:=P) (neg:=true) ho h2 h3;rwa [hd]at this
 ·rename_i ho;obtain⟨⟨⟨h1,rfl⟩,h2⟩,h3⟩:=h;have hd:=Jp h1;have:=Ark (P:=P) ho h2 h3;rwa [hd]at this
 ·rename_i ho;exact Aaw (Jp h) ho
 ·rename_i ho;obtain⟨⟨⟨⟨h1,rfl⟩,h2⟩,h3⟩,h4⟩:=h;exact Ad9 (Jp h1) ho h2 h3 h4
 ·rename_i ho;obtain⟨⟨⟨⟨h1,h2⟩,h3⟩,h4⟩,h5⟩:=h;obtain⟨tk,tv,hu,hk⟩:=Aa7 h2;exact Aed (by simpa using h1) ho hu hk h3 h4 h5
 ·rename_i ho;split at h;all_goals try(simp only[Ap,beq_iff_eq,decide_eq_true_eq,Q3]at h)
  ·rename_i h1 h2;obtain⟨⟨h3,h4⟩,h5⟩:=h;rw[Ut h1,Ut h2]at ho;exact Aea (Jp h3) ho h4 h5
  ·rename_i h1 h2;obtain⟨⟨h3,h4⟩,h5⟩:=h;rw[Ut h1,Ut h2]at ho;have hd:=Jp h3;have k1:=Agn (P:=P) ho h4 h5;have k2:=Ad5 (P:=P) ho h4 h5;rw[hd]at k1 k2;refine Kx k2 ?_;split
   ·exact k1
   ·have k3:=Adw (P:=P) ho h4 h5;rw[hd]at k3;exact Xt k3 k1
  ·rename_i h1 h2;obtain⟨⟨⟨⟨h3,rfl⟩,h4⟩,h5⟩,h6⟩:=h;rw[Acm h1,Acm h2]at ho;have k1:=Agd (P:=P) (Jp h3) ho h4 h5 h6;have k2:=Ac8 (P:=P) (Jp h3) ho h4 h5 h6;exact Kx k2 (Kx k2 k1)
  ·intro G σ Fr w0 st a w Q next E hN hr hw hn C2;exact hw.elim
  ·cases h
 ·intro G σ Fr w0 st a w Q next E hN hr hw hn C2;exact hw.elim
 ·cases h

def Uo:List (Bool × D6)→(List I→M)→M
 | [],k=>k []
 |(false,x)::az,k=>Lw x fun u=>Uo az fun us=>k (u::us)
 |(true,_)::az,k=>Uo az fun us=>k (.und::us)
def Vt(x:D6)(k:SV→Nat→M):M:=match x with
 | .t n=>.get n fun _ sv=>match sv with
   | .box t=>k (.box t) n
   | .vec e sz l=>k (.vec e sz l) n
   | .pt s kk ver off r=>.get s fun cur sv'=>.Hh (kk=0∧off=0∧r=[]∧ver=cur) fun _=>match sv' with
     | .box t=>k (.box t) s
     |_=>.fail
   | .par h=>.get h fun _ sv'=>match sv' with
     | .box t=>k (.box t) h
     | .vec e sz l=>k (.vec e sz l) h
     | .own _ t=>k (.own [] t) h
     |_=>.fail
   | .own _ t=>k (.own [] t) n
   | .pd s ver p=>.get s fun cur sv'=>match p,sv' with
     | [0],.own inv (.ptr t)=>.Hh (alive ver inv [0]=true) fun _=>k (.own [] (.ptr t)) s
     |_,_=>.fail
   |_=>.fail
 |_=>.fail
def X2(x:D6)(k:SV→Option Nat→M):M:=match x with
 | .t n=>.get n fun _ sv=>match sv with
   | .bor s kk v=>.get s fun cur sv'=>.Hh (v=cur) fun _=>match kk,sv' with
     |0,.vec e sz l=>match l with
      | []=>k (.v (.list [])) none
      |y::l'=>.Hh (sz≠0) fun _=>k (.vec e sz (y::l')) (some s)
     |_,_=>.fail
   |_=>Vt x fun sv s=>k sv (some s)
 |_=>Vt x fun sv s=>k sv (some s)
def P8:List (Bool × D6)→List I→(List SV→List (Option Nat)→M)→M
 | [],_,k=>k [] []
 |(false,_)::az,us,k=>P8 az us.tail fun svs rs=>k (.v (us.headD .und)::svs) (none::rs)
 |(true,.Ahc e sz)::az,us,k=>P8 az us.tail fun svs rs=>k (.vec e sz []::svs) (none::rs)
 |(true,x)::az,us,k=>X2 x fun sv s=>P8 az us.tail fun svs rs=>k (sv::svs) (s::rs)
def Qc:List (Option Nat)→List SV→M→M
 |some s::rs,sv::outs,k=>.get s fun ver old=>.set s (ver+1) (sv.Awc old (ver+1)) (Qc rs outs k)
 |none::rs,_::outs,k=>Qc rs outs k
 |_,_,k=>k
def Ao3(rs:List (Option Nat)):List Nat:=rs.filterMap id
def Bcd(d:Option Nat)(r:SV):M:=match d with
 |some d=>Jz d r
 |none=>.done
def Uh(d:Option Nat)(f:FuncId)(az:List (Bool × D6)):M:=Uo az fun us=>P8 az us fun svs rs=>.Hh ((Ao3 rs).Nodup∧∀d',d=some d'→d' ∉ Ao3 rs) fun _=>
 .call f svs fun r outs=>.Hh (∀h,r≠ .par h) fun _=>.Hh (∀sv∈outs,∀h,sv≠ .par h) fun _=>Qc rs outs (Bcd d r)
def Ke(N:Nat):List Operand→List (Bool × D6)→Bool
 | [],[]=>true
 |x::l,(_,y)::m=>Jj N x y&&Ke N l m
 |_,_=>false
section
variable{P:Program}{N:Nat}{G:Mem}{σ:Lab}{Fr:Mem}{w0:Base}{w:World}{st:St}{a:Act}
theorem Rw{Q:St→Prop}:∀{xs:List Operand} {az:List (Bool × D6)} {k:List I→M} {G:Mem} {σ:Lab} {st:St},Rel G σ Fr w0 st a w→Ke w0.n xs az=true→(Uo az k).wp P Q st→
 ∃us G' σ' st',G.le G'∧Rel G' σ' Fr w0 st' a w∧(k us).wp P Q st'∧us.length=az.length∧∀(i:Nat) (y:D6) (x:Operand) (u:I),az[i]?=some (false,y)→xs[i]?=some x→us[i]?=some u→C7 G' u (a.eval x)
 | [],[],k,G,σ,st,hr,_,hq=>⟨[],G,σ,st,Mem.le.refl G,hr,hq,rfl,by simp⟩
 |x::xs,(false,y)::az,k,G,σ,st,hr,ho,hq=>by
  simp only[Ke,Ap]at ho;obtain⟨u,G1,σ1,st1,hG,hr1,h1,hv⟩:=L6 hr ho.1 hq;obtain⟨us,G2,σ2,st2,hG2,hr2,h2,hl,hu⟩:=Rw hr1 ho.2 h1;refine⟨u::us,G2,σ2,st2,hG.trans hG2,hr2,h2,by simp[hl],?_⟩
  intro i y' x' u' h3 h4 h5;cases i with
  |zero=>
   simp only[Fa,A0]at h4 h5;subst h4;subst h5;exact hv.mono hG2
  |succ i=>exact hu i y' x' u' (by simpa using h3) (by simpa using h4) (by simpa using h5)
 |x::xs,(true,y)::az,k,G,σ,st,hr,ho,hq=>by
  simp only[Ke,Ap]at ho;obtain⟨us,G2,σ2,st2,hG2,hr2,h2,hl,hu⟩:=Rw hr ho.2 hq;refine⟨.und::us,G2,σ2,st2,hG2,hr2,h2,by simp[hl],?_⟩
  intro i y' x' u' h3 h4 h5;cases i with
  |zero=>simp at h3
  |succ i=>exact hu i y' x' u' (by simpa using h3) (by simpa using h4) (by simpa using h5)
 | [],_::_,_,_,_,_,_,ho,_=>by cases ho
 |_::_,[],_,_,_,_,_,ho,_=>by simp[Ke]at ho
def SV.Ay1:SV→Bool
 | .box _| .vec _ _ _| .own _ _=>true
 |_=>false
theorem SV.Be2{sv:SV}(h:sv.Ay1=true):sv.root=none:=by cases sv<;>first|rfl|cases h
theorem Af0{x:Operand}{y:D6}{k:SV→Nat→M}{Q:St→Prop}(h:Rel G σ Fr w0 st a w)(ho:Jj w0.n x y=true)(hq:(Vt y k).wp P Q st):
 ∃sv s ver,(k sv s).wp P Q st∧st[s]?=some ver∧sv.Ay1=true∧Ab1 G σ w s sv (a.eval x)∧a.eval x=val a w0 s:=by
 cases y with
 |c _=>exact hq.elim
 |Ahc _ _=>exact hq.elim
 |t n=>
  obtain⟨rfl,Agv⟩:=J0 ho;simp only[Vt,M.wp]at hq;cases hs:st[n]? with
  |none=>simp[hs]at hq
  |some cur=>
   obtain⟨ver,sv⟩:=cur;simp only[hs]at hq;have Dh:=h.slot Agv hs;cases sv with
   |box t=>exact⟨_,n,_,hq,hs,rfl,Dh,(J2 (by rw[h.n];exact Agv)).symm⟩
   |vec e sz l=>exact⟨_,n,_,hq,hs,rfl,Dh,(J2 (by rw[h.n];exact Agv)).symm⟩
   |pt s kk Gu off r=>
    obtain⟨cur,h1,h2,h3⟩:=Dh;simp only[M.wp,h1]at hq;obtain⟨⟨rfl,rfl,rfl,hv⟩,hq⟩:=hq;obtain⟨b,h4,h5⟩:=h3 hv;obtain⟨cv,csv⟩:=cur;cases csv with
    |box t=>
     refine⟨_,s,_,hq,h1,rfl,?_⟩;obtain⟨b',cells,ty,k1,k2,k3,k4⟩:=h.Eb s cv _ h1;obtain rfl:=h.Fc.inj b b' _ h4 k2;exact⟨⟨b,cells,ty,h5,k2,k3,k4⟩,by rw[h5,k1]⟩
    |_=>exact hq.elim
   |own inv t=>exact⟨_,n,_,hq,hs,rfl,Dh,(J2 (by rw[h.n];exact Agv)).symm⟩
   |pd s Gu p=>
    obtain⟨cur,h1,h2,h3⟩:=Dh;simp only[M.wp,h1]at hq;obtain⟨cv,csv⟩:=cur;simp only at hq;split at hq
    ·rename_i inv t;obtain⟨ha,hq⟩:=hq;have Akd:Ac5 G σ w s (.ptr t) (val a w0 s):=h.Eb s cv _ h1;have e:=Akd.Bk2 (h3 inv _ rfl (by simp) ha)
     exact⟨_,s,_,hq,h1,rfl,by rw[e];exact Akd,e⟩
    ·exact hq.elim
   |par hh=>
    obtain⟨hv,hle⟩:=h.As8 n ver hh hs;rw[J2 (by rw[h.n];exact Agv)]at hv
    simp only[M.wp]at hq;cases h1:st[hh]? with
    |none=>simp[h1]at hq
    |some cur=>
     obtain⟨cv,csv⟩:=cur;simp only[h1]at hq;have Ak4:=h.Eb hh cv csv h1;rw[←hv]at Ak4;cases csv with
     |box t=>exact⟨_,hh,_,hq,h1,rfl,Ak4,hv⟩
     |vec e sz l=>exact⟨_,hh,_,hq,h1,rfl,Ak4,hv⟩
     |own inv t=>exact⟨_,hh,_,hq,h1,rfl,Ak4,hv⟩
     |_=>exact hq.elim
   |_=>exact hq.elim
theorem Af1{x:Operand}{y:D6}{k:SV→Option Nat→M}{Q:St→Prop}(h:Rel G σ Fr w0 st a w)(ho:Jj w0.n x y=true)(hq:(X2 y k).wp P Q st):
 ∃sv r,(k sv r).wp P Q st∧((r=none∧∃u,sv= .v u∧C7 G u (a.eval x))∨∃s ver,r=some s∧st[s]?=some ver∧sv.Ay1=true∧Ab1 G σ w s sv (a.eval x)∧a.eval x=val a w0 s):=by
 have old:(Vt y fun sv s=>k sv (some s)).wp P Q st→∃sv r,(k sv r).wp P Q st∧((r=none∧∃u,sv= .v u∧C7 G u (a.eval x))∨∃s ver,r=some s∧st[s]?=some ver∧sv.Ay1=true∧Ab1 G σ w s sv (a.eval x)∧a.eval x=val a w0 s):=by
  intro hq;obtain⟨sv,s,ver,h1,h2⟩:=Af0 h ho hq;exact⟨sv,some s,h1,.inr ⟨s,ver,rfl,h2⟩⟩
 cases y with
 |c _=>exact old hq
 |Ahc _ _=>exact old hq
 |t n=>
  obtain⟨rfl,Agv⟩:=J0 ho;simp only[X2,M.wp]at hq;cases hs:st[n]? with
  |none=>simp[hs]at hq
  |some cur=>
   obtain⟨ver,sv⟩:=cur;simp only[hs]at hq;have Dh:=h.slot Agv hs;cases sv with
   |bor s kk v=>
    obtain⟨cur,g1,g2,g3⟩:=Dh;simp only[M.wp,g1]at hq;obtain⟨hv,hq⟩:=hq;obtain⟨e,sz,l,g4,g5⟩:=g3 hv;obtain⟨cv,csv⟩:=cur;cases kk with
    |succ _=>exact hq.elim
    |zero=>
     cases csv with
     |vec e' sz' l'=>
      cases g4;have Akd:Aiu G σ w (s,0) e sz l (val a w0 s):=h.Eb s cv _ g1;cases l with
      |nil=>
       obtain⟨ad,cap,hc,hm⟩:=g5.len;refine⟨_,none,hq,.inl ⟨rfl,_,rfl,?_⟩⟩;obtain⟨xs,k1,_⟩:=g5;rcases k1.2 with⟨hc',_⟩|⟨g,Azd,cur,hc',_,_,hn,hcm,_⟩
       ·exact C7.list.2 ⟨none,0,hc',Bz _,Cr _,.inl rfl⟩
       ·exact C7.list.2 ⟨_,Azd,hc',hn,hcm,.inl rfl⟩
      |cons y l'=>
       obtain⟨hz,hq⟩:=hq;refine⟨_,some s,hq,.inr ⟨s,_,rfl,g1,rfl,g5,?_⟩⟩;obtain⟨b,hb⟩:∃b,σ b=some (s,0):=by
        obtain⟨xs,k1,k2,k3,k4⟩:=g5;rcases k1.2 with⟨_,h0⟩|⟨g,Azd,cur,hc',_⟩
        ·simp at h0
        ·exact⟨g,k4 g (by rw[hc'];rfl)⟩
       obtain⟨bl,xs,post,cap,p1,_,_,p2,⟨ty,fz,p3,_⟩,_⟩:=g5.row h.Fc hb (by simp)
       obtain⟨bl',xs',A1i,Azd,q1,_,_,q2,⟨ty',fz',q3,_⟩,_⟩:=Akd.row h.Fc hb (by simp)
       rw[p3]at q3;cases q3;have:cap=Azd:=Nat.eq_of_mul_eq_mul_right (Nat.pos_of_ne_zero hz) (p2.symm.trans q2);rw[p1,q1,this]
     |_=>exact hq.elim
   |_=>exact old hq
theorem Pb{Q:St→Prop}(h:Rel G σ Fr w0 st a w):∀{xs:List Operand} {az:List (Bool × D6)} {us:List I} {k:List SV→List (Option Nat)→M},Ke w0.n xs az=true→us.length=az.length→
 (∀(i:Nat) (y:D6) (x:Operand) (u:I),az[i]?=some (false,y)→xs[i]?=some x→us[i]?=some u→C7 G u (a.eval x))→(P8 az us k).wp P Q st→
 ∃svs rs,(k svs rs).wp P Q st∧svs.length=xs.length∧rs.length=xs.length∧∀(i:Nat) (sv:SV) (x:Operand),svs[i]?=some sv→xs[i]?=some x→
  (rs[i]?=some none∧((∃u,sv= .v u∧C7 G u (a.eval x))∨∃e sz,sv= .vec e sz []∧a.eval x= .slice none 0 0))∨(∃s ver,rs[i]?=some (some s)∧st[s]?=some ver∧sv.Ay1=true∧Ab1 G σ w s sv (a.eval x)∧a.eval x=val a w0 s)
 | [],[],us,k,_,_,_,hq=>⟨[],[],hq,rfl,rfl,by simp⟩
 |x::xs,(false,y)::az,us,k,ho,hl,hu,hq=>by
  simp only[Ke,Ap]at ho;cases us with
  |nil=>simp at hl
  |cons u us=>
   obtain⟨svs,rs,h1,h2,h3,h4⟩:=Pb h ho.2 (by simpa using hl) (fun i y' x' u' a1 a2 a3=>hu (i+1) y' x' u' (by simpa using a1) (by simpa using a2) (by simpa using a3)) hq
   refine⟨.v u::svs,none::rs,h1,by simp[h2],by simp[h3],?_⟩
   intro i sv x' a1 a2;cases i with
   |zero=>
    simp only[Fa,A0]at a1 a2;subst a1;subst a2;exact .inl ⟨rfl,.inl ⟨u,rfl,hu 0 y _ u rfl rfl rfl⟩⟩
   |succ i=>exact h4 i sv x' (by simpa using a1) (by simpa using a2)
 |x::xs,(true,y)::az,us,k,ho,hl,hu,hq=>by
  simp only[Ke,Ap]at ho;cases us with
  |nil=>simp at hl
  |cons u us=>
   have gen:(X2 y fun sv s=>P8 az us fun svs rs=>k (sv::svs) (s::rs)).wp P Q st→∃svs rs,(k svs rs).wp P Q st∧svs.length=(x::xs).length∧rs.length=(x::xs).length∧∀(i:Nat) (sv:SV) (x':Operand),svs[i]?=some sv→(x::xs)[i]?=some x'→
    (rs[i]?=some none∧((∃u,sv= .v u∧C7 G u (a.eval x'))∨∃e sz,sv= .vec e sz []∧a.eval x'= .slice none 0 0))∨(∃s ver,rs[i]?=some (some s)∧st[s]?=some ver∧sv.Ay1=true∧Ab1 G σ w s sv (a.eval x')∧a.eval x'=val a w0 s):=by
    intro hq;obtain⟨sv0,r0,g1,g2⟩:=Af1 h ho.1 hq;obtain⟨svs,rs,h1,h2,h3,h4⟩:=Pb h ho.2 (by simpa using hl) (fun i y' x' u' a1 a2 a3=>hu (i+1) y' x' u' (by simpa using a1) (by simpa using a2) (by simpa using a3)) g1
    refine⟨sv0::svs,r0::rs,h1,by simp[h2],by simp[h3],?_⟩
    intro i sv x' a1 a2;cases i with
    |zero=>
     simp only[Fa,A0]at a1 a2;subst a1;subst a2;rcases g2 with⟨rfl,u,rfl,g3⟩|⟨s,ver,rfl,g3⟩
     ·exact .inl ⟨rfl,.inl ⟨u,rfl,g3⟩⟩
     ·exact .inr ⟨s,ver,rfl,g3⟩
    |succ i=>exact h4 i sv x' (by simpa using a1) (by simpa using a2)
   cases y with
   |t n=>exact gen hq
   |c z=>exact gen hq
   |Ahc e sz=>
    obtain⟨svs,rs,h1,h2,h3,h4⟩:=Pb h ho.2 (by simpa using hl) (fun i y' x' u' a1 a2 a3=>hu (i+1) y' x' u' (by simpa using a1) (by simpa using a2) (by simpa using a3)) hq
    refine⟨.vec e sz []::svs,none::rs,h1,by simp[h2],by simp[h3],?_⟩
    intro i sv x' a1 a2;cases i with
    |zero=>
     simp only[Fa,A0]at a1 a2;subst a1;subst a2;exact .inl ⟨rfl,.inr ⟨e,sz,rfl,Le ho.1⟩⟩
    |succ i=>exact h4 i sv x' (by simpa using a1) (by simpa using a2)
 | [],_::_,_,_,ho,_,_,_=>by cases ho
 |_::_,[],_,_,ho,_,_,_=>by simp[Ke]at ho
theorem Rel.many{G':Mem}{σ':Lab}{w':World}{st':St}(h:Rel G σ Fr w0 st a w)(H2:WOk G' σ' Fr w0 w')(hG:G.le G')(hlen:st'.length=st.length)
 (hs:∀s,(st'[s]?=st[s]?∧Kept σ σ' w w' s)∨∃ver old Gu new,st[s]?=some (ver,old)∧st'[s]?=some (Gu,new)∧ver<Gu∧new.root=none∧(∀h,new≠ .par h)∧Ab1 G' σ' w' s new (val a w0 s)∧∀inv t,new= .own inv t→A13 old Gu inv t):
 Rel G' σ' Fr w0 st' a w':=by
 have kept:∀s' cur ver,st[s']?=some cur→ver≤cur.1→∃Amr,st'[s']?=some Amr∧ver≤Amr.1∧(ver=Amr.1→Amr=cur∧ver=cur.1∧Kept σ σ' w w' s'):=by
  intro s' cur ver hc hv;rcases hs s' with⟨h1,h2⟩|⟨v,old,v',new,h1,h2,h3,_⟩
  ·exact⟨cur,by rw[h1];exact hc,hv,fun e=>⟨rfl,e,h2⟩⟩
  ·rw[hc]at h1;cases h1;exact⟨_,h2,by show ver≤v';simp only at hv;omega,fun e=>by exfalso;simp only at hv;have:ver=v':=e;omega⟩
 refine⟨H2,h.defers,h.n,by rw[hlen];exact h.len,?_,?_⟩
 ·intro s ver sv hsv;rcases hs s with⟨h1,h2⟩|⟨v,old,v',new,h1,h2,h3,h4,_,h5,_⟩
  ·rw[h1]at hsv;have h0:=h.Eb s ver sv hsv;generalize val a w0 s=c at h0;cases sv with
   |bor s' k Gu=>
    obtain⟨cur,g1,g2,g3⟩:=h0;obtain⟨Amr,k1,k2,k3⟩:=kept s' cur Gu g1 g2;refine⟨Amr,k1,k2,fun e=>?_⟩
    obtain⟨rfl,e',hk⟩:=k3 e;obtain⟨e,sz,l,g4,g5⟩:=g3 e';exact⟨e,sz,l,g4,g5.tr hG fun b hb=>hk b k hb⟩
   |sub s' k Gu n=>
    obtain⟨cur,g1,g2,g3⟩:=h0;obtain⟨Amr,k1,k2,k3⟩:=kept s' cur Gu g1 g2;refine⟨Amr,k1,k2,fun e=>?_⟩
    obtain⟨rfl,e',hk⟩:=k3 e;obtain⟨e,sz,l,g4,g5⟩:=g3 e';exact⟨e,sz,l,g4,g5.tr hG fun b hb=>hk b k hb⟩
   |suf s' k Gu n=>
    obtain⟨cur,g1,g2,g3⟩:=h0;obtain⟨Amr,k1,k2,k3⟩:=kept s' cur Gu g1 g2;refine⟨Amr,k1,k2,fun e=>?_⟩
    obtain⟨rfl,e',hk⟩:=k3 e;obtain⟨e,sz,l,c0,g4,g5,g6⟩:=g3 e';exact⟨e,sz,l,c0,g4,g5.tr hG fun b hb=>hk b k hb,g6⟩
   |pt s' k Gu off r=>
    obtain⟨cur,g1,g2,g3⟩:=h0;obtain⟨Amr,k1,k2,k3⟩:=kept s' cur Gu g1 g2;refine⟨Amr,k1,k2,fun e=>?_⟩
    obtain⟨rfl,e',hk⟩:=k3 e;obtain⟨b,g4,g5⟩:=g3 e';exact⟨b,(hk b k g4).1,g5⟩
   |pdt s' Gu p b=>
    obtain⟨c0,hc0,h0⟩:=h0;obtain⟨cur,g1,g2,g3⟩:=h0;refine⟨c0,hc0,?_⟩;rcases hs s' with⟨k1,k2⟩|⟨v,old,v',new,k1,k2,k3,_,_,k5,k6⟩
    ·refine⟨cur,by rw[k1];exact g1,g2,fun inv t e hp ha=>?_⟩
     obtain⟨cv,csv⟩:=cur;simp only at e;subst e;exact(g3 inv t rfl hp ha).tr (show Ac5 G σ w s' t (val a w0 s')from h.Eb s' cv _ g1) k2
    ·rw[k1]at g1;cases g1;refine⟨_,k2,by simp only at g2 ⊢;omega,fun inv t e hp ha=>?_⟩
     simp only at e;subst e;exact(k6 inv t rfl).pt (by simp only at g2;omega) hp ha (fun i0 t0 e=>show Ac5 G σ w s' t0 (val a w0 s')from h.Eb s' v (.own i0 t0) (by rw[k1,e])) k5 (fun i0 t0 e ha'=>g3 i0 t0 e hp ha')
   |pd s' Gu p=>
    obtain⟨cur,g1,g2,g3⟩:=h0;rcases hs s' with⟨k1,k2⟩|⟨v,old,v',new,k1,k2,k3,_,_,k5,k6⟩
    ·refine⟨cur,by rw[k1];exact g1,g2,fun inv t e hp ha=>?_⟩
     obtain⟨cv,csv⟩:=cur;simp only at e;subst e;exact(g3 inv t rfl hp ha).tr (show Ac5 G σ w s' t (val a w0 s')from h.Eb s' cv _ g1) k2
    ·rw[k1]at g1;cases g1;refine⟨_,k2,by simp only at g2 ⊢;omega,fun inv t e hp ha=>?_⟩
     simp only at e;subst e;exact(k6 inv t rfl).pt (by simp only at g2;omega) hp ha (fun i0 t0 e=>show Ac5 G σ w s' t0 (val a w0 s')from h.Eb s' v (.own i0 t0) (by rw[k1,e])) k5 (fun i0 t0 e ha'=>g3 i0 t0 e hp ha')
   |bs s' Gu p lo n=>
    obtain⟨cur,g1,g2,g3⟩:=h0;rcases hs s' with⟨k1,k2⟩|⟨v,old,v',new,k1,k2,k3,_,_,k5,k6⟩
    ·refine⟨cur,by rw[k1];exact g1,g2,fun e0 inv t e=>?_⟩
     obtain⟨cv,csv⟩:=cur;simp only at e;subst e;exact⟨(g3 e0 inv t rfl).1,(g3 e0 inv t rfl).2.tr (show Ac5 G σ w s' t (val a w0 s')from h.Eb s' cv _ g1) k2⟩
    ·rw[k1]at g1;cases g1;exact⟨_,k2,by simp only at g2 ⊢;omega,fun e0=>by exfalso;simp only at g2 e0;omega⟩
   |kcl f s' Gu p=>
    obtain⟨g,c0,ty,kk,hc0,hg1,hg2,h0⟩:=h0;obtain⟨cur,g1,g2,g3⟩:=h0;have hgk:=h2 g kk hg1;refine⟨g,c0,ty,kk,hc0,hgk.1,by rw[hgk.2];exact hg2,?_⟩
    rcases hs s' with⟨k1,k2⟩|⟨v,old,v',new,k1,k2,k3,_,_,k5,k6⟩
    ·refine⟨cur,by rw[k1];exact g1,g2,fun inv t e ha=>?_⟩
     obtain⟨cv,csv⟩:=cur;simp only at e;subst e;exact(g3 inv t rfl ha).tr (show Ac5 G σ w s' t (val a w0 s')from h.Eb s' cv _ g1) k2
    ·rw[k1]at g1;cases g1;refine⟨_,k2,by simp only at g2 ⊢;omega,fun inv t e ha=>?_⟩
     simp only at e;subst e;exact(k6 inv t rfl).hd (by simp only at g2;omega) ha (fun i0 t0 e=>show Ac5 G σ w s' t0 (val a w0 s')from h.Eb s' v (.own i0 t0) (by rw[k1,e])) k5 (fun i0 t0 e ha'=>g3 i0 t0 e ha')
   |bp s' Gu p=>
    obtain⟨g,c0,ty,kk,hc0,hg1,hg2,h0⟩:=h0;obtain⟨cur,g1,g2,g3⟩:=h0;have hgk:=h2 g kk hg1;refine⟨g,c0,ty,kk,hc0,hgk.1,by rw[hgk.2];exact hg2,?_⟩
    rcases hs s' with⟨k1,k2⟩|⟨v,old,v',new,k1,k2,k3,_,_,k5,k6⟩
    ·refine⟨cur,by rw[k1];exact g1,g2,fun inv t e hp ha=>?_⟩
     obtain⟨cv,csv⟩:=cur;simp only at e;subst e;exact(g3 inv t rfl hp ha).tr (show Ac5 G σ w s' t (val a w0 s')from h.Eb s' cv _ g1) k2
    ·rw[k1]at g1;cases g1;refine⟨_,k2,by simp only at g2 ⊢;omega,fun inv t e hp ha=>?_⟩
     simp only at e;subst e;exact(k6 inv t rfl).pt (by simp only at g2;omega) hp ha (fun i0 t0 e=>show Ac5 G σ w s' t0 (val a w0 s')from h.Eb s' v (.own i0 t0) (by rw[k1,e])) k5 (fun i0 t0 e ha'=>g3 i0 t0 e hp ha')
   |ocl fb yb s' Gu p=>
    obtain⟨gb,xb,tb,kb,hb1,hb2,hb3,h0⟩:=h0;obtain⟨g,c0,ty,kk,hc0,hg1,hg2,h0⟩:=h0;obtain⟨cur,g1,g2,g3⟩:=h0;have hgk:=h2 g kk hg1;have hbk:=h2 gb kb hb1;refine⟨gb,xb,tb,kb,hbk.1,by rw[hbk.2];exact hb2,(by first|exact D8.mono hG yb _ hb3|exact hb3),?_⟩
    refine⟨g,c0,ty,kk,hc0,hgk.1,by rw[hgk.2];exact hg2,?_⟩
    rcases hs s' with⟨k1,k2⟩|⟨v,old,v',new,k1,k2,k3,_,_,k5,k6⟩
    ·refine⟨cur,by rw[k1];exact g1,g2,fun inv t e hp ha=>?_⟩
     obtain⟨cv,csv⟩:=cur;simp only at e;subst e;exact(g3 inv t rfl hp ha).tr (show Ac5 G σ w s' t (val a w0 s')from h.Eb s' cv _ g1) k2
    ·rw[k1]at g1;cases g1;refine⟨_,k2,by simp only at g2 ⊢;omega,fun inv t e hp ha=>?_⟩
     simp only at e;subst e;exact(k6 inv t rfl).pt (by simp only at g2;omega) hp ha (fun i0 t0 e=>show Ac5 G σ w s' t0 (val a w0 s')from h.Eb s' v (.own i0 t0) (by rw[k1,e])) k5 (fun i0 t0 e ha'=>g3 i0 t0 e hp ha')
   |bd s' Gu p=>
    obtain⟨cur,g1,g2,g3⟩:=h0;rcases hs s' with⟨k1,k2⟩|⟨v,old,v',new,k1,k2,k3,_,_,k5,k6⟩
    ·refine⟨cur,by rw[k1];exact g1,g2,fun inv t e ha=>?_⟩
     obtain⟨cv,csv⟩:=cur;simp only at e;subst e;exact(g3 inv t rfl ha).tr (show Ac5 G σ w s' t (val a w0 s')from h.Eb s' cv _ g1) k2
    ·rw[k1]at g1;cases g1;refine⟨_,k2,by simp only at g2 ⊢;omega,fun inv t e ha=>?_⟩
     simp only at e;subst e;exact(k6 inv t rfl).hd (by simp only at g2;omega) ha (fun i0 t0 e=>show Ac5 G σ w s' t0 (val a w0 s')from h.Eb s' v (.own i0 t0) (by rw[k1,e])) k5 (fun i0 t0 e ha'=>g3 i0 t0 e ha')
   |cl f fs cs=>
    refine Ay0.tr h0 fun s' cu g1=>?_
    rcases hs s' with⟨k1,k2⟩|⟨v,old,v',new,k1,k2,k3,_,_,k5,k6⟩
    ·exact⟨cu,by rw[k1];exact g1,Bz _,fun _=>rfl⟩
    ·rw[k1]at g1;cases g1;exact⟨_,k2,by simp only;omega,fun _=>rfl⟩
   |al s' Gu=>
    obtain⟨cu,g1,g2,g3⟩:=h0;rcases hs s' with⟨k1,k2⟩|⟨v,old,v',new,k1,k2,k3,_,_,k5,k6⟩
    ·exact⟨cu,by rw[k1];exact g1,g2,g3⟩
    ·rw[k1]at g1;cases g1;exact⟨_,k2,by simp only at g2 ⊢;omega,fun e=>by exfalso;simp only at g2 e;omega⟩
   |_=>
    rw[Ait.own rfl]at h0 ⊢;exact Ab1.tr h0 hG fun b k hb=>h2 b k hb
  ·rw[h2]at hsv;cases hsv;rw[Ait.own h4];exact h5
 ·intro s ver hh hsv;rcases hs s with⟨h1,h2⟩|⟨v,old,v',new,h1,h2,h3,h4,h5,_⟩
  ·rw[h1]at hsv;exact h.As8 s ver hh hsv
  ·rw[h2]at hsv;cases hsv;exact absurd rfl (h5 hh)
theorem Q0{Q:St→Prop}{k:M}:∀{rs:List (Option Nat)} {outs:List SV} {st:St},rs.length=outs.length→(Ao3 rs).Nodup→(Qc rs outs k).wp P Q st→
 ∃st',k.wp P Q st'∧st'.length=st.length∧(∀s,s ∉ Ao3 rs→st'[s]?=st[s]?)∧(∀(i:Nat) s sv,rs[i]?=some (some s)→outs[i]?=some sv→∃ver old,st[s]?=some (ver,old)∧st'[s]?=some (ver+1,sv.Awc old (ver+1)))
 | [],[],st,_,_,h=>⟨st,h,rfl,fun _ _=>rfl,by simp⟩
 |none::rs,sv::outs,st,hl,hn,h=>by
  obtain⟨st',h1,h2,h3,h4⟩:=Q0 (rs:=rs) (outs:=outs) (by simpa using hl) (by simpa[Ao3]using hn) h
  refine⟨st',h1,h2,fun s hs=>h3 s (by simpa[Ao3]using hs),?_⟩
  intro i s sv' a1 a2;cases i with
  |zero=>simp at a1
  |succ i=>exact h4 i s sv' (by simpa using a1) (by simpa using a2)
 |some s0::rs,sv::outs,st,hl,hn,h=>by
  simp only[Qc,M.wp]at h;have hn':s0 ∉ Ao3 rs∧(Ao3 rs).Nodup:=by simpa[Ao3]using hn
  cases hs:st[s0]? with
  |none=>simp[hs]at h
  |some cur=>
   simp only[hs]at h;obtain⟨st',h1,h2,h3,h4⟩:=Q0 (rs:=rs) (outs:=outs) (by simpa using hl) hn'.2 h
   have Ze:s0<st.length:=(A7.1 hs).1;refine⟨st',h1,by simpa using h2,?_,?_⟩
   ·intro s hs';have:s≠s0∧s ∉ Ao3 rs:=by simpa[Ao3]using hs'
    rw[h3 s this.2,B3 (Ne.symm this.1)]
   ·intro i s sv' a1 a2;cases i with
    |zero=>
     simp only[Fa,A0]at a1 a2;subst a1;subst a2;exact⟨cur.1,cur.2,hs,by rw[h3 s0 hn'.1];simp[Ze]⟩
    |succ i=>
     obtain⟨ver,old,k1,k2⟩:=h4 i s sv' (by simpa using a1) (by simpa using a2)
     have Cf:s≠s0:=by
      rintro rfl;exact hn'.1 (Ajj.2 ⟨some s,Cb (by simpa using a1),rfl⟩)
     rw[B3 (Ne.symm Cf)]at k1;exact⟨ver,old,k1,k2⟩
 | [],_::_,_,hl,_,_=>by simp at hl
 |_::_,[],_,hl,_,_=>by simp at hl
def Lab.inner(σ:Lab)(rs:List (Option Nat)):Lab:=fun b=>match σ b with
 |some (s,k)=>match rs.idxOf? (some s)with
  |some i=>some (i,k)
  |none=>none
 |none=>none
def Mem.inner(Fr:Mem)(σ:Lab)(w:World)(rs:List (Option Nat)):Mem:=fun b=>match σ b with
 |some (s,_)=>if some s∈rs then none else w.heap[b]?
 |none=>Fr b
def Lab.outer(σ σ':Lab)(rs:List (Option Nat)):Lab:=fun b=>match σ b with
 |some (s,k)=>if some s∈rs then(match σ' b with
  |some (i,k)=>match rs[i]? with
   |some (some s)=>some (s,k)
   |_=>none
  |none=>none)else some (s,k)
 |none=>match σ' b with
  |some (i,k)=>match rs[i]? with
   |some (some s)=>some (s,k)
   |_=>none
  |none=>none
theorem Ss{rs:List (Option Nat)}{s i:Nat}(hn:(Ao3 rs).Nodup)(h:rs[i]?=some (some s)):rs.idxOf? (some s)=some i:=by
 induction rs generalizing i with
 |nil=>simp at h
 |cons r rs ih=>
  cases i with
  |zero=>
   simp only[Fa,A0]at h;subst h;simp[List.idxOf?_cons]
  |succ i=>
   have h':rs[i]?=some (some s):=by simpa using h
   have Aw4:s∈Ao3 rs:=Ajj.2 ⟨some s,Cb h',rfl⟩;have Cf:r≠some s:=by
    rintro rfl;have:s ∉ Ao3 rs∧(Ao3 rs).Nodup:=by simpa[Ao3]using hn
    exact this.1 Aw4
   have hn':(Ao3 rs).Nodup:=by
    cases r with
    |none=>simpa[Ao3]using hn
    |some r=>have:r ∉ Ao3 rs∧(Ao3 rs).Nodup:=by simpa[Ao3]using hn
             exact this.2
   rw[List.idxOf?_cons,if_neg (by simpa using Cf),ih hn' h']
   rfl
theorem Afv{rs:List (Option Nat)}{s i:Nat}(h:rs.idxOf? (some s)=some i):rs[i]?=some (some s):=by
 induction rs generalizing i with
 |nil=>simp at h
 |cons r rs ih=>
  rw[List.idxOf?_cons]at h;split at h
  ·rename_i hr;simp only[A0]at h;subst h;simpa using hr
  ·cases hi:rs.idxOf? (some s)with
   |none=>simp[hi]at h
   |some j=>
    simp only[hi,Fq,A0]at h;subst h;simpa using ih hi
theorem L4{rs:List (Option Nat)}{s:Nat}:some s∈rs↔s∈Ao3 rs:=by simp[Ao3]
end
end Go.Ab
