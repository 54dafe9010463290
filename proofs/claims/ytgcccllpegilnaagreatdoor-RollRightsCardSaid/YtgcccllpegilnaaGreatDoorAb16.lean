/- Lemmas -/
import Derived.Test.YtgcccllpegilnaaGreatDoorAbK
import Derived.Deep.LoopGhost
set_option linter.unusedVariables false
set_option linter.unusedSimpArgs false
namespace Go.Ab
inductive Pb where
 |mv (d:Nat) (x:Ar)
 |asg (d:Nat) (x:Ar)
 |P3 (d:Nat) (e:TypeId) (sz:Nat) (x:Ar)
 |bin (d:Nat) (op:BinOp) (x y:Ar)
 |not (d:Nat) (x:Ar)
 |neg (d:Nat) (x:Ar)
 |pick (d:Nat) (c x y:Ar)
 |load (d:Nat) (agg:Bool) (sz:Nat) (x:Ar)
 |store (sz:Nat) (x y:Ar)
 |alloc (d:Nat) (t:T)
 |box (d:Nat) (x:Ar)
 |Age (d:Nat) (x:Ar) (i off:Nat)
 |Aqb (d:Nat) (sz:Nat) (x i:Ar)
 |Fu (d:Nat) (sz cnt:Nat) (x i:Ar)
 |len (d:Nat) (str:Bool) (x:Ar)
 |slc (d:Nat) (str:Bool) (sz:Nat) (x:Ar) (lo hi:Option Ar)
 |sfx (d:Nat) (sz:Nat) (x lo:Ar)
 |clr (d:Option Nat) (sz:Nat) (z:I) (x:Ar)
 |s2b (d:Nat) (e:TypeId) (x:Ar)
 |b2s (d:Nat) (x:Ar)
 |mkf (d:Nat) (f:FuncId) (Lw:List Ar)
 |build (d:Nat) (zs:List I) (ps:List (Nat × Ar))
 |E1 (d:Nat) (e:TypeId) (sz:Nat) (z:I) (n:Nat) (ps:List (Nat × Ar))
 |empty (d:Nat) (e:TypeId) (sz:Nat)
 |ext (d:Nat) (x:Ar) (i:Nat)
 |fld (d:Nat) (agg:Bool) (sz:Nat) (x:Ar) (i off:Nat)
 |mm (d:Nat) (max:Bool) (x y:Ar)
 |app (d:Nat) (e:TypeId) (sz bytes:Nat) (x y:Ar)
 |eqs (d:Nat) (neg:Bool) (e:Ft) (x y:Ar)
 |Vk (d:Nat) (neg:Bool) (x:Ar)
 |Zy (d:Nat) (x i:Ar)
 |A7b (d:Nat) (agg:Bool) (sz:Nat) (x:Ar)
 |Ak2 (d:Nat) (agg:Bool) (sz:Nat) (x:Ar)
 |K7 (d:Nat) (t:D)
 |Pf (d:Nat) (x:Ar)
 |Yj (d:Nat) (zs:List D) (ps:List (Nat × Ar))
 |Wh (d:Nat) (e:TypeId) (sz:Nat) (z:I) (n:Nat) (ps:List (Nat × Ar))
 |bits (d:Nat) (op:BinOp) (x y:Ar)
 |Ao7 (d:Nat) (x:Ar)
 |conv (d:Nat) (k:IntKind) (x:Ar)
 |make (d:Nat) (e:TypeId) (sz bytes:Nat) (z:I) (x:Ar)
 |Ri (d:Nat) (er:TypeId) (sz bytes:Nat) (str:Bool) (x y:Ar)
 |C8 (d:Nat) (x:Ar)
 |Rm (d:Nat) (x:Ar)
 |A7m (d:Nat) (x:Ar)
 |Awz (d:Nat) (x:Ar)
 |A1c (d:Nat) (sz:Nat) (x lo:Ar)
 |A1d (d:Nat) (sz:Nat) (x:Ar) (lo hi:Option Ar)
 |As1 (d:Nat) (neg:Bool) (x:Ar)
 |Ar3 (d sz n:Nat) (z:I) (ps:List (Nat × Ar))
 |Axm (d:Nat) (agg:Bool) (sz len:Nat) (x i:Ar)
 |dead (d:Option Nat)
 deriving Inhabited
def Pb.sem:Pb→M
 | .mv d x=>Azv x (Bbq (some d) x) (A7t (some d) x)
 | .asg d x=>Afs d x
 | .P3 d e sz x=>A06 d e sz x
 | .bin d op x y=>Bbm (some d) op x y
 | .not d x=>Bbs (some d) x
 | .neg d x=>Bbr (some d) x
 | .pick d c x y=>A5t (some d) c x y
 | .load d agg sz x=>Ht x (A05 (some d) agg sz x) (A5p (some d) agg sz x)
 | .A7b d agg sz x=>A04 (some d) agg sz x
 | .Ak2 d agg sz x=>A02 (some d) agg sz x
 | .K7 d t=>Auw d t
 | .Pf d x=>A5m d x
 | .Yj d zs ps=>Auz d zs ps
 | .Wh d e sz z n ps=>Aq0 d e sz z n ps
 | .store sz x y=>Ht x (Au3 sz x y) (A09 sz x y)
 | .alloc d t=>Aux d t
 | .box d x=>Bbn d x
 | .Age d x i off=>Ht x (Au0 (some d) x i off) (A00 (some d) x i off)
 | .Aqb d sz x i=>Ht x (Au2 (some d) sz x i) (Awx x (Au1 (some d) sz x i) (A01 (some d) sz x i))
 | .Fu d sz cnt x i=>Ht x (Auv (some d) sz cnt x i) (A0t (some d) sz cnt x i)
 | .len d str x=>Ht x (A5o (some d) str x) (match str with
   |true=>Aq2 (some d) true x
   |false=>Awx x (As9 (some d) x) (Aq2 (some d) false x))
 | .slc d str sz x lo hi=>Ht x (A5w (some d) str sz x lo hi) (Aoi (some d) str sz x lo hi)
 | .sfx d sz x lo=>A08 (some d) sz x lo
 | .clr d sz z x=>A0x d sz z x
 | .s2b d e x=>Bbt d e x
 | .b2s d x=>A0v d x
 | .mkf d f Lw=>Bbp d f Lw
 | .build d zs ps=>A0w (some d) zs ps
 | .E1 d e sz z n ps=>Auy d e sz z n ps
 | .empty d e sz=>A0z d e sz
 | .ext d x i=>As7 d x i
 | .fld d agg sz x i off=>Ht x (As8 (some d) agg sz x i off) (Bbo (some d) agg sz x i off)
 | .mm d max x y=>Bge (some d) max x y
 | .app d e sz bytes x y=>Ht x (As6 d e sz bytes x y) (Ht y (As6 d e sz bytes x y) (Bbk d e sz bytes x y))
 | .eqs d ng e x y=>Bgd (some d) ng e x y
 | .Vk d ng x=>A07 (some d) ng x
 | .Zy d x i=>Bcn (some d) x i
 | .bits d op x y=>A5j (some d) op x y
 | .Ao7 d x=>A0y (some d) x
 | .conv d k x=>A5n (some d) k x
 | .make d e sz bytes z x=>A5q d e sz bytes z x
 | .Ri d er sz bytes str x y=>Ht x (A0u d er sz bytes str x y) (A5i d er sz bytes str x y)
 | .C8 d x=>A5s (some d) x
 | .Rm d x=>A5r d x
 | .A7m d x=>A5v d x
 | .Awz d x=>Aoh (some d) x
 | .A1c d sz x lo=>A5x d sz x lo
 | .A1d d sz x lo hi=>A5y (some d) sz x lo hi
 | .As1 d ng x=>A5u (some d) ng x
 | .Ar3 d sz n z ps=>A5k (some d) sz n z ps
 | .Axm d agg sz cnt x i=>A5h (some d) agg sz cnt x i
 | .dead _=>.fail
def B1(d:Option Nat)(e:Nat):Bool:=match d with
 |some d=>d==e
 |none=>false
theorem Bf{d:Option Nat}{e:Nat}(h:B1 d e=true):d=some e:=by
 unfold B1 at h;split at h
 ·simp only[beq_iff_eq]at h;rw[h]
 ·cases h
def As4:Operand→Operand→Bool
 | .tmp a,.tmp b=>a==b
 | .const (.int k a),.const (.int k' b)=>k==k'&&a==b
 |_,_=>false
theorem A7r{x y:Operand}(h:As4 x y=true):x=y:=by
 unfold As4 at h;split at h
 ·simp only[beq_iff_eq]at h;rw[h]
 ·simp only[Bool.and_eq_true,beq_iff_eq]at h;rw[h.1,h.2]
 ·cases h
def Hy(P:Program)(N:Nat)(o:Oper)(i:Pb):Bool:=match o.op,i with
 | .binOp .eql t x y _,.eqs d false e x' y'=>B1 o.dst d&&Ax N x x'&&Ax N y y'&&A6j P e t
 | .binOp .neq t x y _,.eqs d true e x' y'=>B1 o.dst d&&Ax N x x'&&Ax N y y'&&A6j P e t
 | .binOp .eql t x y _,.Vk d false x'=>B1 o.dst d&&Ax N x x'&&Aw0 P t y
 | .binOp .neq t x y _,.Vk d true x'=>B1 o.dst d&&Ax N x x'&&Aw0 P t y
 | .index t x i,.Zy d x' i'=>B1 o.dst d&&Ax N x x'&&Ax N i i'&&(match P.underlying t with
  |some .string=>true
  |_=>false)
 | .move x,.mv d y| .assign x,.mv d y=>B1 o.dst d&&Ax N x y
 | .move x,.asg d y| .assign x,.asg d y=>B1 o.dst d&&Ax N x y
 | .move x,.P3 d _ _ y| .assign x,.P3 d _ _ y=>B1 o.dst d&&Ax N x y
 | .binOp op _ x y _,.bits d op' x' y'=>B1 o.dst d&&decide (op=op')&&Ax N x x'&&Ax N y y'
 | .unOp .xor _ x,.Ao7 d x'=>B1 o.dst d&&Ax N x x'
 | .convert src dst x,.conv d k x'=>B1 o.dst d&&Ax N x x'&&Axv P dst k src
 | .makeSlice t x y,.make d e sz bytes z x'=>B1 o.dst d&&As4 x y&&Ax N x x'&&Azx P t e sz bytes z
 | .binOp op _ x y _,.bin d op' x' y'=>B1 o.dst d&&decide (op=op')&&Ax N x x'&&Ax N y y'
 | .unOp .not _ x,.not d x'=>B1 o.dst d&&Ax N x x'
 | .unOp .neg _ x,.neg d x'=>B1 o.dst d&&Ax N x x'
 | .pick c x y,.pick d c' x' y'=>B1 o.dst d&&Ax N c c'&&Ax N x x'&&Ax N y y'
 | .load t x,.load d agg sz x'=>B1 o.dst d&&Ax N x x'&&Hd P t agg sz
 | .load t x,.A7b d agg sz x'=>B1 o.dst d&&Ax N x x'&&Hd P t agg sz
 | .load t x,.Ak2 d agg sz x'=>B1 o.dst d&&Ax N x x'&&Hd P t agg sz
 | .store t x y,.store sz x' y'=>o.dst.isNone&&Ax N x x'&&Ax N y y'&&(Hd P t true sz||Hd P t false sz)
 | .alloc e,.alloc d t=>B1 o.dst d&&A2r P e t
 | .alloc e,.K7 d t=>B1 o.dst d&&Ato P e t
 | .box _ x,.box d x'=>B1 o.dst d&&Ax N x x'
 | .box _ x,.Pf d x'=>B1 o.dst d&&Ax N x x'
 | .fieldAddr t x i,.Age d x' i' off=>B1 o.dst d&&Ax N x x'&&i==i'&&Aem P t i off
 | .indexAddr t x i,.Aqb d sz x' i'=>B1 o.dst d&&Ax N x x'&&Ax N i i'&&Hv P t sz
 | .indexAddr t x i,.Fu d sz cnt x' i'=>B1 o.dst d&&Ax N x x'&&Ax N i i'&&Ao3 P t sz cnt
 | .slice t x lo hi none,.slc d str sz x' Ra Fh=>B1 o.dst d&&Ax N x x'&&oOk N lo Ra&&oOk N hi Fh&&Ame P t str sz
 | .slice t x (some lo) none none,.sfx d sz x' Ra=>B1 o.dst d&&Ax N x x'&&Ax N lo Ra&&Hv P t sz
 | .convert src dst x,.s2b d e x'=>B1 o.dst d&&Ax N x x'&&A7p P src dst e
 | .convert src dst x,.b2s d x'=>B1 o.dst d&&Ax N x x'&&A59 P src dst
 | .makeFunc (.func f') first captured,.mkf d f Lw=>B1 o.dst d&&f'==f&&first.isEmpty&&Afo N captured.toList Lw
 | .build t ps,.build d zs Kg=>B1 o.dst d&&Gp N ps.toList Kg&&Ar4 P t zs
 | .build t ps,.Yj d zs Kg=>B1 o.dst d&&Gp N ps.toList Kg&&Ani P t zs
 | .buildSlice t n ps,.Wh d e sz z n' Kg=>B1 o.dst d&&n==n'&&Gp N ps.toList Kg&&Uq P t e sz z n
 | .buildSlice t n ps,.E1 d e sz z n' Kg=>B1 o.dst d&&n==n'&&Gp N ps.toList Kg&&Uq P t e sz z n
 | .buildSlice t n ps,.empty d e _=>B1 o.dst d&&n==0&&ps.isEmpty&&(match P.underlying t with
  |some (.slice e')=>e'==e
  |_=>false)&&(P.info? e).isSome
 | .extract x i,.ext d x' i'=>B1 o.dst d&&Ax N x x'&&i==i'
 | .field t x i,.fld d agg sz x' i' off=>B1 o.dst d&&Ax N x x'&&i==i'&&Apg P t i off agg sz
 | .nilCheck x,.C8 d x'=>B1 o.dst d&&Ax N x x'
 | .move x,.Rm d y| .assign x,.Rm d y=>B1 o.dst d&&Ax N x y
 | .range t x,.A7m d x'=>B1 o.dst d&&Ax N x x'&&(match P.underlying t with
  |some .string=>true
  |_=>false)
 | .next x true,.Awz d x'=>B1 o.dst d&&Ax N x x'
 | .slice t x lo hi none,.A1d d sz x' Ra Fh=>B1 o.dst d&&Ax N x x'&&oOk N lo Ra&&oOk N hi Fh&&Hv P t sz
 | .slice t x (some lo) none none,.A1c d sz x' Ra=>B1 o.dst d&&Ax N x x'&&Ax N lo Ra&&Hv P t sz
 | .binOp .eql t x y _,.As1 d false x'=>B1 o.dst d&&Ax N x x'&&Aqw P t y
 | .binOp .neq t x y _,.As1 d true x'=>B1 o.dst d&&Ax N x x'&&Aqw P t y
 | .build t ps,.Ar3 d sz n z Kg=>B1 o.dst d&&Gp N ps.toList Kg&&Axq P t sz n z
 | .index t x i,.Axm d agg sz len x' i'=>B1 o.dst d&&Ax N x x'&&Ax N i i'&&Axn P t agg sz len
 | .call {callee:=.builtin b,args,argTypes},i=>match b,args.toList,argTypes.toList,i with
   | .len,[x],[t],.len d str x'=>B1 o.dst d&&Ax N x x'&&Abu P t str
   | .max,[x,y],_,.mm d true x' y'=>B1 o.dst d&&Ax N x x'&&Ax N y y'
   | .min,[x,y],_,.mm d false x' y'=>B1 o.dst d&&Ax N x x'&&Ax N y y'
   | .append,[x,y],[t,u],.Ri d er sz bytes str x' y'=>B1 o.dst d&&Ax N x x'&&Ax N y y'&&Aiy P t u er sz bytes str
   | .append,[x,y],[t,u],.app d e sz bytes x' y'=>B1 o.dst d&&t==u&&Ax N x x'&&Ax N y y'&&Ao0 P t e sz bytes
   | .clear,[x],[t],.clr d sz z x'=>decide (o.dst=d)&&Ax N x x'&&A6c P t sz z
   |_,_,_,.dead _=>true
   |_,_,_,_=>false
 |_,.dead _=>true
 |_,_=>false
theorem Amg{α:Type}{a:Array α}{x:α}(h:a.toList=[x]):a= #[x]:=by cases a;simp_all
theorem Yc{α:Type}{a:Array α}{x y:α}(h:a.toList=[x,y]):a= #[x,y]:=by cases a;simp_all
theorem A9f{P:Program}{N:Nat}{o:Oper}{i:Pb}(h:Hy P N o i=true):Sound P N o i.sem:=by
 unfold Hy at h;split at h;all_goals try(simp only[Bool.and_eq_true,beq_iff_eq,decide_eq_true_eq,Bool.or_eq_true]at h)
 ·rename_i ho;obtain⟨⟨⟨h1,h2⟩,h3⟩,h4⟩:=h;have hd:=Bf h1;have:=A1i (P:=P) (neg:=false) ho h2 h3 h4;rwa [hd]at this
 ·rename_i ho;obtain⟨⟨⟨h1,h2⟩,h3⟩,h4⟩:=h;have hd:=Bf h1;have:=A1i (P:=P) (neg:=true) ho h2 h3 h4;rwa [hd]at this
 ·rename_i ho;obtain⟨⟨h1,h2⟩,h3⟩:=h;have hd:=Bf h1;have:=Au9 (P:=P) (neg:=false) ho h2 h3;rwa [hd]at this
 ·rename_i ho;obtain⟨⟨h1,h2⟩,h3⟩:=h;have hd:=Bf h1;have:=Au9 (P:=P) (neg:=true) ho h2 h3;rwa [hd]at this
 ·rename_i ho;obtain⟨⟨⟨h1,h2⟩,h3⟩,h4⟩:=h;have hd:=Bf h1;split at h4
  ·rename_i hu;have:=A8h (P:=P) ho h2 h3 hu;rwa [hd]at this
  ·cases h4
 ·rename_i ho;have hd:=Bf h.1;have k1:=A1o (P:=P) (.inl ho) h.2;have k2:=Au8 (P:=P) (.inl ho) h.2;rw[hd]at k1 k2;exact Aq6 k2 k1
 ·rename_i ho;have hd:=Bf h.1;have k1:=A1o (P:=P) (.inr ho) h.2;have k2:=Au8 (P:=P) (.inr ho) h.2;rw[hd]at k1 k2;exact Aq6 k2 k1
 ·rename_i ho;exact Ake (Bf h.1) (.inl ho) h.2
 ·rename_i ho;exact Ake (Bf h.1) (.inr ho) h.2
 ·rename_i ho;exact Au7 (Bf h.1) (.inl ho) h.2
 ·rename_i ho;exact Au7 (Bf h.1) (.inr ho) h.2
 ·rename_i ho;obtain⟨⟨⟨h1,rfl⟩,h2⟩,h3⟩:=h;have hd:=Bf h1;have:=A71 (P:=P) ho h2 h3;rwa [hd]at this
 ·rename_i ho;have hd:=Bf h.1;have:=A3i (P:=P) ho h.2;rwa [hd]at this
 ·rename_i ho;obtain⟨⟨h1,h2⟩,h3⟩:=h;have hd:=Bf h1;have:=A75 (P:=P) ho h2 h3;rwa [hd]at this
 ·rename_i ho;obtain⟨⟨⟨h1,h2⟩,h3⟩,h4⟩:=h;have h2':=A7r h2;subst h2';exact A8c (Bf h1) ho h3 h4
 ·rename_i ho;obtain⟨⟨⟨h1,rfl⟩,h2⟩,h3⟩:=h;have hd:=Bf h1;have:=Bby (P:=P) ho h2 h3;rwa [hd]at this
 ·rename_i ho;have hd:=Bf h.1;have:=Bb7 (P:=P) ho h.2;rwa [hd]at this
 ·rename_i ho;have hd:=Bf h.1;have:=Bb6 (P:=P) ho h.2;rwa [hd]at this
 ·rename_i ho;obtain⟨⟨⟨h1,h2⟩,h3⟩,h4⟩:=h;have hd:=Bf h1;have:=A8f (P:=P) ho h2 h3 h4;rwa [hd]at this
 ·rename_i ho;obtain⟨⟨h1,h2⟩,h3⟩:=h;have hd:=Bf h1;have h4:=A8b (P:=P) ho h2 h3;have h5:=A3q (P:=P) ho h2 h3;rw[hd]at h4 h5;exact Ey h5 h4
 ·rename_i ho;obtain⟨⟨h1,h2⟩,h3⟩:=h;have hd:=Bf h1;have:=A3p (P:=P) ho h2 h3;rwa [hd]at this
 ·rename_i ho;obtain⟨⟨h1,h2⟩,h3⟩:=h;have hd:=Bf h1;have:=A3n (P:=P) ho h2 h3;rwa [hd]at this
 ·rename_i ho;obtain⟨⟨⟨h1,h2⟩,h3⟩,h4⟩:=h;have hd:o.dst=none:=by simpa using h1
  rcases h4 with h4|h4<;>exact Ey (A1p hd ho h2 h3 h4) (A3t hd ho h2 h3 h4)
 ·rename_i ho;exact A3f (Bf h.1) ho h.2
 ·rename_i ho;exact A1f (Bf h.1) ho h.2
 ·rename_i ho;exact Bbz (Bf h.1) ho h.2
 ·rename_i ho;exact A73 (Bf h.1) ho h.2
 ·rename_i ho;obtain⟨⟨⟨h1,h2⟩,rfl⟩,h3⟩:=h;have hd:=Bf h1;have k1:=A3k (P:=P) ho h2 h3;have k2:=A1j (P:=P) ho h2 h3;rw[hd]at k1 k2;exact Ey k2 k1
 ·rename_i ho;obtain⟨⟨⟨h1,h2⟩,h3⟩,h4⟩:=h;have hd:=Bf h1;have k1:=A3m (P:=P) ho h2 h3 h4;have k2:=A1m (P:=P) ho h2 h3 h4;have k3:=A1k (P:=P) ho h2 h3 h4;rw[hd]at k1 k2 k3;exact Ey k2 (Au6 k3 k1)
 ·rename_i ho;obtain⟨⟨⟨h1,h2⟩,h3⟩,h4⟩:=h;have hd:=Bf h1;have k1:=A3e (P:=P) ho h2 h3 h4;have k2:=A1e (P:=P) ho h2 h3 h4;rw[hd]at k1 k2;exact Ey k2 k1
 ·rename_i ho;obtain⟨⟨⟨⟨h1,h2⟩,h3⟩,h4⟩,h5⟩:=h;have hd:=Bf h1;have k1:=A3s (P:=P) ho h2 h3 h4 h5;have k2:=A8i (P:=P) ho h2 h3 h4 h5;rw[hd]at k1 k2;exact Ey k2 k1
 ·rename_i ho;obtain⟨⟨⟨h1,h2⟩,h3⟩,h4⟩:=h;have hd:=Bf h1;have:=Bca (P:=P) ho h2 h3 h4;rwa [hd]at this
 ·rename_i ho;obtain⟨⟨h1,h2⟩,h3⟩:=h;exact Bb9 (Bf h1) ho h2 h3
 ·rename_i ho;obtain⟨⟨h1,h2⟩,h3⟩:=h;exact Bbx (Bf h1) ho h2 h3
 ·rename_i ho;obtain⟨⟨⟨h1,rfl⟩,h2⟩,h3⟩:=h;have h2':=Array.isEmpty_iff.1 h2;subst h2';exact Bb5 (Bf h1) ho h3
 ·rename_i ho;obtain⟨⟨h1,h2⟩,h3⟩:=h;have hd:=Bf h1;have:=A3h (P:=P) ho h2 h3;rwa [hd]at this
 ·rename_i ho;obtain⟨⟨h1,h2⟩,h3⟩:=h;exact A1h (Bf h1) ho h2 h3
 ·rename_i ho;obtain⟨⟨⟨h1,rfl⟩,h3⟩,h4⟩:=h;exact Awe (Bf h1) ho h3 h4
 ·rename_i ho;obtain⟨⟨⟨h1,rfl⟩,h3⟩,h4⟩:=h;exact A1g (Bf h1) ho h3 h4
 ·rename_i ho;obtain⟨⟨⟨⟨h1,rfl⟩,h2⟩,h3⟩,h4⟩:=h;have h2':=Array.isEmpty_iff.1 h2;subst h2';refine A3j (Bf h1) ho ⟨?_,h4⟩;split at h3
  ·rename_i hu;rw[beq_iff_eq]at h3;rw[hu,h3]
  ·cases h3
 ·rename_i ho;obtain⟨⟨h1,h2⟩,rfl⟩:=h;exact A76 (Bf h1) ho h2
 ·rename_i ho;obtain⟨⟨⟨h1,h2⟩,rfl⟩,h3⟩:=h;have hd:=Bf h1;have k1:=Bb3 (P:=P) ho h2 h3;have k2:=A78 (P:=P) ho h2 h3;rw[hd]at k1 k2;exact Ey k2 k1
 ·rename_i ho;obtain⟨h1,h2⟩:=h;have hd:=Bf h1;have:=A8d (P:=P) ho h2;rwa [hd]at this
 ·rename_i ho;exact Aq5 (Bf h.1) (.inl ho) h.2
 ·rename_i ho;exact Aq5 (Bf h.1) (.inr ho) h.2
 ·rename_i ho;obtain⟨⟨h1,h2⟩,h3⟩:=h;split at h3
  ·rename_i hu;exact A8g (Bf h1) ho h2 hu
  ·cases h3
 ·rename_i ho;obtain⟨h1,h2⟩:=h;have hd:=Bf h1;have:=A3r (P:=P) ho h2;rwa [hd]at this
 ·rename_i ho;obtain⟨⟨⟨⟨h1,h2⟩,h3⟩,h4⟩,h5⟩:=h;have hd:=Bf h1;have:=A8k (P:=P) ho h2 h3 h4 h5;rwa [hd]at this
 ·rename_i ho;obtain⟨⟨⟨h1,h2⟩,h3⟩,h4⟩:=h;exact A8j (Bf h1) ho h2 h3 h4
 ·rename_i ho;obtain⟨⟨h1,h2⟩,h3⟩:=h;have hd:=Bf h1;have:=Aq7 (P:=P) (neg:=false) ho h2 h3;rwa [hd]at this
 ·rename_i ho;obtain⟨⟨h1,h2⟩,h3⟩:=h;have hd:=Bf h1;have:=Aq7 (P:=P) (neg:=true) ho h2 h3;rwa [hd]at this
 ·rename_i ho;obtain⟨⟨h1,h2⟩,h3⟩:=h;have hd:=Bf h1;have:=A72 (P:=P) ho h2 h3;rwa [hd]at this
 ·rename_i ho;obtain⟨⟨⟨h1,h2⟩,h3⟩,h4⟩:=h;have hd:=Bf h1;have:=A7y (P:=P) ho h2 h3 h4;rwa [hd]at this
 ·rename_i ho;split at h;all_goals try(simp only[Bool.and_eq_true,beq_iff_eq,decide_eq_true_eq,Bool.or_eq_true]at h)
  ·rename_i h1 h2;obtain⟨⟨h3,h4⟩,h5⟩:=h;rw[Amg h1,Amg h2]at ho;have hd:=Bf h3;have k1:=Bb4 (P:=P) ho h4 h5;have k2:=A8a (P:=P) ho h4 h5;rw[hd]at k1 k2;refine Ey k2 ?_;split
   ·exact k1
   ·have k3:=A79 (P:=P) ho h4 h5;rw[hd]at k3;exact Au6 k3 k1
  ·rename_i h1;obtain⟨⟨h3,h4⟩,h5⟩:=h;rw[Yc h1]at ho;have hd:=Bf h3;have:=A1n (P:=P) (max:=true) ho h4 h5;rwa [hd]at this
  ·rename_i h1;obtain⟨⟨h3,h4⟩,h5⟩:=h;rw[Yc h1]at ho;have hd:=Bf h3;have:=A1n (P:=P) (max:=false) ho h4 h5;rwa [hd]at this
  ·rename_i h1 h2;obtain⟨⟨⟨h3,h4⟩,h5⟩,h6⟩:=h;rw[Yc h1,Yc h2]at ho;exact Ey (A3g (Bf h3) ho h4 h5 h6) (A7z (Bf h3) ho h4 h5 h6)
  ·rename_i h1 h2;obtain⟨⟨⟨⟨h3,rfl⟩,h4⟩,h5⟩,h6⟩:=h;rw[Yc h1,Yc h2]at ho;have k1:=Bbw (P:=P) (Bf h3) ho h4 h5 h6;have k2:=A70 (P:=P) (Bf h3) ho h4 h5 h6;exact Ey k2 (Ey k2 k1)
  ·rename_i h1 h2;obtain⟨⟨h3,h4⟩,h5⟩:=h;rw[Amg h1,Amg h2]at ho;have:=Bb0 (P:=P) ho h4 h5;rwa [h3]at this
  ·intro G σ Fr w0 st a w Q next E hN hr hw hn Au;exact hw.elim
  ·cases h
 ·intro G σ Fr w0 st a w Q next E hN hr hw hn Au;exact hw.elim
 ·cases h

def Amf:List (Bool × Ar)→(List I→M)→M
 | [],k=>k []
 |(false,x)::az,k=>Kc x fun u=>Amf az fun us=>k (u::us)
 |(true,_)::az,k=>Amf az fun us=>k (.Nz::us)
def Aqi(x:Ar)(k:SV→Nat→M):M:=match x with
 | .t n=>.get n fun _ sv=>match sv with
   | .box t=>k (.box t) n
   | .vec e sz l=>k (.vec e sz l) n
   | .pt s kk ver off r=>.get s fun cur C9=>.Ba (kk=0∧off=0∧r=[]∧ver=cur) fun _=>match C9 with
     | .box t=>k (.box t) s
     |_=>.fail
   | .par h=>.get h fun _ C9=>match C9 with
     | .box t=>k (.box t) h
     | .vec e sz l=>k (.vec e sz l) h
     | .own _ t=>k (.own [] t) h
     |_=>.fail
   | .own _ t=>k (.own [] t) n
   | .pd s ver p=>.get s fun cur C9=>match p,C9 with
     | [0],.own inv (.ptr t)=>.Ba (alive ver inv 1=true) fun _=>k (.own [] (.ptr t)) s
     |_,_=>.fail
   |_=>.fail
 |_=>.fail
def Awy(x:Ar)(k:SV→Option Nat→M):M:=match x with
 | .t n=>.get n fun _ sv=>match sv with
   | .E0 s kk v=>.get s fun cur C9=>.Ba (v=cur) fun _=>match kk,C9 with
     |0,.vec e sz l=>match l with
      | []=>k (.v (.list [])) none
      |y::l'=>.Ba (sz≠0) fun _=>k (.vec e sz (y::l')) (some s)
     |_,_=>.fail
   |_=>Aqi x fun sv s=>k sv (some s)
 |_=>Aqi x fun sv s=>k sv (some s)
def Ya:List (Bool × Ar)→List I→(List SV→List (Option Nat)→M)→M
 | [],_,k=>k [] []
 |(false,_)::az,us,k=>Ya az us.tail fun Gy rs=>k (.v (us.headD .Nz)::Gy) (none::rs)
 |(true,.Cd e sz)::az,us,k=>Ya az us.tail fun Gy rs=>k (.vec e sz []::Gy) (none::rs)
 |(true,x)::az,us,k=>Awy x fun sv s=>Ya az us.tail fun Gy rs=>k (sv::Gy) (s::rs)
def Afp:List (Option Nat)→List SV→M→M
 |some s::rs,sv::outs,k=>.get s fun ver _=>.set s (ver+1) (sv.fresh (ver+1)) (Afp rs outs k)
 |none::rs,_::outs,k=>Afp rs outs k
 |_,_,k=>k
def E9(rs:List (Option Nat)):List Nat:=rs.filterMap id
def A7v(d:Option Nat)(r:SV):M:=match d with
 |some d=>C2 d r
 |none=>.done
def Ak7(d:Option Nat)(f:FuncId)(az:List (Bool × Ar)):M:=Amf az fun us=>Ya az us fun Gy rs=>.Ba ((E9 rs).Nodup∧∀d',d=some d'→d' ∉ E9 rs) fun _=>
 .call f Gy fun r outs=>.Ba (∀h,r≠ .par h) fun _=>.Ba (∀sv∈outs,∀h,sv≠ .par h) fun _=>Afp rs outs (A7v d r)
def E4(N:Nat):List Operand→List (Bool × Ar)→Bool
 | [],[]=>true
 |x::l,(_,y)::m=>Ax N x y&&E4 N l m
 |_,_=>false
section
variable{P:Program}{N:Nat}{G:Mem}{σ:Lab}{Fr:Mem}{w0:Base}{w:World}{st:St}{a:Act}
theorem Ad1{Q:St→Prop}:∀{xs:List Operand} {az:List (Bool × Ar)} {k:List I→M} {G:Mem} {σ:Lab} {st:St},Rel G σ Fr w0 st a w→E4 w0.n xs az=true→(Amf az k).wp P Q st→
 ∃us G' σ' Af,G.le G'∧Rel G' σ' Fr w0 Af a w∧(k us).wp P Q Af∧us.length=az.length∧∀(i:Nat) (y:Ar) (x:Operand) (u:I),az[i]?=some (false,y)→xs[i]?=some x→us[i]?=some u→Aq G' u (a.eval x)
 | [],[],k,G,σ,st,hr,_,hq=>⟨[],G,σ,st,Mem.le.refl G,hr,hq,rfl,by simp⟩
 |x::xs,(false,y)::az,k,G,σ,st,hr,ho,hq=>by
  simp only[E4,Bool.and_eq_true]at ho;obtain⟨u,G1,σ1,st1,hG,E2,h1,hv⟩:=Km hr ho.1 hq;obtain⟨us,G2,σ2,st2,Td,F2,h2,hl,hu⟩:=Ad1 E2 ho.2 h1;refine⟨u::us,G2,σ2,st2,hG.trans Td,F2,h2,by simp[hl],?_⟩
  intro i y' x' u' h3 h4 h5;cases i with
  |zero=>
   simp only[List.getElem?_cons_zero,Option.some.injEq]at h4 h5;subst h4;subst h5;exact hv.mono Td
  |succ i=>exact hu i y' x' u' (by simpa using h3) (by simpa using h4) (by simpa using h5)
 |x::xs,(true,y)::az,k,G,σ,st,hr,ho,hq=>by
  simp only[E4,Bool.and_eq_true]at ho;obtain⟨us,G2,σ2,st2,Td,F2,h2,hl,hu⟩:=Ad1 hr ho.2 hq;refine⟨.Nz::us,G2,σ2,st2,Td,F2,h2,by simp[hl],?_⟩
  intro i y' x' u' h3 h4 h5;cases i with
  |zero=>simp at h3
  |succ i=>exact hu i y' x' u' (by simpa using h3) (by simpa using h4) (by simpa using h5)
 | [],_::_,_,_,_,_,_,ho,_=>by cases ho
 |_::_,[],_,_,_,_,_,ho,_=>by simp[E4]at ho
def SV.Xn:SV→Bool
 | .box _| .vec _ _ _| .own _ _=>true
 |_=>false
theorem SV.A7a{sv:SV}(h:sv.Xn=true):sv.root=none:=by cases sv<;>first|rfl|cases h
theorem Ba0{x:Operand}{y:Ar}{k:SV→Nat→M}{Q:St→Prop}(h:Rel G σ Fr w0 st a w)(ho:Ax w0.n x y=true)(hq:(Aqi y k).wp P Q st):
 ∃sv s ver,(k sv s).wp P Q st∧st[s]?=some ver∧sv.Xn=true∧B4 G σ w s sv (a.eval x)∧a.eval x=val a w0 s:=by
 cases y with
 |c _=>exact hq.elim
 |Cd _ _=>exact hq.elim
 |t n=>
  obtain⟨rfl,Cm⟩:=Dm ho;simp only[Aqi,M.wp]at hq;cases hs:st[n]? with
  |none=>simp[hs]at hq
  |some cur=>
   obtain⟨ver,sv⟩:=cur;simp only[hs]at hq;have Ay:=h.slot Cm hs;cases sv with
   |box t=>exact⟨_,n,_,hq,hs,rfl,Ay,(Ez (by rw[h.n];exact Cm)).symm⟩
   |vec e sz l=>exact⟨_,n,_,hq,hs,rfl,Ay,(Ez (by rw[h.n];exact Cm)).symm⟩
   |pt s kk Bo off r=>
    obtain⟨cur,h1,h2,h3⟩:=Ay;simp only[M.wp,h1]at hq;obtain⟨⟨rfl,rfl,rfl,hv⟩,hq⟩:=hq;obtain⟨b,h4,h5⟩:=h3 hv;obtain⟨cv,Eh⟩:=cur;cases Eh with
    |box t=>
     refine⟨_,s,_,hq,h1,rfl,?_⟩;obtain⟨b',cells,ty,k1,k2,k3,k4⟩:=h.Bj s cv _ h1;obtain rfl:=h.Bm.inj b b' _ h4 k2;exact⟨⟨b,cells,ty,h5,k2,k3,k4⟩,by rw[h5,k1]⟩
    |_=>exact hq.elim
   |own inv t=>exact⟨_,n,_,hq,hs,rfl,Ay,(Ez (by rw[h.n];exact Cm)).symm⟩
   |pd s Bo p=>
    obtain⟨cur,h1,h2,h3⟩:=Ay;simp only[M.wp,h1]at hq;obtain⟨cv,Eh⟩:=cur;simp only at hq;split at hq
    ·rename_i inv t;obtain⟨ha,hq⟩:=hq;have Cy:Dd G σ w s (.ptr t) (val a w0 s):=h.Bj s cv _ h1;have e:=Cy.Bma (h3 inv _ rfl (by simp) ha)
     exact⟨_,s,_,hq,h1,rfl,by rw[e];exact Cy,e⟩
    ·exact hq.elim
   |par hh=>
    obtain⟨hv,hle⟩:=h.L7 n ver hh hs;rw[Ez (by rw[h.n];exact Cm)]at hv
    simp only[M.wp]at hq;cases h1:st[hh]? with
    |none=>simp[h1]at hq
    |some cur=>
     obtain⟨cv,Eh⟩:=cur;simp only[h1]at hq;have Dn:=h.Bj hh cv Eh h1;rw[←hv]at Dn;cases Eh with
     |box t=>exact⟨_,hh,_,hq,h1,rfl,Dn,hv⟩
     |vec e sz l=>exact⟨_,hh,_,hq,h1,rfl,Dn,hv⟩
     |own inv t=>exact⟨_,hh,_,hq,h1,rfl,Dn,hv⟩
     |_=>exact hq.elim
   |_=>exact hq.elim
theorem Ba1{x:Operand}{y:Ar}{k:SV→Option Nat→M}{Q:St→Prop}(h:Rel G σ Fr w0 st a w)(ho:Ax w0.n x y=true)(hq:(Awy y k).wp P Q st):
 ∃sv r,(k sv r).wp P Q st∧((r=none∧∃u,sv= .v u∧Aq G u (a.eval x))∨∃s ver,r=some s∧st[s]?=some ver∧sv.Xn=true∧B4 G σ w s sv (a.eval x)∧a.eval x=val a w0 s):=by
 have old:(Aqi y fun sv s=>k sv (some s)).wp P Q st→∃sv r,(k sv r).wp P Q st∧((r=none∧∃u,sv= .v u∧Aq G u (a.eval x))∨∃s ver,r=some s∧st[s]?=some ver∧sv.Xn=true∧B4 G σ w s sv (a.eval x)∧a.eval x=val a w0 s):=by
  intro hq;obtain⟨sv,s,ver,h1,h2⟩:=Ba0 h ho hq;exact⟨sv,some s,h1,.inr ⟨s,ver,rfl,h2⟩⟩
 cases y with
 |c _=>exact old hq
 |Cd _ _=>exact old hq
 |t n=>
  obtain⟨rfl,Cm⟩:=Dm ho;simp only[Awy,M.wp]at hq;cases hs:st[n]? with
  |none=>simp[hs]at hq
  |some cur=>
   obtain⟨ver,sv⟩:=cur;simp only[hs]at hq;have Ay:=h.slot Cm hs;cases sv with
   |E0 s kk v=>
    obtain⟨cur,g1,g2,g3⟩:=Ay;simp only[M.wp,g1]at hq;obtain⟨hv,hq⟩:=hq;obtain⟨e,sz,l,g4,g5⟩:=g3 hv;obtain⟨cv,Eh⟩:=cur;cases kk with
    |succ _=>exact hq.elim
    |zero=>
     cases Eh with
     |vec e' Bs l'=>
      cases g4;have Cy:Cw G σ w (s,0) e sz l (val a w0 s):=h.Bj s cv _ g1;cases l with
      |nil=>
       obtain⟨ad,cap,hc,hm⟩:=g5.len;refine⟨_,none,hq,.inl ⟨rfl,_,rfl,?_⟩⟩;obtain⟨xs,k1,_⟩:=g5;rcases k1.2 with⟨hc',_⟩|⟨g,Ta,cur,hc',_,_,hn,Np,_⟩
       ·exact Aq.list.2 ⟨none,0,hc',Nat.le_refl _,Nat.zero_le _,.inl rfl⟩
       ·exact Aq.list.2 ⟨_,Ta,hc',hn,Np,.inl rfl⟩
      |cons y l'=>
       obtain⟨hz,hq⟩:=hq;refine⟨_,some s,hq,.inr ⟨s,_,rfl,g1,rfl,g5,?_⟩⟩;obtain⟨b,hb⟩:∃b,σ b=some (s,0):=by
        obtain⟨xs,k1,k2,k3,k4⟩:=g5;rcases k1.2 with⟨_,h0⟩|⟨g,Ta,cur,hc',_⟩
        ·simp at h0
        ·exact⟨g,k4 g (by rw[hc'];rfl)⟩
       obtain⟨bl,xs,post,cap,p1,_,_,p2,⟨ty,fz,p3,_⟩,_⟩:=g5.row h.Bm hb (by simp)
       obtain⟨bl',xs',Abx,Ta,q1,_,_,q2,⟨Ny,fz',q3,_⟩,_⟩:=Cy.row h.Bm hb (by simp)
       rw[p3]at q3;cases q3;have:cap=Ta:=Nat.eq_of_mul_eq_mul_right (Nat.pos_of_ne_zero hz) (p2.symm.trans q2);rw[p1,q1,this]
     |_=>exact hq.elim
   |_=>exact old hq
theorem Vm{Q:St→Prop}(h:Rel G σ Fr w0 st a w):∀{xs:List Operand} {az:List (Bool × Ar)} {us:List I} {k:List SV→List (Option Nat)→M},E4 w0.n xs az=true→us.length=az.length→
 (∀(i:Nat) (y:Ar) (x:Operand) (u:I),az[i]?=some (false,y)→xs[i]?=some x→us[i]?=some u→Aq G u (a.eval x))→(Ya az us k).wp P Q st→
 ∃Gy rs,(k Gy rs).wp P Q st∧Gy.length=xs.length∧rs.length=xs.length∧∀(i:Nat) (sv:SV) (x:Operand),Gy[i]?=some sv→xs[i]?=some x→
  (rs[i]?=some none∧((∃u,sv= .v u∧Aq G u (a.eval x))∨∃e sz,sv= .vec e sz []∧a.eval x= .slice none 0 0))∨(∃s ver,rs[i]?=some (some s)∧st[s]?=some ver∧sv.Xn=true∧B4 G σ w s sv (a.eval x)∧a.eval x=val a w0 s)
 | [],[],us,k,_,_,_,hq=>⟨[],[],hq,rfl,rfl,by simp⟩
 |x::xs,(false,y)::az,us,k,ho,hl,hu,hq=>by
  simp only[E4,Bool.and_eq_true]at ho;cases us with
  |nil=>simp at hl
  |cons u us=>
   obtain⟨Gy,rs,h1,h2,h3,h4⟩:=Vm h ho.2 (by simpa using hl) (fun i y' x' u' a1 a2 a3=>hu (i+1) y' x' u' (by simpa using a1) (by simpa using a2) (by simpa using a3)) hq
   refine⟨.v u::Gy,none::rs,h1,by simp[h2],by simp[h3],?_⟩
   intro i sv x' a1 a2;cases i with
   |zero=>
    simp only[List.getElem?_cons_zero,Option.some.injEq]at a1 a2;subst a1;subst a2;exact .inl ⟨rfl,.inl ⟨u,rfl,hu 0 y _ u rfl rfl rfl⟩⟩
   |succ i=>exact h4 i sv x' (by simpa using a1) (by simpa using a2)
 |x::xs,(true,y)::az,us,k,ho,hl,hu,hq=>by
  simp only[E4,Bool.and_eq_true]at ho;cases us with
  |nil=>simp at hl
  |cons u us=>
   have gen:(Awy y fun sv s=>Ya az us fun Gy rs=>k (sv::Gy) (s::rs)).wp P Q st→∃Gy rs,(k Gy rs).wp P Q st∧Gy.length=(x::xs).length∧rs.length=(x::xs).length∧∀(i:Nat) (sv:SV) (x':Operand),Gy[i]?=some sv→(x::xs)[i]?=some x'→
    (rs[i]?=some none∧((∃u,sv= .v u∧Aq G u (a.eval x'))∨∃e sz,sv= .vec e sz []∧a.eval x'= .slice none 0 0))∨(∃s ver,rs[i]?=some (some s)∧st[s]?=some ver∧sv.Xn=true∧B4 G σ w s sv (a.eval x')∧a.eval x'=val a w0 s):=by
    intro hq;obtain⟨R0,r0,g1,g2⟩:=Ba1 h ho.1 hq;obtain⟨Gy,rs,h1,h2,h3,h4⟩:=Vm h ho.2 (by simpa using hl) (fun i y' x' u' a1 a2 a3=>hu (i+1) y' x' u' (by simpa using a1) (by simpa using a2) (by simpa using a3)) g1
    refine⟨R0::Gy,r0::rs,h1,by simp[h2],by simp[h3],?_⟩
    intro i sv x' a1 a2;cases i with
    |zero=>
     simp only[List.getElem?_cons_zero,Option.some.injEq]at a1 a2;subst a1;subst a2;rcases g2 with⟨rfl,u,rfl,g3⟩|⟨s,ver,rfl,g3⟩
     ·exact .inl ⟨rfl,.inl ⟨u,rfl,g3⟩⟩
     ·exact .inr ⟨s,ver,rfl,g3⟩
    |succ i=>exact h4 i sv x' (by simpa using a1) (by simpa using a2)
   cases y with
   |t n=>exact gen hq
   |c z=>exact gen hq
   |Cd e sz=>
    obtain⟨Gy,rs,h1,h2,h3,h4⟩:=Vm h ho.2 (by simpa using hl) (fun i y' x' u' a1 a2 a3=>hu (i+1) y' x' u' (by simpa using a1) (by simpa using a2) (by simpa using a3)) hq
    refine⟨.vec e sz []::Gy,none::rs,h1,by simp[h2],by simp[h3],?_⟩
    intro i sv x' a1 a2;cases i with
    |zero=>
     simp only[List.getElem?_cons_zero,Option.some.injEq]at a1 a2;subst a1;subst a2;exact .inl ⟨rfl,.inr ⟨e,sz,rfl,H9 ho.1⟩⟩
    |succ i=>exact h4 i sv x' (by simpa using a1) (by simpa using a2)
 | [],_::_,_,_,ho,_,_,_=>by cases ho
 |_::_,[],_,_,ho,_,_,_=>by simp[E4]at ho
theorem Rel.many{G':Mem}{σ':Lab}{w':World}{Af:St}(h:Rel G σ Fr w0 st a w)(Bu:Dt G' σ' Fr w0 w')(hG:G.le G')(hlen:Af.length=st.length)
 (hs:∀s,(Af[s]?=st[s]?∧Kept σ σ' w w' s)∨∃ver old Bo new,st[s]?=some (ver,old)∧Af[s]?=some (Bo,new)∧ver<Bo∧new.root=none∧(∀h,new≠ .par h)∧B4 G' σ' w' s new (val a w0 s)∧∀inv t,new= .own inv t→∃r,inv=Bo::r):
 Rel G' σ' Fr w0 Af a w':=by
 have kept:∀s' cur ver,st[s']?=some cur→ver≤cur.1→∃Ed,Af[s']?=some Ed∧ver≤Ed.1∧(ver=Ed.1→Ed=cur∧ver=cur.1∧Kept σ σ' w w' s'):=by
  intro s' cur ver hc hv;rcases hs s' with⟨h1,h2⟩|⟨v,old,v',new,h1,h2,h3,_⟩
  ·exact⟨cur,by rw[h1];exact hc,hv,fun e=>⟨rfl,e,h2⟩⟩
  ·rw[hc]at h1;cases h1;exact⟨_,h2,by show ver≤v';simp only at hv;omega,fun e=>by exfalso;simp only at hv;have:ver=v':=e;omega⟩
 refine⟨Bu,h.defers,h.n,by rw[hlen];exact h.len,?_,?_⟩
 ·intro s ver sv Ns;rcases hs s with⟨h1,h2⟩|⟨v,old,v',new,h1,h2,h3,h4,_,h5,_⟩
  ·rw[h1]at Ns;have h0:=h.Bj s ver sv Ns;generalize val a w0 s=c at h0;cases sv with
   |E0 s' k Bo=>
    obtain⟨cur,g1,g2,g3⟩:=h0;obtain⟨Ed,k1,k2,k3⟩:=kept s' cur Bo g1 g2;refine⟨Ed,k1,k2,fun e=>?_⟩
    obtain⟨rfl,e',hk⟩:=k3 e;obtain⟨e,sz,l,g4,g5⟩:=g3 e';exact⟨e,sz,l,g4,g5.tr hG fun b hb=>hk b k hb⟩
   |sub s' k Bo n=>
    obtain⟨cur,g1,g2,g3⟩:=h0;obtain⟨Ed,k1,k2,k3⟩:=kept s' cur Bo g1 g2;refine⟨Ed,k1,k2,fun e=>?_⟩
    obtain⟨rfl,e',hk⟩:=k3 e;obtain⟨e,sz,l,g4,g5⟩:=g3 e';exact⟨e,sz,l,g4,g5.tr hG fun b hb=>hk b k hb⟩
   |Kk s' k Bo n=>
    obtain⟨cur,g1,g2,g3⟩:=h0;obtain⟨Ed,k1,k2,k3⟩:=kept s' cur Bo g1 g2;refine⟨Ed,k1,k2,fun e=>?_⟩
    obtain⟨rfl,e',hk⟩:=k3 e;obtain⟨e,sz,l,c0,g4,g5,g6⟩:=g3 e';exact⟨e,sz,l,c0,g4,g5.tr hG fun b hb=>hk b k hb,g6⟩
   |pt s' k Bo off r=>
    obtain⟨cur,g1,g2,g3⟩:=h0;obtain⟨Ed,k1,k2,k3⟩:=kept s' cur Bo g1 g2;refine⟨Ed,k1,k2,fun e=>?_⟩
    obtain⟨rfl,e',hk⟩:=k3 e;obtain⟨b,g4,g5⟩:=g3 e';exact⟨b,(hk b k g4).1,g5⟩
   |pd s' Bo p=>
    obtain⟨cur,g1,g2,g3⟩:=h0;rcases hs s' with⟨k1,k2⟩|⟨v,old,v',new,k1,k2,k3,_,_,_,k6⟩
    ·refine⟨cur,by rw[k1];exact g1,g2,fun inv t e hp ha=>?_⟩
     obtain⟨cv,Eh⟩:=cur;simp only at e;subst e;exact(g3 inv t rfl hp ha).tr (show Dd G σ w s' t (val a w0 s')from h.Bj s' cv _ g1) k2
    ·rw[k1]at g1;cases g1;refine⟨_,k2,by simp only at g2 ⊢;omega,fun inv t e hp ha=>?_⟩
     obtain⟨r,rfl⟩:=k6 inv t e;cases p with
     |nil=>exact absurd rfl hp
     |cons i p=>rw[Xa (by simp only at g2;omega) (by simp)]at ha;cases ha
   |bs s' Bo p lo n=>
    obtain⟨cur,g1,g2,g3⟩:=h0;rcases hs s' with⟨k1,k2⟩|⟨v,old,v',new,k1,k2,k3,_,_,_,k6⟩
    ·refine⟨cur,by rw[k1];exact g1,g2,fun e0 inv t e=>?_⟩
     obtain⟨cv,Eh⟩:=cur;simp only at e;subst e;exact⟨(g3 e0 inv t rfl).1,(g3 e0 inv t rfl).2.tr (show Dd G σ w s' t (val a w0 s')from h.Bj s' cv _ g1) k2⟩
    ·rw[k1]at g1;cases g1;exact⟨_,k2,by simp only at g2 ⊢;omega,fun e0=>by exfalso;simp only at g2 e0;omega⟩
   |bd s' Bo p=>
    obtain⟨cur,g1,g2,g3⟩:=h0;rcases hs s' with⟨k1,k2⟩|⟨v,old,v',new,k1,k2,k3,_,_,_,k6⟩
    ·refine⟨cur,by rw[k1];exact g1,g2,fun inv t e ha=>?_⟩
     obtain⟨cv,Eh⟩:=cur;simp only at e;subst e;exact(g3 inv t rfl ha).tr (show Dd G σ w s' t (val a w0 s')from h.Bj s' cv _ g1) k2
    ·rw[k1]at g1;cases g1;refine⟨_,k2,by simp only at g2 ⊢;omega,fun inv t e ha=>?_⟩
     obtain⟨r,rfl⟩:=k6 inv t e;rw[Xa (by simp only at g2;omega) (by simp)]at ha
     cases ha
   |_=>
    rw[Df.own rfl]at h0 ⊢;exact B4.tr h0 hG fun b k hb=>h2 b k hb
  ·rw[h2]at Ns;cases Ns;rw[Df.own h4];exact h5
 ·intro s ver hh Ns;rcases hs s with⟨h1,h2⟩|⟨v,old,v',new,h1,h2,h3,h4,h5,_⟩
  ·rw[h1]at Ns;exact h.L7 s ver hh Ns
  ·rw[h2]at Ns;cases Ns;exact absurd rfl (h5 hh)
theorem Zt{Q:St→Prop}{k:M}:∀{rs:List (Option Nat)} {outs:List SV} {st:St},rs.length=outs.length→(E9 rs).Nodup→(Afp rs outs k).wp P Q st→
 ∃Af,k.wp P Q Af∧Af.length=st.length∧(∀s,s ∉ E9 rs→Af[s]?=st[s]?)∧(∀(i:Nat) s sv,rs[i]?=some (some s)→outs[i]?=some sv→∃ver old,st[s]?=some (ver,old)∧Af[s]?=some (ver+1,sv.fresh (ver+1)))
 | [],[],st,_,_,h=>⟨st,h,rfl,fun _ _=>rfl,by simp⟩
 |none::rs,sv::outs,st,hl,hn,h=>by
  obtain⟨Af,h1,h2,h3,h4⟩:=Zt (rs:=rs) (outs:=outs) (by simpa using hl) (by simpa[E9]using hn) h
  refine⟨Af,h1,h2,fun s hs=>h3 s (by simpa[E9]using hs),?_⟩
  intro i s C9 a1 a2;cases i with
  |zero=>simp at a1
  |succ i=>exact h4 i s C9 (by simpa using a1) (by simpa using a2)
 |some s0::rs,sv::outs,st,hl,hn,h=>by
  simp only[Afp,M.wp]at h;have F1:s0 ∉ E9 rs∧(E9 rs).Nodup:=by simpa[E9]using hn
  cases hs:st[s0]? with
  |none=>simp[hs]at h
  |some cur=>
   simp only[hs]at h;obtain⟨Af,h1,h2,h3,h4⟩:=Zt (rs:=rs) (outs:=outs) (by simpa using hl) F1.2 h
   have Bb:s0<st.length:=(List.getElem?_eq_some_iff.1 hs).1;refine⟨Af,h1,by simpa using h2,?_,?_⟩
   ·intro s D0;have:s≠s0∧s ∉ E9 rs:=by simpa[E9]using D0
    rw[h3 s this.2,List.getElem?_set_ne (Ne.symm this.1)]
   ·intro i s C9 a1 a2;cases i with
    |zero=>
     simp only[List.getElem?_cons_zero,Option.some.injEq]at a1 a2;subst a1;subst a2;exact⟨cur.1,cur.2,hs,by rw[h3 s0 F1.1];simp[Bb]⟩
    |succ i=>
     obtain⟨ver,old,k1,k2⟩:=h4 i s C9 (by simpa using a1) (by simpa using a2)
     have Aw:s≠s0:=by
      rintro rfl;exact F1.1 (List.mem_filterMap.2 ⟨some s,List.mem_of_getElem? (by simpa using a1),rfl⟩)
     rw[List.getElem?_set_ne (Ne.symm Aw)]at k1;exact⟨ver,old,k1,k2⟩
 | [],_::_,_,hl,_,_=>by simp at hl
 |_::_,[],_,hl,_,_=>by simp at hl
def Lab.inner(σ:Lab)(rs:List (Option Nat)):Lab:=fun b=>match σ b with
 |some (s,k)=>match rs.idxOf? (some s)with
  |some i=>some (i,k)
  |none=>none
 |none=>none
def Mem.inner(Fr:Mem)(σ:Lab)(w:World)(rs:List (Option Nat)):Mem:=fun b=>match σ b with
 |some (s,_)=>if some s∈rs then none else w.heap[b]?
 |none=>Fr b
def Lab.outer(σ σ':Lab)(rs:List (Option Nat)):Lab:=fun b=>match σ b with
 |some (s,k)=>if some s∈rs then(match σ' b with
  |some (i,k)=>match rs[i]? with
   |some (some s)=>some (s,k)
   |_=>none
  |none=>none)else some (s,k)
 |none=>match σ' b with
  |some (i,k)=>match rs[i]? with
   |some (some s)=>some (s,k)
   |_=>none
  |none=>none
theorem Agp{rs:List (Option Nat)}{s i:Nat}(hn:(E9 rs).Nodup)(h:rs[i]?=some (some s)):rs.idxOf? (some s)=some i:=by
 induction rs generalizing i with
 |nil=>simp at h
 |cons r rs ih=>
  cases i with
  |zero=>
   simp only[List.getElem?_cons_zero,Option.some.injEq]at h;subst h;simp[List.idxOf?_cons]
  |succ i=>
   have h':rs[i]?=some (some s):=by simpa using h
   have Sb:s∈E9 rs:=List.mem_filterMap.2 ⟨some s,List.mem_of_getElem? h',rfl⟩;have Aw:r≠some s:=by
    rintro rfl;have:s ∉ E9 rs∧(E9 rs).Nodup:=by simpa[E9]using hn
    exact this.1 Sb
   have F1:(E9 rs).Nodup:=by
    cases r with
    |none=>simpa[E9]using hn
    |some r=>have:r ∉ E9 rs∧(E9 rs).Nodup:=by simpa[E9]using hn
             exact this.2
   rw[List.idxOf?_cons,if_neg (by simpa using Aw),ih F1 h']
   rfl
theorem Bau{rs:List (Option Nat)}{s i:Nat}(h:rs.idxOf? (some s)=some i):rs[i]?=some (some s):=by
 induction rs generalizing i with
 |nil=>simp at h
 |cons r rs ih=>
  rw[List.idxOf?_cons]at h;split at h
  ·rename_i hr;simp only[Option.some.injEq]at h;subst h;simpa using hr
  ·cases hi:rs.idxOf? (some s)with
   |none=>simp[hi]at h
   |some j=>
    simp only[hi,Option.map_some,Option.some.injEq]at h;subst h;simpa using ih hi
theorem Lk{rs:List (Option Nat)}{s:Nat}:some s∈rs↔s∈E9 rs:=by simp[E9]
end
end Go.Ab
