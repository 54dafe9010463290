/- Lemmas -/
import Derived.Test.YtkpojedpcabojaaGreatDoorAb27
import Derived.Maps.RangeRun
import Derived.Deep.LoopGhost
set_option linter.unusedVariables false
set_option linter.unusedSimpArgs false
namespace Go.Ab
section
variable{P:Program}{N:Nat}{G:Mem}{σ:Lab}{Fr:Mem}{w0:Base}{w:World}{st:St}{a:Act}
theorem Bb.ifc{t:TypeId}{u:I}{c:Value}:Bb G (.ifc t u) c↔∃v,c= .iface t v∧Bb G u v:=by
 unfold Bb;rw[if_neg (by simp[I.isAgg])]
 simp only[Bi,Em,and_true]
theorem Bb.Afo{c:Value}:Bb G .Afo c↔c= .nilIface:=by
 unfold Bb;rw[if_neg (by simp[I.isAgg])]
 simp only[Bi,Em,and_true]
def A8h(d:Nat)(x:Bh):M:=Aje x Ba4 fun s v p _=>.Co (d≠s) fun _=>Eo d (.bp s v p)
def A0b(_:Nat)(sv:SV):Nat × SV:=match sv with
 | .own _ t=>(match t with
   | .ptr _=>(0,.pd 0 0 [])
   |_=>(0,.no))
 | .pd _ _ _=>(0,.bd 0 0 [])
 | .bp _ _ _=>(0,.bp 0 0 [])
 | .par h=>(0,.par h)
 |_=>(0,.no)
def Bap(x:Bh)(yes no:M):M:=match x with
 | .t n=>.Pd n A0b fun _ sv=>match sv with
   | .bd _ _ _=>yes
   | .par h=>.Pd h A0b fun _ Ek=>match Ek with
     | .pd _ _ _=>yes
     |_=>no
   |_=>no
 |_=>no
def Bao(x:Bh)(yes no:M):M:=match x with
 | .t n=>.Pd n A0b fun _ sv=>match sv with
   | .bp _ _ _=>yes
   | .par h=>.Pd h A0b fun _ Ek=>match Ek with
     | .bp _ _ _=>yes
     |_=>no
   |_=>no
 |_=>no
def An7(d:Option Nat)(x:Bh):M:=match x with
 | .t n=>.get n fun _ sv=>match sv with
   | .bp s v p=>.Co (d≠some s) fun _=>Ci d (.pd s v p) .done
   | .par h=>.get h fun _ Ek=>match Ek with
     | .bp s v p=>.Co (d≠some s) fun _=>Ci d (.pd s v p) .done
     |_=>.fail
   |_=>.fail
 |_=>.fail
theorem Bg0{o:Oper}{x:Bh}{m1 m2:M}(h1:Sound P N o m1)(h2:Sound P N o m2):Sound P N o (Bap x m1 m2):=by
 intro G σ Fr w0 st a w Q next E hN hr hw hn A9
 cases x with
 |c _=>exact h2 G σ Fr w0 st a w Q next E hN hr hw hn A9
 |Fo _ _=>exact h2 G σ Fr w0 st a w Q next E hN hr hw hn A9
 |t n=>
  simp only[Bap,M.wp]at hw;cases hs:st[n]? with
  |none=>rw[hs]at hw;exact hw.elim
  |some cur=>
   rw[hs]at hw;dsimp only at hw;split at hw
   ·exact h1 G σ Fr w0 st a w Q next E hN hr hw hn A9
   ·rename_i h _;simp only[M.wp]at hw;cases Zv:st[h]? with
    |none=>rw[Zv]at hw;exact hw.elim
    |some Amj=>
     rw[Zv]at hw;dsimp only at hw;split at hw
     ·exact h1 G σ Fr w0 st a w Q next E hN hr hw hn A9
     ·exact h2 G σ Fr w0 st a w Q next E hN hr hw hn A9
   ·exact h2 G σ Fr w0 st a w Q next E hN hr hw hn A9
theorem Bgt{o:Oper}{x:Bh}{m1 m2:M}(h1:Sound P N o m1)(h2:Sound P N o m2):Sound P N o (Bao x m1 m2):=by
 intro G σ Fr w0 st a w Q next E hN hr hw hn A9
 cases x with
 |c _=>exact h2 G σ Fr w0 st a w Q next E hN hr hw hn A9
 |Fo _ _=>exact h2 G σ Fr w0 st a w Q next E hN hr hw hn A9
 |t n=>
  simp only[Bao,M.wp]at hw;cases hs:st[n]? with
  |none=>rw[hs]at hw;exact hw.elim
  |some cur=>
   rw[hs]at hw;dsimp only at hw;split at hw
   ·exact h1 G σ Fr w0 st a w Q next E hN hr hw hn A9
   ·rename_i h _;simp only[M.wp]at hw;cases Zv:st[h]? with
    |none=>rw[Zv]at hw;exact hw.elim
    |some Amj=>
     rw[Zv]at hw;dsimp only at hw;split at hw
     ·exact h1 G σ Fr w0 st a w Q next E hN hr hw hn A9
     ·exact h2 G σ Fr w0 st a w Q next E hN hr hw hn A9
   ·exact h2 G σ Fr w0 st a w Q next E hN hr hw hn A9
theorem Bbw{o:Oper}{e:TypeId}{d:Nat}{x:Operand}{x':Bh}(hd:o.dst=some d)(ho:o.op= .box e x)(hx:Bu N x x'=true):Sound P N o (A8h d x'):=by
 intro G σ Fr w0 st a w Q next E hN hr hw hn A9
 subst hN;obtain⟨s,cur,inv,tr,p,u,r,v,h1,hs,hp0,Pj,Dd,hf,hle⟩:=V1 hr hx hw;obtain⟨A2,hq⟩:=h1;have Up:=A9 d hd;have A97:Gc G σ Fr w0 (w.alloc (.cells (a.eval x).cells e)):=hr.Bz.grow rfl rfl rfl (by simp) fun b hb=>M3 w _ b hb
 simp only[Eo,M.wp]at hq;cases hds:st[d]? with
 |none=>simp[hds]at hq
 |some old=>
  simp only[hds]at hq;obtain⟨f1,f2,f3⟩:=hr.Bz.fresh (Ay w.heap.size);have Dj:Gc G ((σ.drop d).new w.heap.size (d,0)) Fr w0 (w.alloc (.cells (a.eval x).cells e)):=
   (A97.drop d).new f1 f2 (by simp) fun b' Dc=>(Lab.D1.1 Dc).1 rfl
  have Bxf:=Pj;obtain⟨v0,b,off,cs,g1,g2,g3⟩:=Pj;have Acf:(a.eval x).cells= #[a.eval x]:=by rw[g3];rfl
  have Fm:=show Dr G σ w s tr (val a w0 s)from hr.Bj s cur _ hs;refine Df (v:=.pointer (some ⟨w.heap.size,0,none⟩)) (w':=w.alloc (.cells (a.eval x).cells e)) ?_ (by
   rw[hd];refine hn G _ _ _ _ (Mem.le.refl G) (hr.put (c:=.pointer (some ⟨w.heap.size,0,none⟩)) Up Dj (Mem.le.refl G) hds (Bk _) ?_ ?_ (fun h e=>by cases e) (by intro _ _ e;cases e)) hq
   ·intro s' Hf b k hb;have Di:=(hr.Bz.own b _ hb).2.2;exact⟨Lab.Ao8 (by omega) (Lab.D1.2 ⟨Hf,hb⟩),M3 w _ b Di⟩
   ·refine⟨w.heap.size,a.eval x,e,0,rfl,Lab.Arr,?_,_,by rw[Az A2];exact hs,hle,fun Kj t' e' _ _=>?_⟩
    ·rw[heap_alloc_new,Acf]
    ·cases e';rw[Db (Ne.symm A2)];exact Bxf.tr Fm fun b' k hb=>⟨hb,M3 w _ b' (hr.Bz.own b' _ hb).2.2⟩)
  simp[execOp,ho,Instr.box,newVar,newRow]
theorem A37{t:TypeId}{sz:Nat}{g:Nat}{c0:Value}{ty:TypeId}{w:World}(ht:Mq P t false sz=true)(h1:sz=1)(hg:w.heap[g]?=some (.cells #[c0] ty (0,0))):(Instr.loadAt t (.pointer (some ⟨g,0,none⟩))).run P w= .ok c0 w:=by
 subst h1;have h:=(Ka (P:=P) (cs:=[c0]) (pre:=[]) (post:=[]) ht hg (by simp) rfl).2 c0 rfl rfl
 simp only[Fb]at h;simp[Instr.loadAt,Instr.sureAddr,asAddr,Sem.run_bind,h,Result.andThen]
theorem A40{o:Oper}{t:TypeId}{x:Operand}{x':Bh}{sz:Nat}(ho:o.op= .load t x)(hx:Bu N x x'=true)(ht:Mq P t false sz=true)(h1:sz=1):Sound P N o (An7 o.dst x'):=by
 intro G σ Fr w0 st a w Q next E hN hr hw hn A9
 subst hN;have fin:∀{n:Nat} {s v:Nat} {p:List Nat},Fa G σ w st (val a w0) n (.bp s v p) (a.eval x)→o.dst≠some s→(Ci o.dst (.pd s v p) .done).wp P Q st→o.wp P a w next E:=by
  rintro n s v p ⟨g,c0,ty,k,hc,Le,Kh,cur,g1,g2,g3⟩ A2 hq;obtain⟨σ',st',r1,r2⟩:=hr.Ci A9 (sv:=.pd s v p) (c:=c0) (fun d' Pu ver _=>by
   refine⟨cur,by rw[Az (by rintro rfl;exact A2 Pu)];exact g1,g2,fun Kj t' e hp ha=>?_⟩
   rw[Db (by rintro rfl;exact A2 Pu)]
   exact g3 Kj t' e hp ha) hq
  refine Df (v:=c0) (w':=w) ?_ (hn G σ' st' _ w (Mem.le.refl G) r1 r2);have:=A37 (P:=P) ht h1 Kh;simp only[execOp,ho,hc,Sem.run_bind,this,Result.andThen,Sem.run_pure]
 cases x' with
 |c _=>exact hw.elim
 |Fo _ _=>exact hw.elim
 |t n=>
  obtain⟨rfl,Ej⟩:=Gb hx;simp only[An7,M.wp]at hw;cases hs:st[n]? with
  |none=>simp[hs]at hw
  |some cur=>
   obtain⟨ver,sv⟩:=cur;simp only[hs]at hw;have Ba:=hr.slot Ej hs;split at hw
   ·exact fin Ba hw.1 hw.2
   ·rename_i h;simp only[M.wp]at hw;cases Zv:st[h]? with
    |none=>simp[Zv]at hw
    |some Amj=>
     obtain⟨Bcr,sv2⟩:=Amj;simp only[Zv]at hw;split at hw
     ·have h2:=hr.Bj h Bcr _ Zv;obtain⟨hv,_⟩:=hr.Nv n ver h hs;rw[G9 (by rw[hr.n];exact Ej)]at hv
      rw[←hv]at h2;exact fin h2 hw.1 hw.2
     ·exact hw.elim
   ·exact hw.elim
end

open Go.Op
open Go.ChangeMaps (setBlock)
section
variable{P:Program}{N:Nat}{G:Mem}{σ:Lab}{Fr:Mem}{w0:Base}{w:World}{st:St}{a:Act}
end

open Go.Op
section
variable{P:Program}{N:Nat}{G:Mem}{σ:Lab}{Fr:Mem}{w0:Base}{w:World}{st:St}{a:Act}
end

inductive Tc where
 |mv (d:Nat) (x:Bh)
 |asg (d:Nat) (x:Bh)
 |mov (d:Nat) (e:TypeId) (sz:Nat) (x:Bh)
 |bin (d:Nat) (op:BinOp) (x y:Bh)
 |not (d:Nat) (x:Bh)
 |pick (d:Nat) (c x y:Bh)
 |load (d:Nat) (agg:Bool) (sz:Nat) (x:Bh)
 |store (sz:Nat) (x y:Bh)
 |alloc (d:Nat) (t:T)
 |box (d:Nat) (x:Bh)
 |Ah2 (d:Nat) (x:Bh) (i off:Nat)
 |At1 (d:Nat) (sz:Nat) (x i:Bh)
 |len (d:Nat) (str:Bool) (x:Bh)
 |slc (d:Nat) (str:Bool) (sz:Nat) (x:Bh) (lo hi:Option Bh)
 |b2s (d:Nat) (x:Bh)
 |build (d:Nat) (zs:List I) (ps:List (Nat × Bh))
 |Td (d:Nat) (e:TypeId) (sz:Nat) (z:I) (n:Nat) (ps:List (Nat × Bh))
 |empty (d:Nat) (e:TypeId) (sz:Nat)
 |ext (d:Nat) (x:Bh) (i:Nat)
 |app (d:Nat) (e:TypeId) (sz bytes:Nat) (x y:Bh)
 |eqs (d:Nat) (neg:Bool) (e:Kt) (x y:Bh)
 |At5 (d:Nat) (neg:Bool) (x:Bh)
 |Y1 (d:Nat) (x i:Bh)
 |At8 (d:Nat) (agg:Bool) (sz:Nat) (x:Bh)
 |A0e (d:Nat) (agg:Bool) (sz:Nat) (x:Bh)
 |Zn (d:Nat) (t:D)
 |Ame (d:Nat) (x:Bh)
 |U7 (d:Nat) (zs:List D) (ps:List (Nat × Bh))
 |Aqy (d:Nat) (e:TypeId) (sz:Nat) (z:I) (n:Nat) (ps:List (Nat × Bh))
 |bits (d:Nat) (op:BinOp) (x y:Bh)
 |conv (d:Nat) (k:IntKind) (x:Bh)
 |Es (d:Nat) (x:Bh)
 |Uy (d:Nat) (x:Bh)
 |Bbh (d:Nat) (x:Bh)
 |A0g (d:Nat) (x:Bh)
 |Bbq (d:Nat) (sz:Nat) (x lo:Bh)
 |Ac2 (d:Nat) (neg:Bool) (x:Bh)
 |Aua (d:Nat)
 |Awn (d:Nat) (z:I) (ok:Bool) (x k:Bh)
 |A3i (m k v:Bh)
 |A0f (m k v:Bh)
 |Ba3 (d:Nat) (x:Bh)
 |dead (d:Option Nat)
 deriving Inhabited
def Tc.sem:Tc→M
 | .mv d x=>A29 x (Bgi (some d) x) (Bbk (some d) x)
 | .asg d x=>Ag9 d x
 | .mov d e sz x=>A4m d e sz x
 | .bin d op x y=>Bgg (some d) op x y
 | .not d x=>Bgj (some d) x
 | .pick d c x y=>A8r (some d) c x y
 | .load d agg sz x=>Bao x (.Co (agg=false∧sz=1) fun _=>An7 (some d) x) (Qp x (A4j (some d) agg sz x) (A8k (some d) agg sz x))
 | .At8 d agg sz x=>A4i (some d) agg sz x
 | .A0e d agg sz x=>A4g (some d) agg sz x
 | .Zn d t=>Ayg d t
 | .Ame d x=>A8g d x
 | .U7 d zs ps=>Ayj d zs ps
 | .Aqy d e sz z n ps=>Auw d e sz z n ps
 | .store sz x y=>Qp x (Ayo sz x y) (A4p sz x y)
 | .alloc d t=>Ayh d t
 | .box d x=>Bap x (A8h d x) (Bgh d x)
 | .Ah2 d x i off=>Qp x (Ayk (some d) x i off) (A4e (some d) x i off)
 | .At1 d sz x i=>Qp x (Ayn (some d) sz x i) (A0a x (Aym (some d) sz x i) (A4f (some d) sz x i))
 | .len d str x=>Qp x (A8j (some d) str x) (match str with
   |true=>Auz (some d) true x
   |false=>A0a x (Awv (some d) x) (Auz (some d) false x))
 | .slc d str sz x lo hi=>Qp x (A8u (some d) str sz x lo hi) (Ar3 (some d) str sz x lo hi)
 | .b2s d x=>A4a d x
 | .build d zs ps=>A4b (some d) zs ps
 | .Td d e sz z n ps=>Ayi d e sz z n ps
 | .empty d e sz=>A4d d e sz
 | .ext d x i=>Awu d x i
 | .Aua d=>A4k d
 | .Awn d z ok x k=>A8m d z ok x k
 | .A3i m k v=>A8o m k v
 | .A0f m k v=>Ar1 m k v
 | .Ba3 d x=>A8n d x
 | .app d e sz bytes x y=>Qp x (Awt d e sz bytes x y) (Qp y (Awt d e sz bytes x y) (Bgf d e sz bytes x y))
 | .eqs d ng e x y=>Bnq (some d) ng e x y
 | .At5 d ng x=>A4n (some d) ng x
 | .Y1 d x i=>Bg4 (some d) x i
 | .bits d op x y=>A8f (some d) op x y
 | .conv d k x=>A8i (some d) k x
 | .Es d x=>A8q (some d) x
 | .Uy d x=>A8p d x
 | .Bbh d x=>A8t d x
 | .A0g d x=>Ar2 (some d) x
 | .Bbq d sz x lo=>A8v d sz x lo
 | .Ac2 d ng x=>A8s (some d) ng x
 | .dead _=>.fail
def En(d:Option Nat)(e:Nat):Bool:=match d with
 |some d=>d==e
 |none=>false
theorem C8{d:Option Nat}{e:Nat}(h:En d e=true):d=some e:=by
 unfold En at h;split at h
 ·simp only[beq_iff_eq]at h;rw[h]
 ·cases h
def Avc(P:Program)(t:TypeId):Bool:=match P.underlying t with
 |some (.map tk _)=>match P.underlying tk with
  |some .string=>true
  |_=>false
 |_=>false
theorem Aqn{P:Program}{t:TypeId}(h:Avc P t=true):∃tk tv,P.underlying t=some (.map tk tv)∧P.underlying tk=some .string:=by
 unfold Avc at h;split at h
 ·rename_i tk tv hu;split at h
  ·rename_i hk;exact⟨_,_,hu,hk⟩
  ·cases h
 ·cases h
def K8(P:Program)(N:Nat)(o:Oper)(i:Tc):Bool:=match o.op,i with
 | .binOp .eql t x y _,.eqs d false e x' y'=>En o.dst d&&Bu N x x'&&Bu N y y'&&A9u P e t
 | .binOp .neq t x y _,.eqs d true e x' y'=>En o.dst d&&Bu N x x'&&Bu N y y'&&A9u P e t
 | .binOp .eql t x y _,.At5 d false x'=>En o.dst d&&Bu N x x'&&A0h P t y
 | .binOp .neq t x y _,.At5 d true x'=>En o.dst d&&Bu N x x'&&A0h P t y
 | .index t x i,.Y1 d x' i'=>En o.dst d&&Bu N x x'&&Bu N i i'&&(match P.underlying t with
  |some .string=>true
  |_=>false)
 | .move x,.mv d y| .assign x,.mv d y=>En o.dst d&&Bu N x y
 | .move x,.asg d y| .assign x,.asg d y=>En o.dst d&&Bu N x y
 | .move x,.mov d _ _ y| .assign x,.mov d _ _ y=>En o.dst d&&Bu N x y
 | .binOp op _ x y _,.bits d op' x' y'=>En o.dst d&&decide (op=op')&&Bu N x x'&&Bu N y y'
 | .convert src dst x,.conv d k x'=>En o.dst d&&Bu N x x'&&A06 P dst k src
 | .binOp op _ x y _,.bin d op' x' y'=>En o.dst d&&decide (op=op')&&Bu N x x'&&Bu N y y'
 | .unOp .not _ x,.not d x'=>En o.dst d&&Bu N x x'
 | .pick c x y,.pick d c' x' y'=>En o.dst d&&Bu N c c'&&Bu N x x'&&Bu N y y'
 | .load t x,.load d agg sz x'=>En o.dst d&&Bu N x x'&&Mq P t agg sz
 | .load t x,.At8 d agg sz x'=>En o.dst d&&Bu N x x'&&Mq P t agg sz
 | .load t x,.A0e d agg sz x'=>En o.dst d&&Bu N x x'&&Mq P t agg sz
 | .store t x y,.store sz x' y'=>o.dst.isNone&&Bu N x x'&&Bu N y y'&&(Mq P t true sz||Mq P t false sz)
 | .alloc e,.alloc d t=>En o.dst d&&A5o P e t
 | .alloc e,.Zn d t=>En o.dst d&&Aw3 P e t
 | .box _ x,.box d x'=>En o.dst d&&Bu N x x'
 | .box _ x,.Ame d x'=>En o.dst d&&Bu N x x'
 | .fieldAddr t x i,.Ah2 d x' i' off=>En o.dst d&&Bu N x x'&&i==i'&&Aga P t i off
 | .indexAddr t x i,.At1 d sz x' i'=>En o.dst d&&Bu N x x'&&Bu N i i'&&Uk P t sz
 | .slice t x lo hi none,.slc d str sz x' lo' hi'=>En o.dst d&&Bu N x x'&&oOk N lo lo'&&oOk N hi hi'&&Apg P t str sz
 | .convert src dst x,.b2s d x'=>En o.dst d&&Bu N x x'&&A9h P src dst
 | .build t ps,.build d zs Qh=>En o.dst d&&M8 N ps.toList Qh&&Avx P t zs
 | .build t ps,.U7 d zs Qh=>En o.dst d&&M8 N ps.toList Qh&&Aqz P t zs
 | .buildSlice t n ps,.Aqy d e sz z n' Qh=>En o.dst d&&n==n'&&M8 N ps.toList Qh&&Yk P t e sz z n
 | .buildSlice t n ps,.Td d e sz z n' Qh=>En o.dst d&&n==n'&&M8 N ps.toList Qh&&Yk P t e sz z n
 | .buildSlice t n ps,.empty d e _=>En o.dst d&&n==0&&ps.isEmpty&&(match P.underlying t with
  |some (.slice e')=>e'==e
  |_=>false)&&(P.info? e).isSome
 | .extract x i,.ext d x' i'=>En o.dst d&&Bu N x x'&&i==i'
 | .nilCheck x,.Es d x'=>En o.dst d&&Bu N x x'
 | .move x,.Uy d y| .assign x,.Uy d y=>En o.dst d&&Bu N x y
 | .range t x,.Bbh d x'=>En o.dst d&&Bu N x x'&&(match P.underlying t with
  |some .string=>true
  |_=>false)
 | .next x true,.A0g d x'=>En o.dst d&&Bu N x x'
 | .slice t x (some lo) none none,.Bbq d sz x' lo'=>En o.dst d&&Bu N x x'&&Bu N lo lo'&&Uk P t sz
 | .binOp .eql t x y _,.Ac2 d false x'=>En o.dst d&&Bu N x x'&&Aur P t y
 | .binOp .neq t x y _,.Ac2 d true x'=>En o.dst d&&Bu N x x'&&Aur P t y
 | .makeMap _ none,.Aua d=>En o.dst d
 | .lookup t x k ok,.Awn d z ok' x' k'=>En o.dst d&&ok==ok'&&Ba2 P t z&&Bu N x x'&&Bu N k k'
 | .mapUpdate t m k v,.A3i m' k' v'=>o.dst.isNone&&Avc P t&&Bu N m m'&&Bu N k k'&&Bu N v v'
 | .mapUpdate t m k v,.A0f m' k' v'=>o.dst.isNone&&Avc P t&&Bu N m m'&&Bu N k k'&&Bu N v v'
 | .call {callee:=.builtin b,args,argTypes},i=>match b,args.toList,argTypes.toList,i with
   | .len,[x],[t],.Ba3 d x'=>En o.dst d&&A28 P t&&Bu N x x'
   | .len,[x],[t],.len d str x'=>En o.dst d&&Bu N x x'&&Aen P t str
   | .append,[x,y],[t,u],.app d e sz bytes x' y'=>En o.dst d&&t==u&&Bu N x x'&&Bu N y y'&&Aso P t e sz bytes
   |_,_,_,.dead _=>true
   |_,_,_,_=>false
 |_,.dead _=>true
 |_,_=>false
theorem Api{α:Type}{a:Array α}{x:α}(h:a.toList=[x]):a= #[x]:=by cases a;simp_all
theorem A83{α:Type}{a:Array α}{x y:α}(h:a.toList=[x,y]):a= #[x,y]:=by cases a;simp_all
theorem Bdc{P:Program}{N:Nat}{o:Oper}{i:Tc}(h:K8 P N o i=true):Sound P N o i.sem:=by
 unfold K8 at h;split at h;all_goals try(simp only[Ad,beq_iff_eq,decide_eq_true_eq,C1]at h)
 ·rename_i ho;obtain⟨⟨⟨h1,h2⟩,h3⟩,h4⟩:=h;have hd:=C8 h1;have:=A4w (P:=P) (neg:=false) ho h2 h3 h4;rwa [hd]at this
 ·rename_i ho;obtain⟨⟨⟨h1,h2⟩,h3⟩,h4⟩:=h;have hd:=C8 h1;have:=A4w (P:=P) (neg:=true) ho h2 h3 h4;rwa [hd]at this
 ·rename_i ho;obtain⟨⟨h1,h2⟩,h3⟩:=h;have hd:=C8 h1;have:=Ayy (P:=P) (neg:=false) ho h2 h3;rwa [hd]at this
 ·rename_i ho;obtain⟨⟨h1,h2⟩,h3⟩:=h;have hd:=C8 h1;have:=Ayy (P:=P) (neg:=true) ho h2 h3;rwa [hd]at this
 ·rename_i ho;obtain⟨⟨⟨h1,h2⟩,h3⟩,h4⟩:=h;have hd:=C8 h1;split at h4
  ·rename_i hu;have:=Bcc (P:=P) ho h2 h3 hu;rwa [hd]at this
  ·cases h4
 ·rename_i ho;have hd:=C8 h.1;have k1:=A41 (P:=P) (.inl ho) h.2;have k2:=Ayx (P:=P) (.inl ho) h.2;rw[hd]at k1 k2;exact Au5 k2 k1
 ·rename_i ho;have hd:=C8 h.1;have k1:=A41 (P:=P) (.inr ho) h.2;have k2:=Ayx (P:=P) (.inr ho) h.2;rw[hd]at k1 k2;exact Au5 k2 k1
 ·rename_i ho;exact An9 (C8 h.1) (.inl ho) h.2
 ·rename_i ho;exact An9 (C8 h.1) (.inr ho) h.2
 ·rename_i ho;exact Ayw (C8 h.1) (.inl ho) h.2
 ·rename_i ho;exact Ayw (C8 h.1) (.inr ho) h.2
 ·rename_i ho;obtain⟨⟨⟨h1,rfl⟩,h2⟩,h3⟩:=h;have hd:=C8 h1;have:=Bbu (P:=P) ho h2 h3;rwa [hd]at this
 ·rename_i ho;obtain⟨⟨h1,h2⟩,h3⟩:=h;have hd:=C8 h1;have:=Bby (P:=P) ho h2 h3;rwa [hd]at this
 ·rename_i ho;obtain⟨⟨⟨h1,rfl⟩,h2⟩,h3⟩:=h;have hd:=C8 h1;have:=Bgr (P:=P) ho h2 h3;rwa [hd]at this
 ·rename_i ho;have hd:=C8 h.1;have:=Bgy (P:=P) ho h.2;rwa [hd]at this
 ·rename_i ho;obtain⟨⟨⟨h1,h2⟩,h3⟩,h4⟩:=h;have hd:=C8 h1;have:=Bca (P:=P) ho h2 h3 h4;rwa [hd]at this
 ·rename_i ho;obtain⟨⟨h1,h2⟩,h3⟩:=h;have hd:=C8 h1;have h4:=Bb4 (P:=P) ho h2 h3;have h5:=A6p (P:=P) ho h2 h3;rw[hd]at h4 h5;refine Bgt ?_ (L5 h5 h4);intro G σ Fr w0 st a w Q next E hN hr hw hn A9
  obtain⟨⟨rfl,h6⟩,hw⟩:=hw;have h7:=A40 (P:=P) ho h2 h3 h6;rw[hd]at h7;exact h7 G σ Fr w0 st a w Q next E hN hr hw hn A9
 ·rename_i ho;obtain⟨⟨h1,h2⟩,h3⟩:=h;have hd:=C8 h1;have:=A6o (P:=P) ho h2 h3;rwa [hd]at this
 ·rename_i ho;obtain⟨⟨h1,h2⟩,h3⟩:=h;have hd:=C8 h1;have:=A6m (P:=P) ho h2 h3;rwa [hd]at this
 ·rename_i ho;obtain⟨⟨⟨h1,h2⟩,h3⟩,h4⟩:=h;have hd:o.dst=none:=by simpa using h1
  rcases h4 with h4|h4<;>exact L5 (A42 hd ho h2 h3 h4) (A6u hd ho h2 h3 h4)
 ·rename_i ho;exact A6g (C8 h.1) ho h.2
 ·rename_i ho;exact A4t (C8 h.1) ho h.2
 ·rename_i ho;exact Bg0 (Bbw (C8 h.1) ho h.2) (Bgs (C8 h.1) ho h.2)
 ·rename_i ho;exact Bbv (C8 h.1) ho h.2
 ·rename_i ho;obtain⟨⟨⟨h1,h2⟩,rfl⟩,h3⟩:=h;have hd:=C8 h1;have k1:=A6j (P:=P) ho h2 h3;have k2:=A4x (P:=P) ho h2 h3;rw[hd]at k1 k2;exact L5 k2 k1
 ·rename_i ho;obtain⟨⟨⟨h1,h2⟩,h3⟩,h4⟩:=h;have hd:=C8 h1;have k1:=A6k (P:=P) ho h2 h3 h4;have k2:=A4z (P:=P) ho h2 h3 h4;have k3:=A4y (P:=P) ho h2 h3 h4;rw[hd]at k1 k2 k3;exact L5 k2 (Ayv k3 k1)
 ·rename_i ho;obtain⟨⟨⟨⟨h1,h2⟩,h3⟩,h4⟩,h5⟩:=h;have hd:=C8 h1;have k1:=A6t (P:=P) ho h2 h3 h4 h5;have k2:=Bcd (P:=P) ho h2 h3 h4 h5;rw[hd]at k1 k2;exact L5 k2 k1
 ·rename_i ho;obtain⟨⟨h1,h2⟩,h3⟩:=h;exact Bgq (C8 h1) ho h2 h3
 ·rename_i ho;obtain⟨⟨h1,h2⟩,h3⟩:=h;have hd:=C8 h1;have:=A6h (P:=P) ho h2 h3;rwa [hd]at this
 ·rename_i ho;obtain⟨⟨h1,h2⟩,h3⟩:=h;exact A4v (C8 h1) ho h2 h3
 ·rename_i ho;obtain⟨⟨⟨h1,rfl⟩,h3⟩,h4⟩:=h;exact Azs (C8 h1) ho h3 h4
 ·rename_i ho;obtain⟨⟨⟨h1,rfl⟩,h3⟩,h4⟩:=h;exact A4u (C8 h1) ho h3 h4
 ·rename_i ho;obtain⟨⟨⟨⟨h1,rfl⟩,h2⟩,h3⟩,h4⟩:=h;have h2':=Array.isEmpty_iff.1 h2;subst h2';refine A6i (C8 h1) ho ⟨?_,h4⟩;split at h3
  ·rename_i hu;rw[beq_iff_eq]at h3;rw[hu,h3]
  ·cases h3
 ·rename_i ho;obtain⟨⟨h1,h2⟩,rfl⟩:=h;exact Bb0 (C8 h1) ho h2
 ·rename_i ho;obtain⟨h1,h2⟩:=h;have hd:=C8 h1;have:=Bb8 (P:=P) ho h2;rwa [hd]at this
 ·rename_i ho;exact Au4 (C8 h.1) (.inl ho) h.2
 ·rename_i ho;exact Au4 (C8 h.1) (.inr ho) h.2
 ·rename_i ho;obtain⟨⟨h1,h2⟩,h3⟩:=h;split at h3
  ·rename_i hu;exact Bcb (C8 h1) ho h2 hu
  ·cases h3
 ·rename_i ho;obtain⟨h1,h2⟩:=h;have hd:=C8 h1;have:=A6s (P:=P) ho h2;rwa [hd]at this
 ·rename_i ho;obtain⟨⟨⟨h1,h2⟩,h3⟩,h4⟩:=h;exact Bce (C8 h1) ho h2 h3 h4
 ·rename_i ho;obtain⟨⟨h1,h2⟩,h3⟩:=h;have hd:=C8 h1;have:=Au6 (P:=P) (neg:=false) ho h2 h3;rwa [hd]at this
 ·rename_i ho;obtain⟨⟨h1,h2⟩,h3⟩:=h;have hd:=C8 h1;have:=Au6 (P:=P) (neg:=true) ho h2 h3;rwa [hd]at this
 ·rename_i ho;exact A6q (C8 h) ho
 ·rename_i ho;obtain⟨⟨⟨⟨h1,rfl⟩,h2⟩,h3⟩,h4⟩:=h;exact Bb5 (C8 h1) ho h2 h3 h4
 ·rename_i ho;obtain⟨⟨⟨⟨h1,h2⟩,h3⟩,h4⟩,h5⟩:=h;obtain⟨tk,tv,hu,hk⟩:=Aqn h2;exact Bb7 (by simpa using h1) ho hu hk h3 h4 h5
 ·rename_i ho;obtain⟨⟨⟨⟨h1,h2⟩,h3⟩,h4⟩,h5⟩:=h;obtain⟨tk,tv,hu,hk⟩:=Aqn h2;exact A6r (by simpa using h1) ho hu hk h3 h4 h5
 ·rename_i ho;split at h;all_goals try(simp only[Ad,beq_iff_eq,decide_eq_true_eq,C1]at h)
  ·rename_i h1 h2;obtain⟨⟨h3,h4⟩,h5⟩:=h;rw[Api h1,Api h2]at ho;exact Bb6 (C8 h3) ho h4 h5
  ·rename_i h1 h2;obtain⟨⟨h3,h4⟩,h5⟩:=h;rw[Api h1,Api h2]at ho;have hd:=C8 h3;have k1:=Bgx (P:=P) ho h4 h5;have k2:=Bb3 (P:=P) ho h4 h5;rw[hd]at k1 k2;refine L5 k2 ?_;split
   ·exact k1
   ·have k3:=Bb2 (P:=P) ho h4 h5;rw[hd]at k3;exact Ayv k3 k1
  ·rename_i h1 h2;obtain⟨⟨⟨⟨h3,rfl⟩,h4⟩,h5⟩,h6⟩:=h;rw[A83 h1,A83 h2]at ho;have k1:=Bgp (P:=P) (C8 h3) ho h4 h5 h6;have k2:=Bbt (P:=P) (C8 h3) ho h4 h5 h6;exact L5 k2 (L5 k2 k1)
  ·intro G σ Fr w0 st a w Q next E hN hr hw hn A9;exact hw.elim
  ·cases h
 ·intro G σ Fr w0 st a w Q next E hN hr hw hn A9;exact hw.elim
 ·cases h

def Aph:List (Bool × Bh)→(List I→M)→M
 | [],k=>k []
 |(false,x)::az,k=>Q5 x fun u=>Aph az fun us=>k (u::us)
 |(true,_)::az,k=>Aph az fun us=>k (.Ln::us)
def At7(x:Bh)(k:SV→Nat→M):M:=match x with
 | .t n=>.get n fun _ sv=>match sv with
   | .box t=>k (.box t) n
   | .vec e sz l=>k (.vec e sz l) n
   | .pt s kk ver off r=>.get s fun cur Ek=>.Co (kk=0∧off=0∧r=[]∧ver=cur) fun _=>match Ek with
     | .box t=>k (.box t) s
     |_=>.fail
   | .par h=>.get h fun _ Ek=>match Ek with
     | .box t=>k (.box t) h
     | .vec e sz l=>k (.vec e sz l) h
     | .own _ t=>k (.own [] t) h
     |_=>.fail
   | .own _ t=>k (.own [] t) n
   | .pd s ver p=>.get s fun cur Ek=>match p,Ek with
     | [0],.own inv (.ptr t)=>.Co (alive ver inv [0]=true) fun _=>k (.own [] (.ptr t)) s
     |_,_=>.fail
   |_=>.fail
 |_=>.fail
def A0d(x:Bh)(k:SV→Option Nat→M):M:=match x with
 | .t n=>.get n fun _ sv=>match sv with
   | .Km s kk v=>.get s fun cur Ek=>.Co (v=cur) fun _=>match kk,Ek with
     |0,.vec e sz l=>match l with
      | []=>k (.v (.list [])) none
      |y::l'=>.Co (sz≠0) fun _=>k (.vec e sz (y::l')) (some s)
     |_,_=>.fail
   |_=>At7 x fun sv s=>k sv (some s)
 |_=>At7 x fun sv s=>k sv (some s)
def Abq:List (Bool × Bh)→List I→(List SV→List (Option Nat)→M)→M
 | [],_,k=>k [] []
 |(false,_)::az,us,k=>Abq az us.tail fun Kw rs=>k (.v (us.headD .Ln)::Kw) (none::rs)
 |(true,.Fo e sz)::az,us,k=>Abq az us.tail fun Kw rs=>k (.vec e sz []::Kw) (none::rs)
 |(true,x)::az,us,k=>A0d x fun sv s=>Abq az us.tail fun Kw rs=>k (sv::Kw) (s::rs)
def Abt:List (Option Nat)→List SV→M→M
 |some s::rs,sv::outs,k=>.get s fun ver old=>.set s (ver+1) (sv.Ua old (ver+1)) (Abt rs outs k)
 |none::rs,_::outs,k=>Abt rs outs k
 |_,_,k=>k
def J5(rs:List (Option Nat)):List Nat:=rs.filterMap id
def A4s(d:Option Nat)(r:SV):M:=match d with
 |some d=>Eo d r
 |none=>.done
def Apc(d:Option Nat)(f:FuncId)(az:List (Bool × Bh)):M:=Aph az fun us=>Abq az us fun Kw rs=>.Co ((J5 rs).Nodup∧∀d',d=some d'→d' ∉ J5 rs) fun _=>
 .call f Kw fun r outs=>.Co (∀h,r≠ .par h) fun _=>.Co (∀sv∈outs,∀h,sv≠ .par h) fun _=>Abt rs outs (A4s d r)
def Kd(N:Nat):List Operand→List (Bool × Bh)→Bool
 | [],[]=>true
 |x::l,(_,y)::m=>Bu N x y&&Kd N l m
 |_,_=>false
section
variable{P:Program}{N:Nat}{G:Mem}{σ:Lab}{Fr:Mem}{w0:Base}{w:World}{st:St}{a:Act}
theorem Af1{Q:St→Prop}:∀{xs:List Operand} {az:List (Bool × Bh)} {k:List I→M} {G:Mem} {σ:Lab} {st:St},Rel G σ Fr w0 st a w→Kd w0.n xs az=true→(Aph az k).wp P Q st→
 ∃us G' σ' st',G.le G'∧Rel G' σ' Fr w0 st' a w∧(k us).wp P Q st'∧us.length=az.length∧∀(i:Nat) (y:Bh) (x:Operand) (u:I),az[i]?=some (false,y)→xs[i]?=some x→us[i]?=some u→Bb G' u (a.eval x)
 | [],[],k,G,σ,st,hr,_,hq=>⟨[],G,σ,st,Mem.le.refl G,hr,hq,rfl,by simp⟩
 |x::xs,(false,y)::az,k,G,σ,st,hr,ho,hq=>by
  simp only[Kd,Ad]at ho;obtain⟨u,G1,σ1,st1,hG,Hr,h1,hv⟩:=Se hr ho.1 hq;obtain⟨us,G2,σ2,st2,Zp,Kn,h2,hl,hu⟩:=Af1 Hr ho.2 h1;refine⟨u::us,G2,σ2,st2,hG.trans Zp,Kn,h2,by simp[hl],?_⟩
  intro i y' x' u' h3 h4 h5;cases i with
  |zero=>
   simp only[B9,Af]at h4 h5;subst h4;subst h5;exact hv.mono Zp
  |succ i=>exact hu i y' x' u' (by simpa using h3) (by simpa using h4) (by simpa using h5)
 |x::xs,(true,y)::az,k,G,σ,st,hr,ho,hq=>by
  simp only[Kd,Ad]at ho;obtain⟨us,G2,σ2,st2,Zp,Kn,h2,hl,hu⟩:=Af1 hr ho.2 hq;refine⟨.Ln::us,G2,σ2,st2,Zp,Kn,h2,by simp[hl],?_⟩
  intro i y' x' u' h3 h4 h5;cases i with
  |zero=>simp at h3
  |succ i=>exact hu i y' x' u' (by simpa using h3) (by simpa using h4) (by simpa using h5)
 | [],_::_,_,_,_,_,_,ho,_=>by cases ho
 |_::_,[],_,_,_,_,_,ho,_=>by simp[Kd]at ho
def SV.Zb:SV→Bool
 | .box _| .vec _ _ _| .own _ _=>true
 |_=>false
theorem SV.Ba0{sv:SV}(h:sv.Zb=true):sv.root=none:=by cases sv<;>first|rfl|cases h
theorem Bft{x:Operand}{y:Bh}{k:SV→Nat→M}{Q:St→Prop}(h:Rel G σ Fr w0 st a w)(ho:Bu w0.n x y=true)(hq:(At7 y k).wp P Q st):
 ∃sv s ver,(k sv s).wp P Q st∧st[s]?=some ver∧sv.Zb=true∧Dx G σ w s sv (a.eval x)∧a.eval x=val a w0 s:=by
 cases y with
 |c _=>exact hq.elim
 |Fo _ _=>exact hq.elim
 |t n=>
  obtain⟨rfl,Ej⟩:=Gb ho;simp only[At7,M.wp]at hq;cases hs:st[n]? with
  |none=>simp[hs]at hq
  |some cur=>
   obtain⟨ver,sv⟩:=cur;simp only[hs]at hq;have Ba:=h.slot Ej hs;cases sv with
   |box t=>exact⟨_,n,_,hq,hs,rfl,Ba,(G9 (by rw[h.n];exact Ej)).symm⟩
   |vec e sz l=>exact⟨_,n,_,hq,hs,rfl,Ba,(G9 (by rw[h.n];exact Ej)).symm⟩
   |pt s kk Cn off r=>
    obtain⟨cur,h1,h2,h3⟩:=Ba;simp only[M.wp,h1]at hq;obtain⟨⟨rfl,rfl,rfl,hv⟩,hq⟩:=hq;obtain⟨b,h4,h5⟩:=h3 hv;obtain⟨cv,Hh⟩:=cur;cases Hh with
    |box t=>
     refine⟨_,s,_,hq,h1,rfl,?_⟩;obtain⟨b',cells,ty,k1,k2,k3,k4⟩:=h.Bj s cv _ h1;obtain rfl:=h.Bz.inj b b' _ h4 k2;exact⟨⟨b,cells,ty,h5,k2,k3,k4⟩,by rw[h5,k1]⟩
    |_=>exact hq.elim
   |own inv t=>exact⟨_,n,_,hq,hs,rfl,Ba,(G9 (by rw[h.n];exact Ej)).symm⟩
   |pd s Cn p=>
    obtain⟨cur,h1,h2,h3⟩:=Ba;simp only[M.wp,h1]at hq;obtain⟨cv,Hh⟩:=cur;simp only at hq;split at hq
    ·rename_i inv t;obtain⟨ha,hq⟩:=hq;have Fm:Dr G σ w s (.ptr t) (val a w0 s):=h.Bj s cv _ h1;have e:=Fm.A0i (h3 inv _ rfl (by simp) ha)
     exact⟨_,s,_,hq,h1,rfl,by rw[e];exact Fm,e⟩
    ·exact hq.elim
   |par hh=>
    obtain⟨hv,hle⟩:=h.Nv n ver hh hs;rw[G9 (by rw[h.n];exact Ej)]at hv
    simp only[M.wp]at hq;cases h1:st[hh]? with
    |none=>simp[h1]at hq
    |some cur=>
     obtain⟨cv,Hh⟩:=cur;simp only[h1]at hq;have Fy:=h.Bj hh cv Hh h1;rw[←hv]at Fy;cases Hh with
     |box t=>exact⟨_,hh,_,hq,h1,rfl,Fy,hv⟩
     |vec e sz l=>exact⟨_,hh,_,hq,h1,rfl,Fy,hv⟩
     |own inv t=>exact⟨_,hh,_,hq,h1,rfl,Fy,hv⟩
     |_=>exact hq.elim
   |_=>exact hq.elim
theorem Bfu{x:Operand}{y:Bh}{k:SV→Option Nat→M}{Q:St→Prop}(h:Rel G σ Fr w0 st a w)(ho:Bu w0.n x y=true)(hq:(A0d y k).wp P Q st):
 ∃sv r,(k sv r).wp P Q st∧((r=none∧∃u,sv= .v u∧Bb G u (a.eval x))∨∃s ver,r=some s∧st[s]?=some ver∧sv.Zb=true∧Dx G σ w s sv (a.eval x)∧a.eval x=val a w0 s):=by
 have old:(At7 y fun sv s=>k sv (some s)).wp P Q st→∃sv r,(k sv r).wp P Q st∧((r=none∧∃u,sv= .v u∧Bb G u (a.eval x))∨∃s ver,r=some s∧st[s]?=some ver∧sv.Zb=true∧Dx G σ w s sv (a.eval x)∧a.eval x=val a w0 s):=by
  intro hq;obtain⟨sv,s,ver,h1,h2⟩:=Bft h ho hq;exact⟨sv,some s,h1,.inr ⟨s,ver,rfl,h2⟩⟩
 cases y with
 |c _=>exact old hq
 |Fo _ _=>exact old hq
 |t n=>
  obtain⟨rfl,Ej⟩:=Gb ho;simp only[A0d,M.wp]at hq;cases hs:st[n]? with
  |none=>simp[hs]at hq
  |some cur=>
   obtain⟨ver,sv⟩:=cur;simp only[hs]at hq;have Ba:=h.slot Ej hs;cases sv with
   |Km s kk v=>
    obtain⟨cur,g1,g2,g3⟩:=Ba;simp only[M.wp,g1]at hq;obtain⟨hv,hq⟩:=hq;obtain⟨e,sz,l,g4,g5⟩:=g3 hv;obtain⟨cv,Hh⟩:=cur;cases kk with
    |succ _=>exact hq.elim
    |zero=>
     cases Hh with
     |vec e' Ex l'=>
      cases g4;have Fm:Fg G σ w (s,0) e sz l (val a w0 s):=h.Bj s cv _ g1;cases l with
      |nil=>
       obtain⟨ad,cap,hc,hm⟩:=g5.len;refine⟨_,none,hq,.inl ⟨rfl,_,rfl,?_⟩⟩;obtain⟨xs,k1,_⟩:=g5;rcases k1.2 with⟨hc',_⟩|⟨g,Z7,cur,hc',_,_,hn,Zq,_⟩
       ·exact Bb.list.2 ⟨none,0,hc',Ay _,A3 _,.inl rfl⟩
       ·exact Bb.list.2 ⟨_,Z7,hc',hn,Zq,.inl rfl⟩
      |cons y l'=>
       obtain⟨hz,hq⟩:=hq;refine⟨_,some s,hq,.inr ⟨s,_,rfl,g1,rfl,g5,?_⟩⟩;obtain⟨b,hb⟩:∃b,σ b=some (s,0):=by
        obtain⟨xs,k1,k2,k3,k4⟩:=g5;rcases k1.2 with⟨_,h0⟩|⟨g,Z7,cur,hc',_⟩
        ·simp at h0
        ·exact⟨g,k4 g (by rw[hc'];rfl)⟩
       obtain⟨bl,xs,post,cap,p1,_,_,p2,⟨ty,fz,p3,_⟩,_⟩:=g5.row h.Bz hb (by simp)
       obtain⟨bl',xs',Aes,Z7,q1,_,_,q2,⟨ty',fz',q3,_⟩,_⟩:=Fm.row h.Bz hb (by simp)
       rw[p3]at q3;cases q3;have:cap=Z7:=Nat.eq_of_mul_eq_mul_right (Nat.pos_of_ne_zero hz) (p2.symm.trans q2);rw[p1,q1,this]
     |_=>exact hq.elim
   |_=>exact old hq
theorem Za{Q:St→Prop}(h:Rel G σ Fr w0 st a w):∀{xs:List Operand} {az:List (Bool × Bh)} {us:List I} {k:List SV→List (Option Nat)→M},Kd w0.n xs az=true→us.length=az.length→
 (∀(i:Nat) (y:Bh) (x:Operand) (u:I),az[i]?=some (false,y)→xs[i]?=some x→us[i]?=some u→Bb G u (a.eval x))→(Abq az us k).wp P Q st→
 ∃Kw rs,(k Kw rs).wp P Q st∧Kw.length=xs.length∧rs.length=xs.length∧∀(i:Nat) (sv:SV) (x:Operand),Kw[i]?=some sv→xs[i]?=some x→
  (rs[i]?=some none∧((∃u,sv= .v u∧Bb G u (a.eval x))∨∃e sz,sv= .vec e sz []∧a.eval x= .slice none 0 0))∨(∃s ver,rs[i]?=some (some s)∧st[s]?=some ver∧sv.Zb=true∧Dx G σ w s sv (a.eval x)∧a.eval x=val a w0 s)
 | [],[],us,k,_,_,_,hq=>⟨[],[],hq,rfl,rfl,by simp⟩
 |x::xs,(false,y)::az,us,k,ho,hl,hu,hq=>by
  simp only[Kd,Ad]at ho;cases us with
  |nil=>simp at hl
  |cons u us=>
   obtain⟨Kw,rs,h1,h2,h3,h4⟩:=Za h ho.2 (by simpa using hl) (fun i y' x' u' a1 a2 a3=>hu (i+1) y' x' u' (by simpa using a1) (by simpa using a2) (by simpa using a3)) hq
   refine⟨.v u::Kw,none::rs,h1,by simp[h2],by simp[h3],?_⟩
   intro i sv x' a1 a2;cases i with
   |zero=>
    simp only[B9,Af]at a1 a2;subst a1;subst a2;exact .inl ⟨rfl,.inl ⟨u,rfl,hu 0 y _ u rfl rfl rfl⟩⟩
   |succ i=>exact h4 i sv x' (by simpa using a1) (by simpa using a2)
 |x::xs,(true,y)::az,us,k,ho,hl,hu,hq=>by
  simp only[Kd,Ad]at ho;cases us with
  |nil=>simp at hl
  |cons u us=>
   have gen:(A0d y fun sv s=>Abq az us fun Kw rs=>k (sv::Kw) (s::rs)).wp P Q st→∃Kw rs,(k Kw rs).wp P Q st∧Kw.length=(x::xs).length∧rs.length=(x::xs).length∧∀(i:Nat) (sv:SV) (x':Operand),Kw[i]?=some sv→(x::xs)[i]?=some x'→
    (rs[i]?=some none∧((∃u,sv= .v u∧Bb G u (a.eval x'))∨∃e sz,sv= .vec e sz []∧a.eval x'= .slice none 0 0))∨(∃s ver,rs[i]?=some (some s)∧st[s]?=some ver∧sv.Zb=true∧Dx G σ w s sv (a.eval x')∧a.eval x'=val a w0 s):=by
    intro hq;obtain⟨Vi,r0,g1,g2⟩:=Bfu h ho.1 hq;obtain⟨Kw,rs,h1,h2,h3,h4⟩:=Za h ho.2 (by simpa using hl) (fun i y' x' u' a1 a2 a3=>hu (i+1) y' x' u' (by simpa using a1) (by simpa using a2) (by simpa using a3)) g1
    refine⟨Vi::Kw,r0::rs,h1,by simp[h2],by simp[h3],?_⟩
    intro i sv x' a1 a2;cases i with
    |zero=>
     simp only[B9,Af]at a1 a2;subst a1;subst a2;rcases g2 with⟨rfl,u,rfl,g3⟩|⟨s,ver,rfl,g3⟩
     ·exact .inl ⟨rfl,.inl ⟨u,rfl,g3⟩⟩
     ·exact .inr ⟨s,ver,rfl,g3⟩
    |succ i=>exact h4 i sv x' (by simpa using a1) (by simpa using a2)
   cases y with
   |t n=>exact gen hq
   |c z=>exact gen hq
   |Fo e sz=>
    obtain⟨Kw,rs,h1,h2,h3,h4⟩:=Za h ho.2 (by simpa using hl) (fun i y' x' u' a1 a2 a3=>hu (i+1) y' x' u' (by simpa using a1) (by simpa using a2) (by simpa using a3)) hq
    refine⟨.vec e sz []::Kw,none::rs,h1,by simp[h2],by simp[h3],?_⟩
    intro i sv x' a1 a2;cases i with
    |zero=>
     simp only[B9,Af]at a1 a2;subst a1;subst a2;exact .inl ⟨rfl,.inr ⟨e,sz,rfl,Nj ho.1⟩⟩
    |succ i=>exact h4 i sv x' (by simpa using a1) (by simpa using a2)
 | [],_::_,_,_,ho,_,_,_=>by cases ho
 |_::_,[],_,_,ho,_,_,_=>by simp[Kd]at ho
theorem Rel.many{G':Mem}{σ':Lab}{w':World}{st':St}(h:Rel G σ Fr w0 st a w)(Dj:Gc G' σ' Fr w0 w')(hG:G.le G')(hlen:st'.length=st.length)
 (hs:∀s,(st'[s]?=st[s]?∧Kept σ σ' w w' s)∨∃ver old Cn new,st[s]?=some (ver,old)∧st'[s]?=some (Cn,new)∧ver<Cn∧new.root=none∧(∀h,new≠ .par h)∧Dx G' σ' w' s new (val a w0 s)∧∀inv t,new= .own inv t→Af4 old Cn inv t):
 Rel G' σ' Fr w0 st' a w':=by
 have kept:∀s' cur ver,st[s']?=some cur→ver≤cur.1→∃Gu,st'[s']?=some Gu∧ver≤Gu.1∧(ver=Gu.1→Gu=cur∧ver=cur.1∧Kept σ σ' w w' s'):=by
  intro s' cur ver hc hv;rcases hs s' with⟨h1,h2⟩|⟨v,old,v',new,h1,h2,h3,_⟩
  ·exact⟨cur,by rw[h1];exact hc,hv,fun e=>⟨rfl,e,h2⟩⟩
  ·rw[hc]at h1;cases h1;exact⟨_,h2,by show ver≤v';simp only at hv;omega,fun e=>by exfalso;simp only at hv;have:ver=v':=e;omega⟩
 refine⟨Dj,h.defers,h.n,by rw[hlen];exact h.len,?_,?_⟩
 ·intro s ver sv Nr;rcases hs s with⟨h1,h2⟩|⟨v,old,v',new,h1,h2,h3,h4,_,h5,_⟩
  ·rw[h1]at Nr;have h0:=h.Bj s ver sv Nr;generalize val a w0 s=c at h0;cases sv with
   |Km s' k Cn=>
    obtain⟨cur,g1,g2,g3⟩:=h0;obtain⟨Gu,k1,k2,k3⟩:=kept s' cur Cn g1 g2;refine⟨Gu,k1,k2,fun e=>?_⟩
    obtain⟨rfl,e',hk⟩:=k3 e;obtain⟨e,sz,l,g4,g5⟩:=g3 e';exact⟨e,sz,l,g4,g5.tr hG fun b hb=>hk b k hb⟩
   |sub s' k Cn n=>
    obtain⟨cur,g1,g2,g3⟩:=h0;obtain⟨Gu,k1,k2,k3⟩:=kept s' cur Cn g1 g2;refine⟨Gu,k1,k2,fun e=>?_⟩
    obtain⟨rfl,e',hk⟩:=k3 e;obtain⟨e,sz,l,g4,g5⟩:=g3 e';exact⟨e,sz,l,g4,g5.tr hG fun b hb=>hk b k hb⟩
   |Q2 s' k Cn n=>
    obtain⟨cur,g1,g2,g3⟩:=h0;obtain⟨Gu,k1,k2,k3⟩:=kept s' cur Cn g1 g2;refine⟨Gu,k1,k2,fun e=>?_⟩
    obtain⟨rfl,e',hk⟩:=k3 e;obtain⟨e,sz,l,c0,g4,g5,g6⟩:=g3 e';exact⟨e,sz,l,c0,g4,g5.tr hG fun b hb=>hk b k hb,g6⟩
   |pt s' k Cn off r=>
    obtain⟨cur,g1,g2,g3⟩:=h0;obtain⟨Gu,k1,k2,k3⟩:=kept s' cur Cn g1 g2;refine⟨Gu,k1,k2,fun e=>?_⟩
    obtain⟨rfl,e',hk⟩:=k3 e;obtain⟨b,g4,g5⟩:=g3 e';exact⟨b,(hk b k g4).1,g5⟩
   |Lv s' Cn p b=>
    obtain⟨c0,Gq,h0⟩:=h0;obtain⟨cur,g1,g2,g3⟩:=h0;refine⟨c0,Gq,?_⟩;rcases hs s' with⟨k1,k2⟩|⟨v,old,v',new,k1,k2,k3,_,_,k5,k6⟩
    ·refine⟨cur,by rw[k1];exact g1,g2,fun inv t e hp ha=>?_⟩
     obtain⟨cv,Hh⟩:=cur;simp only at e;subst e;exact(g3 inv t rfl hp ha).tr (show Dr G σ w s' t (val a w0 s')from h.Bj s' cv _ g1) k2
    ·rw[k1]at g1;cases g1;refine⟨_,k2,by simp only at g2 ⊢;omega,fun inv t e hp ha=>?_⟩
     simp only at e;subst e;exact(k6 inv t rfl).pt (by simp only at g2;omega) hp ha (fun i0 t0 e=>show Dr G σ w s' t0 (val a w0 s')from h.Bj s' v (.own i0 t0) (by rw[k1,e])) k5 (fun i0 t0 e Pt=>g3 i0 t0 e hp Pt)
   |pd s' Cn p=>
    obtain⟨cur,g1,g2,g3⟩:=h0;rcases hs s' with⟨k1,k2⟩|⟨v,old,v',new,k1,k2,k3,_,_,k5,k6⟩
    ·refine⟨cur,by rw[k1];exact g1,g2,fun inv t e hp ha=>?_⟩
     obtain⟨cv,Hh⟩:=cur;simp only at e;subst e;exact(g3 inv t rfl hp ha).tr (show Dr G σ w s' t (val a w0 s')from h.Bj s' cv _ g1) k2
    ·rw[k1]at g1;cases g1;refine⟨_,k2,by simp only at g2 ⊢;omega,fun inv t e hp ha=>?_⟩
     simp only at e;subst e;exact(k6 inv t rfl).pt (by simp only at g2;omega) hp ha (fun i0 t0 e=>show Dr G σ w s' t0 (val a w0 s')from h.Bj s' v (.own i0 t0) (by rw[k1,e])) k5 (fun i0 t0 e Pt=>g3 i0 t0 e hp Pt)
   |bs s' Cn p lo n=>
    obtain⟨cur,g1,g2,g3⟩:=h0;rcases hs s' with⟨k1,k2⟩|⟨v,old,v',new,k1,k2,k3,_,_,k5,k6⟩
    ·refine⟨cur,by rw[k1];exact g1,g2,fun e0 inv t e=>?_⟩
     obtain⟨cv,Hh⟩:=cur;simp only at e;subst e;exact⟨(g3 e0 inv t rfl).1,(g3 e0 inv t rfl).2.tr (show Dr G σ w s' t (val a w0 s')from h.Bj s' cv _ g1) k2⟩
    ·rw[k1]at g1;cases g1;exact⟨_,k2,by simp only at g2 ⊢;omega,fun e0=>by exfalso;simp only at g2 e0;omega⟩
   |Qg f s' Cn p=>
    obtain⟨g,c0,ty,kk,Gq,Le,Kh,h0⟩:=h0;obtain⟨cur,g1,g2,g3⟩:=h0;have La:=h2 g kk Le;refine⟨g,c0,ty,kk,Gq,La.1,by rw[La.2];exact Kh,?_⟩
    rcases hs s' with⟨k1,k2⟩|⟨v,old,v',new,k1,k2,k3,_,_,k5,k6⟩
    ·refine⟨cur,by rw[k1];exact g1,g2,fun inv t e ha=>?_⟩
     obtain⟨cv,Hh⟩:=cur;simp only at e;subst e;exact(g3 inv t rfl ha).tr (show Dr G σ w s' t (val a w0 s')from h.Bj s' cv _ g1) k2
    ·rw[k1]at g1;cases g1;refine⟨_,k2,by simp only at g2 ⊢;omega,fun inv t e ha=>?_⟩
     simp only at e;subst e;exact(k6 inv t rfl).hd (by simp only at g2;omega) ha (fun i0 t0 e=>show Dr G σ w s' t0 (val a w0 s')from h.Bj s' v (.own i0 t0) (by rw[k1,e])) k5 (fun i0 t0 e Pt=>g3 i0 t0 e Pt)
   |bp s' Cn p=>
    obtain⟨g,c0,ty,kk,Gq,Le,Kh,h0⟩:=h0;obtain⟨cur,g1,g2,g3⟩:=h0;have La:=h2 g kk Le;refine⟨g,c0,ty,kk,Gq,La.1,by rw[La.2];exact Kh,?_⟩
    rcases hs s' with⟨k1,k2⟩|⟨v,old,v',new,k1,k2,k3,_,_,k5,k6⟩
    ·refine⟨cur,by rw[k1];exact g1,g2,fun inv t e hp ha=>?_⟩
     obtain⟨cv,Hh⟩:=cur;simp only at e;subst e;exact(g3 inv t rfl hp ha).tr (show Dr G σ w s' t (val a w0 s')from h.Bj s' cv _ g1) k2
    ·rw[k1]at g1;cases g1;refine⟨_,k2,by simp only at g2 ⊢;omega,fun inv t e hp ha=>?_⟩
     simp only at e;subst e;exact(k6 inv t rfl).pt (by simp only at g2;omega) hp ha (fun i0 t0 e=>show Dr G σ w s' t0 (val a w0 s')from h.Bj s' v (.own i0 t0) (by rw[k1,e])) k5 (fun i0 t0 e Pt=>g3 i0 t0 e hp Pt)
   |Px fb yb s' Cn p=>
    obtain⟨gb,xb,tb,kb,Jx,Ku,Nq,h0⟩:=h0;obtain⟨g,c0,ty,kk,Gq,Le,Kh,h0⟩:=h0;obtain⟨cur,g1,g2,g3⟩:=h0;have La:=h2 g kk Le;have hbk:=h2 gb kb Jx;refine⟨gb,xb,tb,kb,hbk.1,by rw[hbk.2];exact Ku,(by first|exact Bi.mono hG yb _ Nq|exact Nq),?_⟩
    refine⟨g,c0,ty,kk,Gq,La.1,by rw[La.2];exact Kh,?_⟩
    rcases hs s' with⟨k1,k2⟩|⟨v,old,v',new,k1,k2,k3,_,_,k5,k6⟩
    ·refine⟨cur,by rw[k1];exact g1,g2,fun inv t e hp ha=>?_⟩
     obtain⟨cv,Hh⟩:=cur;simp only at e;subst e;exact(g3 inv t rfl hp ha).tr (show Dr G σ w s' t (val a w0 s')from h.Bj s' cv _ g1) k2
    ·rw[k1]at g1;cases g1;refine⟨_,k2,by simp only at g2 ⊢;omega,fun inv t e hp ha=>?_⟩
     simp only at e;subst e;exact(k6 inv t rfl).pt (by simp only at g2;omega) hp ha (fun i0 t0 e=>show Dr G σ w s' t0 (val a w0 s')from h.Bj s' v (.own i0 t0) (by rw[k1,e])) k5 (fun i0 t0 e Pt=>g3 i0 t0 e hp Pt)
   |bd s' Cn p=>
    obtain⟨cur,g1,g2,g3⟩:=h0;rcases hs s' with⟨k1,k2⟩|⟨v,old,v',new,k1,k2,k3,_,_,k5,k6⟩
    ·refine⟨cur,by rw[k1];exact g1,g2,fun inv t e ha=>?_⟩
     obtain⟨cv,Hh⟩:=cur;simp only at e;subst e;exact(g3 inv t rfl ha).tr (show Dr G σ w s' t (val a w0 s')from h.Bj s' cv _ g1) k2
    ·rw[k1]at g1;cases g1;refine⟨_,k2,by simp only at g2 ⊢;omega,fun inv t e ha=>?_⟩
     simp only at e;subst e;exact(k6 inv t rfl).hd (by simp only at g2;omega) ha (fun i0 t0 e=>show Dr G σ w s' t0 (val a w0 s')from h.Bj s' v (.own i0 t0) (by rw[k1,e])) k5 (fun i0 t0 e Pt=>g3 i0 t0 e Pt)
   |cl f fs cs=>
    refine Y3.tr h0 fun s' cu g1=>?_
    rcases hs s' with⟨k1,k2⟩|⟨v,old,v',new,k1,k2,k3,_,_,k5,k6⟩
    ·exact⟨cu,by rw[k1];exact g1,Ay _,fun _=>rfl⟩
    ·rw[k1]at g1;cases g1;exact⟨_,k2,by simp only;omega,fun _=>rfl⟩
   |al s' Cn=>
    obtain⟨cu,g1,g2,g3⟩:=h0;rcases hs s' with⟨k1,k2⟩|⟨v,old,v',new,k1,k2,k3,_,_,k5,k6⟩
    ·exact⟨cu,by rw[k1];exact g1,g2,g3⟩
    ·rw[k1]at g1;cases g1;exact⟨_,k2,by simp only at g2 ⊢;omega,fun e=>by exfalso;simp only at g2 e;omega⟩
   |_=>
    rw[Fa.own rfl]at h0 ⊢;exact Dx.tr h0 hG fun b k hb=>h2 b k hb
  ·rw[h2]at Nr;cases Nr;rw[Fa.own h4];exact h5
 ·intro s ver hh Nr;rcases hs s with⟨h1,h2⟩|⟨v,old,v',new,h1,h2,h3,h4,h5,_⟩
  ·rw[h1]at Nr;exact h.Nv s ver hh Nr
  ·rw[h2]at Nr;cases Nr;exact absurd rfl (h5 hh)
theorem Ac3{Q:St→Prop}{k:M}:∀{rs:List (Option Nat)} {outs:List SV} {st:St},rs.length=outs.length→(J5 rs).Nodup→(Abt rs outs k).wp P Q st→
 ∃st',k.wp P Q st'∧st'.length=st.length∧(∀s,s ∉ J5 rs→st'[s]?=st[s]?)∧(∀(i:Nat) s sv,rs[i]?=some (some s)→outs[i]?=some sv→∃ver old,st[s]?=some (ver,old)∧st'[s]?=some (ver+1,sv.Ua old (ver+1)))
 | [],[],st,_,_,h=>⟨st,h,rfl,fun _ _=>rfl,by simp⟩
 |none::rs,sv::outs,st,hl,hn,h=>by
  obtain⟨st',h1,h2,h3,h4⟩:=Ac3 (rs:=rs) (outs:=outs) (by simpa using hl) (by simpa[J5]using hn) h
  refine⟨st',h1,h2,fun s hs=>h3 s (by simpa[J5]using hs),?_⟩
  intro i s Ek a1 a2;cases i with
  |zero=>simp at a1
  |succ i=>exact h4 i s Ek (by simpa using a1) (by simpa using a2)
 |some s0::rs,sv::outs,st,hl,hn,h=>by
  simp only[Abt,M.wp]at h;have Kb:s0 ∉ J5 rs∧(J5 rs).Nodup:=by simpa[J5]using hn
  cases hs:st[s0]? with
  |none=>simp[hs]at h
  |some cur=>
   simp only[hs]at h;obtain⟨st',h1,h2,h3,h4⟩:=Ac3 (rs:=rs) (outs:=outs) (by simpa using hl) Kb.2 h
   have Di:s0<st.length:=(Ak.1 hs).1;refine⟨st',h1,by simpa using h2,?_,?_⟩
   ·intro s Hf;have:s≠s0∧s ∉ J5 rs:=by simpa[J5]using Hf
    rw[h3 s this.2,Az (Ne.symm this.1)]
   ·intro i s Ek a1 a2;cases i with
    |zero=>
     simp only[B9,Af]at a1 a2;subst a1;subst a2;exact⟨cur.1,cur.2,hs,by rw[h3 s0 Kb.1];simp[Di]⟩
    |succ i=>
     obtain⟨ver,old,k1,k2⟩:=h4 i s Ek (by simpa using a1) (by simpa using a2)
     have A2:s≠s0:=by
      rintro rfl;exact Kb.1 (Gp.2 ⟨some s,Aw (by simpa using a1),rfl⟩)
     rw[Az (Ne.symm A2)]at k1;exact⟨ver,old,k1,k2⟩
 | [],_::_,_,hl,_,_=>by simp at hl
 |_::_,[],_,hl,_,_=>by simp at hl
def Lab.inner(σ:Lab)(rs:List (Option Nat)):Lab:=fun b=>match σ b with
 |some (s,k)=>match rs.idxOf? (some s)with
  |some i=>some (i,k)
  |none=>none
 |none=>none
def Mem.inner(Fr:Mem)(σ:Lab)(w:World)(rs:List (Option Nat)):Mem:=fun b=>match σ b with
 |some (s,_)=>if some s∈rs then none else w.heap[b]?
 |none=>Fr b
def Lab.outer(σ σ':Lab)(rs:List (Option Nat)):Lab:=fun b=>match σ b with
 |some (s,k)=>if some s∈rs then(match σ' b with
  |some (i,k)=>match rs[i]? with
   |some (some s)=>some (s,k)
   |_=>none
  |none=>none)else some (s,k)
 |none=>match σ' b with
  |some (i,k)=>match rs[i]? with
   |some (some s)=>some (s,k)
   |_=>none
  |none=>none
theorem Aii{rs:List (Option Nat)}{s i:Nat}(hn:(J5 rs).Nodup)(h:rs[i]?=some (some s)):rs.idxOf? (some s)=some i:=by
 induction rs generalizing i with
 |nil=>simp at h
 |cons r rs ih=>
  cases i with
  |zero=>
   simp only[B9,Af]at h;subst h;simp[List.idxOf?_cons]
  |succ i=>
   have h':rs[i]?=some (some s):=by simpa using h
   have Vx:s∈J5 rs:=Gp.2 ⟨some s,Aw h',rfl⟩;have A2:r≠some s:=by
    rintro rfl;have:s ∉ J5 rs∧(J5 rs).Nodup:=by simpa[J5]using hn
    exact this.1 Vx
   have Kb:(J5 rs).Nodup:=by
    cases r with
    |none=>simpa[J5]using hn
    |some r=>have:r ∉ J5 rs∧(J5 rs).Nodup:=by simpa[J5]using hn
             exact this.2
   rw[List.idxOf?_cons,if_neg (by simpa using A2),ih Kb h']
   rfl
theorem Bfb{rs:List (Option Nat)}{s i:Nat}(h:rs.idxOf? (some s)=some i):rs[i]?=some (some s):=by
 induction rs generalizing i with
 |nil=>simp at h
 |cons r rs ih=>
  rw[List.idxOf?_cons]at h;split at h
  ·rename_i hr;simp only[Af]at h;subst h;simpa using hr
  ·cases hi:rs.idxOf? (some s)with
   |none=>simp[hi]at h
   |some j=>
    simp only[hi,Bx,Af]at h;subst h;simpa using ih hi
theorem Q9{rs:List (Option Nat)}{s:Nat}:some s∈rs↔s∈J5 rs:=by simp[J5]
end
end Go.Ab
