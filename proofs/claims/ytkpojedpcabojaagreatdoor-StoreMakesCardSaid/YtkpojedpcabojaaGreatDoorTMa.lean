/- Lemmas -/
import Derived.Deep.Slices
import Derived.ChangeSame
import Derived.ChangeArms
import Derived.ProofKit
import Derived.OpenShut
import Derived.SizedLaws
import Derived.Test.YtkpojedpcabojaaGreatDoorRows
import Derived.Lib.LaidU8T
import Derived.PinnedBridge
import Derived.LaidOnce
import Derived.LaidMore
import Derived.Test.YtkpojedpcabojaaGreatDoorChecked
import Derived.Test.YtkpojedpcabojaaGreatDoorM8
import Derived.Test.YtkpojedpcabojaaGreatDoorCards
import Derived.Test.YtkpojedpcabojaaGreatDoorTie
import Derived.JoinedCond
import Derived.Lay
import Derived.SevenTiedAt
set_option linter.unusedVariables false
set_option linter.unusedSimpArgs false
namespace Go.Ab
open Go.ChangeShapes Go.Deep
inductive Sh where
 |int (k:IntKind)
 |bool
 |str
 |st (l:List Sh)
 |sl (sz:Nat) (e:Sh)
 |ar (sz n:Nat) (e:Sh)
 deriving Inhabited
mutual
def Sh.ok(P:Program):TypeId→Sh→Bool
 |t,.int k=>match P.underlying t with
  |some (.int k')=>k==k'
  |_=>false
 |t,.bool=>match P.underlying t with
  |some .bool=>true
  |_=>false
 |t,.str=>match P.underlying t with
  |some .string=>true
  |_=>false
 |t,.st l=>match P.underlying t with
  |some (.struct fs)=>Sh.Ri P 0 (P.cellsOf t) fs.toList l
  |_=>false
 |t,.sl sz e=>match P.underlying t with
  |some (.slice e')=>P.cellsOf e'==sz&&sz != 0&&Sh.ok P e' e
  |_=>false
 |t,.ar sz n e=>match P.underlying t with
  |some (.array m e')=>P.cellsOf e'==sz&&m==n&&P.cellsOf t==n*sz&&Sh.ok P e' e
  |_=>false
def Sh.Ri(P:Program):Nat→Nat→List Field→List Sh→Bool
 |off,T4,[],[]=>off==T4
 |off,T4,f::fs,s::l=>f.offset==off&&Sh.ok P f.type s&&Sh.Ri P (off+P.cellsOf f.type) T4 fs l
 |_,_,_,_=>false
end
mutual
def Fits:Sh→I→Prop
 | .int k,x=>∃n,x= .int k n∧(Lit.int k n).wf=true
 | .bool,x=>∃b,x= .bool b
 | .str,x=>∃s,x= .str s
 | .st l,x=>∃xs,x= .agg xs∧Asi l xs
 | .sl sz e,x=>∃xs,x= .list xs∧∀y∈xs,Fits e y∧y.size=sz
 | .ar sz n e,x=>∃xs,x= .arr sz xs∧xs.length=n∧∀y∈xs,Fits e y∧y.size=sz
def Asi:List Sh→List I→Prop
 | [],xs=>xs=[]
 |s::l,xs=>∃y ys,xs=y::ys∧Fits s y∧Asi l ys
end
def Lb(w:World):Mem:=fun b=>w.heap[b]?
section
variable{H:Type}{enc:TypeId × Value → H}{P:Program}{w:World}{base:Nat}{sp:Nat → Bool}{held:Bool}
theorem Ad4{a:Addr}{n:Nat}{cs:List Value}(h:w.cells? base a n=some cs)(h0:0<n):∃bl ty fz,a=⟨a.block,a.off,none⟩∧w.heap[a.block]?=some (.cells bl ty fz)∧a.off+n≤bl.size∧(bl.toList.drop a.off).take n=cs:=by
 obtain⟨_,hl,hc⟩:=World.cells?_some h;have Rw:∀i,i<n→∃v,w.cell? (a.add i)=some v:=fun i hi=>⟨cs[i]'(by omega),by rw[hc i hi,Ac]⟩
 obtain⟨v,hv⟩:=Rw 0 h0;unfold World.cell? at hv;rw[show a.add 0=a from by simp[Addr.add]]at hv
 split at hv
 ·rename_i bl ty fz hb;split at hv
  ·cases hv
  ·rename_i hs;have L0:a.spot=none:=by cases Mx:a.spot<;>simp[Mx]at hs ⊢
   have Av5:∀i,w.cell? (a.add i)=bl[a.off+i]?:=by
    intro i;unfold World.cell? Addr.add;by_cases hi:i=0
    ·simp[hi,hb,L0]
    ·simp[hi,hb]
   have Cq:a.off+n≤bl.size:=by
    obtain⟨v',Na⟩:=Rw (n - 1) (by omega)
    rw[Av5]at Na;have:=(C3.1 Na).1;omega
   refine⟨bl,ty,fz,?_,hb,Cq,?_⟩
   ·cases a;simp at L0;simp[L0]
   ·apply List.ext_getElem?;intro i;by_cases hi:i<n
    ·rw[Jc,if_pos hi,Ei, ←hc i hi,Av5];simp
    ·rw[D9 (by simp;omega),D9 (by omega)]
 ·cases hv
theorem B4.Ag3{G:Mem}{sz:Nat}:∀{n:Nat} {cells:List Value} {p:I→Prop},n*sz≤cells.length→(∀i,i<n→∃x,Bi G x ((cells.drop (i*sz)).take sz)∧p x)→∃xs,xs.length=n∧B4 G xs (cells.take (n*sz))∧∀x∈xs,p x
 |0,cells,p,_,_=>⟨[],rfl,by simp[B4],by simp⟩
 |n+1,cells,p,hl,h=>by
  have hm:(n+1)*sz=sz+n*sz:=by rw[F9];omega
  obtain⟨x,h1,h2⟩:=h 0 (by omega)
  simp only[Nat.zero_mul,List.drop_zero]at h1;obtain⟨xs,h3,h4,h5⟩:=B4.Ag3 (sz:=sz) (n:=n) (cells:=cells.drop sz) (p:=p) (by rw[Br];omega) fun i hi=>by
   obtain⟨y,g1,g2⟩:=h (i+1) (by omega)
   refine⟨y,?_,g2⟩;rw[List.drop_drop,show sz+i*sz=(i+1)*sz by rw[F9];omega]
   exact g1
  refine⟨x::xs,by simp[h3],?_,?_⟩
  ·rw[hm,List.take_add];simp only[B4];exact⟨_,_,rfl,h1,h4⟩
  ·intro y hy;rcases List.mem_cons.mp hy with rfl|hy
   ·exact h2
   ·exact h5 y hy
theorem A3o:∀{l:List Sh} {fs:List Field} {off T4:Nat},Sh.Ri P off T4 fs l=true→off≤T4
 | [],[],_,_,h=>by simp only[Sh.Ri,beq_iff_eq]at h;omega
 |s::l,f::fs,off,T4,h=>by
  simp only[Sh.Ri,Ad]at h;have:=A3o h.2;omega
 | [],_::_,_,_,h=>by simp[Sh.Ri]at h
 |_::_,[],_,_,h=>by simp[Sh.Ri]at h
mutual
theorem Aok:∀(sh:Sh) {t:TypeId} {fuel:Nat} {cs:List Value} {x:DataW H × List MemPlace},sh.ok P t=true→DataW.trod enc P w base (fun _=>sp 0) held fuel t cs=some x→
 ∃y,Bi (Lb w) y cs∧Fits sh y
 | .int k,t,fuel,cs,x,ho,h=>by
   simp only[Sh.ok]at ho;split at ho
   ·rename_i k' ht;rw[beq_iff_eq]at ho;subst ho;obtain⟨n,rfl,_,hw⟩:=DataW.trod_int ht h;exact⟨.int k n,by simp[Bi],n,rfl,hw⟩
   ·cases ho
 | .bool,t,fuel,cs,x,ho,h=>by
   simp only[Sh.ok]at ho;split at ho
   ·rename_i ht;obtain⟨b,rfl,_⟩:=DataW.trod_bool ht h;exact⟨.bool b,by simp[Bi],b,rfl⟩
   ·cases ho
 | .str,t,fuel,cs,x,ho,h=>by
   simp only[Sh.ok]at ho;split at ho
   ·rename_i ht;obtain⟨s,rfl,_,hs⟩:=DataW.trod_string ht h;obtain⟨⟨s⟩⟩:=s;exact⟨.str s,by simp only[Bi];exact⟨trivial,hs⟩,s,rfl⟩
   ·cases ho
 | .st l,t,fuel,cs,x,ho,h=>by
   simp only[Sh.ok]at ho;split at ho
   ·rename_i fs ht;cases fuel with
    |zero=>simp[DataW.trod]at h
    |succ fuel=>
     simp only[DataW.trod,ht]at h;split at h
     ·rename_i hl;obtain⟨xs,h1,_⟩:=Eg.1 h;obtain⟨ys,h2,h3⟩:=Avj l (off:=0) ho h1;refine⟨.agg ys,?_,ys,rfl,h3⟩;simp only[Bi];simpa[←hl]using h2
     ·cases h
   ·cases ho
 | .sl sz e,t,fuel,cs,x,ho,h=>by
   simp only[Sh.ok]at ho;split at ho
   ·rename_i e' ht;simp only[Ad,beq_iff_eq,bne_iff_ne,ne_eq]at ho;obtain⟨⟨Cq,hz⟩,he⟩:=ho;rcases open_slice ht h with⟨rfl,_⟩|⟨a,len,cap,m,n,D,Pl,rfl,_,Tg,Zq,hm,_,hx⟩
    ·exact⟨.list [],by simp only[Bi];exact⟨none,0,rfl,Ay _,A3 _,.inl trivial⟩,[],rfl,by simp⟩
    ·by_cases h0:len=0
     ·subst h0;exact⟨.list [],by simp only[Bi];exact⟨some a,cap,rfl,A3 _,Zq,.inl trivial⟩,[],rfl,by simp⟩
     ·have hmm:len≤m:=by subst hm;split<;>omega
      have Kc:∀i,i<len→∃Jw y,w.cells? base (a.add (i*sz)) sz=some Jw∧Bi (Lb w) y Jw∧Fits e y∧y.size=sz:=by
       intro i hi;obtain⟨Jw,g1,g2⟩:=hx i (by omega)
       obtain⟨y,g3,g4⟩:=Aok e he g2;rw[Cq]at g1;have hlen:=(World.cells?_some g1).2.1;exact⟨Jw,y,g1,g3,g4,by rw[←Bi.length _ _ g3,hlen]⟩
      obtain⟨cs0,_,c1,_⟩:=Kc 0 (by omega)
      rw[Nat.zero_mul,show a.add 0=a by simp[Addr.add]]at c1
      obtain⟨bl,ty,fz,ha,hb,hs0,_⟩:=Ad4 c1 (by omega)
      have Dd:∀i,i<len→a.off+i*sz+sz≤bl.size∧∃y,Bi (Lb w) y (((bl.toList.drop a.off).drop (i*sz)).take sz)∧Fits e y∧y.size=sz:=by
       intro i hi;obtain⟨Jw,y,g1,g2,g3,g4⟩:=Kc i hi;obtain⟨bl',ty',fz',k1,k2,k3,k4⟩:=Ad4 g1 (by omega)
       have e1:(a.add (i*sz)).block=a.block:=by unfold Addr.add;split<;>rfl
       have e2:(a.add (i*sz)).off=a.off+i*sz:=by unfold Addr.add;split<;>rename_i hh<;>simp[hh]
       rw[e1,hb]at k2;cases k2;rw[e2]at k3 k4;refine⟨k3,y,?_,g3,g4⟩;rw[List.drop_drop,k4];exact g2
      have Y6:=(Dd (len - 1) (by omega)).1
      have hmul:(len - 1)*sz+sz=len*sz:=by
       obtain⟨q,rfl⟩:∃q,len=q+1:=⟨len - 1,by omega⟩
       rw[F8,F9,Nat.one_mul]
      obtain⟨xs,x1,x2,x3⟩:=B4.Ag3 (G:=Lb w) (sz:=sz) (n:=len) (cells:=bl.toList.drop a.off) (p:=fun y=>Fits e y∧y.size=sz) (by simp;omega) fun i hi=>(Dd i hi).2
      refine⟨.list xs,?_,xs,rfl,x3⟩;simp only[Bi];refine⟨some a,cap,by rw[x1],by omega,Zq,.inr ⟨a.block,a.off,bl,ty,fz,sz,by rw[←ha],hb,fun y hy=>(x3 y hy).2,by rw[x1];omega,by rw[x1];exact x2⟩⟩
   ·cases ho
 | .ar sz n e,t,fuel,cs,x,ho,h=>by
   simp only[Sh.ok]at ho;split at ho
   ·rename_i m e' ht;simp only[Ad,beq_iff_eq]at ho;obtain⟨⟨⟨Cq,rfl⟩,Bi7⟩,he⟩:=ho;obtain⟨xs,fu,rfl,_,hl,hxl,hx⟩:=DataW.trod_array ht h;rw[Bi7]at hl;rw[Cq]at hx;obtain⟨ys,y1,y2,y3⟩:=B4.Ag3 (G:=Lb w) (sz:=sz) (n:=m) (cells:=cs) (p:=fun y=>Fits e y∧y.size=sz) (by omega) fun i hi=>by
     obtain⟨d,hd⟩:∃d,xs[i]?=some d:=⟨_,Ac (by omega)⟩
     have h1:=hx i hi;rw[hd]at h1;obtain⟨y,g1,g2⟩:=Aok e he h1;refine⟨y,g1,g2,?_⟩;rw[←Bi.length _ _ g1,Ck,Br];have:(i+1)*sz≤m*sz:=C7 _ (by omega)
     rw[F9,Nat.one_mul]at this;omega
    refine⟨.arr sz ys,?_,ys,rfl,y1,y3⟩;rw[C9 (by omega)]at y2
    simp only[Bi];exact⟨y2,fun y hy=>(y3 y hy).2⟩
   ·cases ho
theorem Avj:∀(l:List Sh) {fs:List Field} {off T4 fuel:Nat} {cs:List Value} {xs:List (DataW H × List MemPlace)},Sh.Ri P off T4 fs l=true→
 (fs.mapM fun f=>DataW.trod enc P w base (fun _=>sp 0) held fuel f.type ((cs.drop f.offset).take (P.cellsOf f.type)))=some xs→∃ys,B4 (Lb w) ys ((cs.take T4).drop off)∧Asi l ys
 | [],fs,off,T4,fuel,cs,xs,ho,h=>by
   cases fs with
   |nil=>
    simp only[Sh.Ri,beq_iff_eq]at ho;subst ho;exact⟨[],by simp[B4],rfl⟩
   |cons f fs=>simp[Sh.Ri]at ho
 |s::l,fs,off,T4,fuel,cs,xs,ho,h=>by
  cases fs with
  |nil=>simp[Sh.Ri]at ho
  |cons f fs=>
   simp only[Sh.Ri,Ad,beq_iff_eq]at ho;obtain⟨⟨rfl,h1⟩,h2⟩:=ho;simp only[List.mapM_cons]at h;obtain⟨y,g1,g2⟩:=Ey.1 h;obtain⟨z,g3,g4⟩:=Ey.1 g2;obtain⟨u,g5,g6⟩:=Aok s h1 g1;obtain⟨us,g7,g8⟩:=Avj l (cs:=cs) h2 g3;refine⟨u::us,?_,u,us,rfl,g6,g8⟩;simp only[B4];have hle:=A3o h2;refine⟨_,_,?_,g5,g7⟩;have e1:(cs.drop f.offset).take (P.cellsOf f.type)=((cs.take T4).drop f.offset).take (P.cellsOf f.type):=by
    rw[List.drop_take,List.take_take,Da (by omega)]
   rw[e1, ←List.drop_drop,B3]
end
end

open Go.ChangeShapes Go.Deep
theorem Xe{α β:Type}{f g:α→Option β}:∀{l:List α} {xs:List β},l.mapM f=some xs→(∀a∈l,∀y∈xs,f a=some y→g a=some y)→l.mapM g=some xs
 | [],xs,h,_=>by simpa using h
 |a::l,xs,h,hg=>by
  simp only[List.mapM_cons]at h ⊢;obtain⟨y,g1,g2⟩:=Ey.1 h;obtain⟨z,g3,g4⟩:=Ey.1 g2;cases g4;rw[hg a (Ar ..) y (Ar ..) g1];have:=Xe (l:=l) g3 fun b hb x hx=>hg b (Au _ hb) x (Au _ hx)
  simp[this]
section
variable{H:Type}{enc:TypeId × Value → H}{P:Program}{W W':World}{sp':Nat → Bool}{held:Bool}
theorem A9m(hk:∀(b:Nat) (o:Obj),W.heap[b]?=some o→W'.heap[b]?=some o){a:Addr}{v:Value}(h:W.cell? a=some v):W'.cell? a=some v:=by
 unfold World.cell? at h ⊢;split at h
 ·rename_i bl ty fz hb;rw[hk _ _ hb];exact h
 ·cases h
theorem A5u(hk:∀(b:Nat) (o:Obj),W.heap[b]?=some o→W'.heap[b]?=some o){a:Addr}{n:Nat}{cs:List Value}(h:W.cells? 0 a n=some cs):W'.cells? 0 a n=some cs:=by
 unfold World.cells? at h ⊢;split at h
 ·rename_i h0;rw[if_pos h0];exact Xe h fun i _ y _ hy=>A9m hk hy
 ·cases h
theorem Abh(hk:∀(b:Nat) (o:Obj),W.heap[b]?=some o→W'.heap[b]?=some o):∀(fuel:Nat) (sh:Sh) {t:TypeId} {cs:List Value} {x:DataW H × List MemPlace},sh.ok P t=true→
 DataW.trod enc P W 0 (fun _=>true) held fuel t cs=some x→(∀p∈x.2,sp' p.block=true)→DataW.trod enc P W' 0 sp' held fuel t cs=some x
 |0,sh,t,cs,x,ho,h,hp=>by simp[DataW.trod]at h
 |fuel+1,.int k,t,cs,x,ho,h,hp=>by
  simp only[Sh.ok]at ho;split at ho
  ·rename_i k' ht;obtain⟨n,rfl,rfl,hw⟩:=DataW.trod_int ht h;simp[DataW.trod,ht,hw]
  ·cases ho
 |fuel+1,.bool,t,cs,x,ho,h,hp=>by
  simp only[Sh.ok]at ho;split at ho
  ·rename_i ht;obtain⟨b,rfl,rfl⟩:=DataW.trod_bool ht h;simp[DataW.trod,ht]
  ·cases ho
 |fuel+1,.str,t,cs,x,ho,h,hp=>by
  simp only[Sh.ok]at ho;split at ho
  ·rename_i ht;obtain⟨s,rfl,rfl,hs⟩:=DataW.trod_string ht h;simp[DataW.trod,ht,hs]
  ·cases ho
 |fuel+1,.st l,t,cs,x,ho,h,hp=>by
  simp only[Sh.ok]at ho;split at ho
  ·rename_i fs ht;simp only[DataW.trod,ht]at h ⊢;split at h
   ·rename_i hl;rw[if_pos hl];obtain⟨xs,h1,rfl⟩:=Eg.1 h;have fld:∀(l:List Sh) (fs:List Field) (off T4:Nat) (xs:List (DataW H × List MemPlace)),Sh.Ri P off T4 fs l=true→
     (fs.mapM fun f=>DataW.trod enc P W 0 (fun _=>true) held fuel f.type ((cs.drop f.offset).take (P.cellsOf f.type)))=some xs→(∀y∈xs,∀p∈y.2,sp' p.block=true)→
     (fs.mapM fun f=>DataW.trod enc P W' 0 sp' held fuel f.type ((cs.drop f.offset).take (P.cellsOf f.type)))=some xs:=by
     intro l;induction l with
     |nil=>
      intro fs off T4 xs ho h hp;cases fs with
      |nil=>simpa using h
      |cons f fs=>simp[Sh.Ri]at ho
     |cons s l ih=>
      intro fs off T4 xs ho h hp;cases fs with
      |nil=>simp[Sh.Ri]at ho
      |cons f fs=>
       simp only[Sh.Ri,Ad,beq_iff_eq]at ho;simp only[List.mapM_cons]at h ⊢;obtain⟨y,g1,g2⟩:=Ey.1 h;obtain⟨z,g3,g4⟩:=Ey.1 g2;cases g4;rw[Abh hk fuel s ho.1.2 g1 (hp y (Ar ..))];have:=ih fs _ _ z ho.2 g3 fun y hy=>hp y (Au _ hy)
       simp[this]
    rw[fld l fs.toList 0 _ xs ho h1 fun y hy p hp'=>hp p (List.mem_flatMap.2 ⟨y,hy,hp'⟩)]
    rfl
   ·cases h
  ·cases ho
 |fuel+1,.ar sz n e,t,cs,x,ho,h,hp=>by
  simp only[Sh.ok]at ho;split at ho
  ·rename_i m e' ht;simp only[Ad,beq_iff_eq]at ho;simp only[DataW.trod,ht]at h ⊢;split at h
   ·rename_i hl;rw[if_pos hl];obtain⟨xs,h1,rfl⟩:=Eg.1 h;rw[Xe h1 fun i _ y hy h2=>Abh hk fuel e ho.2 h2 fun p hp'=>hp p (List.mem_flatMap.2 ⟨y,hy,hp'⟩)]
    rfl
   ·cases h
  ·cases ho
 |fuel+1,.sl sz e,t,cs,x,ho,h,hp=>by
  simp only[Sh.ok]at ho;split at ho
  ·rename_i e' ht;simp only[Ad,beq_iff_eq,bne_iff_ne,ne_eq]at ho;obtain⟨⟨Cq,hz⟩,he⟩:=ho;have elem:∀{a:Addr} {i:Nat} {y:DataW H × List MemPlace},(∀p∈y.2,sp' p.block=true)→((W.cells? 0 (a.add (i*P.cellsOf e')) (P.cellsOf e')).bind (DataW.trod enc P W 0 (fun _=>true) held fuel e'))=some y→
    ((W'.cells? 0 (a.add (i*P.cellsOf e')) (P.cellsOf e')).bind (DataW.trod enc P W' 0 sp' held fuel e'))=some y:=by
    intro a i y hy h;obtain⟨Jw,g1,g2⟩:=Ey.1 h;rw[A5u hk g1];exact Abh hk fuel e he g2 hy
   have Kr:cs=[.slice none 0 0]∨∃a len cap,cs=[.slice (some a) len cap]:=by
    rcases open_slice ht h with⟨h1,_⟩|⟨a,len,cap,_,_,_,_,h1,_⟩
    ·exact .inl h1
    ·exact .inr ⟨a,len,cap,h1⟩
   rcases Kr with rfl|⟨a,len,cap,rfl⟩
   ·simp only[DataW.trod,ht]at h ⊢;exact h
   ·simp only[DataW.trod,ht]at h ⊢;split at h
    ·rename_i hc;rw[if_pos hc];obtain⟨elems,g1,g2⟩:=Ey.1 h;obtain⟨rest,g3,rfl⟩:=Eg.1 g2;have Kc:0<elems.length+rest.length→sp' a.block=true:=by
      intro h0;refine hp (.cell a.block (a.off+0)) (E5 _ ?_);unfold MemPlace.row;refine Cs.2 ⟨0,Eb.2 (Nat.mul_pos h0 (by omega)),rfl⟩
     have hel:∀y∈elems++rest,∀p∈y.2,sp' p.block=true:=fun y hy p hp'=>hp p (Fi _ (List.mem_flatMap.2 ⟨y,hy,hp'⟩))
     have k1:=Xe g1 fun i _ y hy h=>elem (hel y (E5 _ hy)) h
     rw[k1];simp only[if_true]at g3;have k2:(if sp' a.block=true then(List.range (cap - len)).mapM fun j=>((W'.cells? 0 (a.add ((len+j)*P.cellsOf e')) (P.cellsOf e')).bind (DataW.trod enc P W' 0 sp' held fuel e'))else some [])=some rest:=by
      have k3:=Xe g3 fun j _ y hy h=>elem (hel y (Fi _ hy)) h
      cases hs:sp' a.block with
      |true=>rw[if_pos rfl];exact k3
      |false=>
       rw[if_neg (by decide)]
       have hr0:rest=[]:=by
        cases rest with
        |nil=>rfl
        |cons r rs=>
         have:=Kc (by simp;omega)
         rw[hs]at this;cases this
       rw[hr0]
     simp only[Option.bind_some];rw[k2];rfl
    ·cases h
  ·cases ho
end

open Go.ChangeShapes Go.Deep Go.WideShapes Go.ChangeAt Go.RowKit
def Ai4(P:Program):List TypeId→List Sh→Bool
 | [],[]=>true
 |t::ts,s::l=>s.ok P t&&Ai4 P ts l
 |_,_=>false
section
variable{H:Type}{enc:TypeId × Value → H}{P:Program}{W W':World}
theorem Bj4{sh:Sh}{t:TypeId}{x:I}{v:Value}{G:Mem}{b0:Nat}(ho:sh.ok P t=true)(hv:Value.okWide P W .any b0 t v)(hr:Bi G x v.cells.toList)(hf:Fits sh x):Bb G x v:=by
 unfold Bb;cases sh with
 |st l=>
  simp only[Sh.ok]at ho;split at ho
  ·rename_i fs ht;obtain⟨xs,rfl,_⟩:=hf;rw[if_pos (show(I.agg xs).isAgg=true from rfl)];unfold Value.okWide at hv;rw[ht]at hv;obtain⟨cs,rfl,_⟩:=hv;exact⟨cs,rfl,hr⟩
  ·cases ho
 |ar sz n e=>
  simp only[Sh.ok]at ho;split at ho
  ·rename_i m e' ht;obtain⟨xs,rfl,_⟩:=hf;rw[if_pos (show(I.arr sz xs).isAgg=true from rfl)];unfold Value.okWide at hv;rw[ht]at hv;obtain⟨cs,rfl,_⟩:=hv;exact⟨cs,rfl,hr⟩
  ·cases ho
 |_=>
  simp only[Sh.ok]at ho;split at ho<;>try(cases ho;done)
  rename_i ht;have hx:x.isAgg=false:=by
   obtain⟨_,rfl,_⟩:=hf;rfl
  rw[if_neg (by rw[hx];decide)]
  unfold Value.okWide at hv;rw[ht]at hv;cases v<;>first|exact hr|(exact absurd hv (by simp[Cell.okWide,Cell.ok,ht]))
theorem Akp{sp':Nat→Bool}(hk:∀(b:Nat) (o:Obj),W.heap[b]?=some o→W'.heap[b]?=some o):∀{shs:List Sh} {ts:List TypeId} {vs:List Value} {ds:List (DataW H)} {p:List MemPlace},Ai4 P ts shs=true→
 DataW.TrodAll enc P W 0 (fun _=>true) true ts vs ds p→(∀q∈p,sp' q.block=true)→DataW.TrodAll enc P W' 0 sp' true ts vs ds p
 | [],[],[],[],p,_,h,_=>h
 |s::shs,t::ts,v::vs,d::ds,p,ho,h,hp=>by
  simp only[Ai4,Ad]at ho;obtain⟨p1,q,⟨fuel,h1⟩,h2,rfl⟩:=h;exact⟨p1,q,⟨fuel,Abh hk fuel s ho.1 h1 fun y hy=>hp y (E5 _ hy)⟩,Akp hk ho.2 h2 fun y hy=>hp y (Fi _ hy),rfl⟩
 | [],_::_,_,_,_,ho,_,_=>by cases ho
 |_::_,[],_,_,_,ho,_,_=>by simp[Ai4]at ho
 | [],[],_::_,_,_,_,h,_=>by simp[DataW.TrodAll]at h
 | [],[],[],_::_,_,_,h,_=>by simp[DataW.TrodAll]at h
 |_::_,_::_,[],_,_,_,h,_=>by simp[DataW.TrodAll]at h
 |_::_,_::_,_::_,[],_,_,h,_=>by simp[DataW.TrodAll]at h
theorem Bjj{f:FuncId}{xs:List I}{args:Array Value}(hl:xs.length=args.toList.length)(Ba:∀(i:Nat) x v,xs[i]?=some x→args.toList[i]?=some v→Bb (Lb W) x v){outs:List SV}
 (h:Fn P f (xs.map SV.v) (Is (.v (.bool true)) outs)) (Bwc:Amb.p (Lb W)):
 Calls P f args W fun e W'=>e= .returned (.bool true)∧(∀(b:Nat) (o:Obj),W.heap[b]?=some o→W'.heap[b]?=some o)∧W'.os=W.os∧W'.output=W.output∧W.heap.size≤W'.heap.size:=by
 have:=h (Lb W) (fun _=>none) (fun _=>none) W args ⟨fun b o hb=>hb,fun b Ca hb=>(by cases hb),fun b b' Ca hb _=>(by cases hb),fun b o hb=>(by cases hb),rfl,rfl,rfl,Ay _,fun b o hb=>(by cases hb),Bwc⟩
  (by simp[hl]) (by
    intro i sv hi;rw[B2]at hi;obtain⟨x,h1,rfl⟩:=Eg.1 hi;refine⟨rfl,?_⟩;have Di:i<args.toList.length:=by rw[←hl];exact(Ak.1 h1).1
    have h2:args.toList[i]?=some (args.getD i undef):=by
     rw[Ac Di];have Arc:i<args.size:=by simpa using Di
     simp[Array.getD,Arc]
    exact Ba i x _ h1 h2)
 refine this.mono ?_;rintro e w' ⟨r,zs,c,G',σ',rfl,⟨rfl,_⟩,hG,Dj,_,hr,_⟩;refine⟨?_,fun b o hb=>Dj.fixed b o (hG b o hb),Dj.os,Dj.output,Dj.size⟩
 have D2:Bb G' (.bool true) c:=hr;rw[Bb.bool]at D2;rw[D2]
theorem Bjk{f:Func}{s:ChangeSpec}{fresh handsOn again:Bool}{args:Array Value}{ds gs:List (DataW H)}{before:List MemPlace}{shs:List Sh}{tb:TypeId}
 (Baj:s.vars=[]) (Mx:∀ds:List (DataW H),ds.length=f.params.toList.length→s.fn H ds= {results:=[.lit (.bool true)],args:=ds}) (Uv:f.resultTypes= #[tb]) (hb:P.underlying tb=some .bool)
 (ho:Ai4 P f.params.toList shs=true) (hW:DataW.Whole enc P f.params.toList s.vars false W args.toList ds gs before)
 (hk:∀(b:Nat) (o:Obj),W.heap[b]?=some o→W'.heap[b]?=some o) (hos:W'.os=W.os) (Aae:W'.output=W.output):
 s.post enc P f false fresh handsOn again W args (.bool true) W':=by
 have hW0:=hW;obtain⟨p,q,hA,hV,rfl,hz,hn⟩:=hW;rw[Baj]at hV;have hgs:gs=[]∧q=[]:=by
  cases gs with
  |nil=>exact⟨rfl,hV⟩
  |cons g gs=>exact hV.elim
 obtain⟨rfl,rfl⟩:=hgs;have hlen:ds.length=f.params.toList.length:=by
  have aux:∀(ts:List TypeId) (vs:List Value) (ds:List (DataW H)) (p:List MemPlace),DataW.TrodAll enc P W 0 (fun _=>true) true ts vs ds p→ds.length=ts.length:=by
   intro ts;induction ts with
   |nil=>intro vs ds p h;cases vs<;>cases ds<;>first|rfl|exact h.elim
   |cons t ts ih=>
    intro vs ds p h;cases vs with
    |nil=>cases ds<;>exact h.elim
    |cons v vs=>
     cases ds with
     |nil=>exact h.elim
     |cons d ds=>
      obtain⟨_,_,_,h2,_⟩:=h;simp[ih _ _ _ h2]
  exact aux _ _ _ _ hA
 have Mh:=Mx ds hlen;have Jg:∀sp':Nat→Bool,(∀x∈p,sp' x.block=true)→DataW.TrodAll enc P W' 0 sp' true f.params.toList args.toList ds p:=fun sp' h=>Akp hk ho hA h
 have hold:∀x∈p,x.block<W.heap.size:=fun x hx=>hW0.lt x (E5 _ hx)
 have Dd:∀b,b<W.heap.size→∃o,W.heap[b]?=some o∧W'.heap[b]?=some o:=fun b Dc=>⟨_,Bg Dc,hk b _ (Bg Dc)⟩
 have hr:∀(b:Nat) (sp':Nat→Bool) (hd:Bool),DataW.TrodAll enc P W' b sp' hd f.resultTypes.toList ((Value.bool true).resultList f.resultTypes.size) [.lit (.bool true)] []:=by
  intro b sp' hd;rw[Uv];exact trodAll_cons_mk (shut_bool hb true) trodAll_mk0
 have A99:W.keptBut W' fun _=>False:=by
  refine⟨hos,Aae,fun i hi=>?_⟩
  obtain⟨o,h1,h2⟩:=Dd i hi;rw[h1,h2];cases o<;>simp
 refine⟨ds,[],p++[],[],p,[],hW0,?_,?_,?_,World.keptBut_mono (fun _ h=>h.elim) A99,fun _=>?_⟩
 ·rw[Dk,Mh];exact hr _ _ _
 ·rw[Dk,Mh];exact Jg _ fun x hx=>by simpa using hold x hx
 ·rw[Dk,Mh,Baj];rfl
 ·refine⟨?_,_,[],([]++p)++[],⟨[]++p,[],trodAll_append (Jg _ (fun _ _=>rfl)) (hr 0 _ _),by rw[Baj];rfl,rfl,?_,?_⟩,?_⟩
  ·intro j t r h1 h2;rw[Uv]at h1 h2;cases j with
   |zero=>
    cases h1;have:r= .bool true:=by
     have h3:[Value.bool true][0]?=some r:=h2;simpa using h3.symm
    subst this;exact okWide_bool_mk hb _
   |succ j=>simp at h1
  ·intro b off hp;have hp':MemPlace.cell b off∈p:=by simpa using hp
   have h0:=hz b off (by simpa using hp')
   obtain⟨o,h1,h2⟩:=Dd b (hold _ hp');unfold World.frozen? at h0 ⊢;rw[h2];rw[h1]at h0;exact h0
  ·intro ha;cases ha
  ·intro x hx _;simpa using hx
end

open Go.ChangeShapes Go.Deep Go.WideShapes Go.ChangeAt Go.RowKit
section
variable{H:Type}{enc:TypeId × Value → H}{P:Program}{W:World}
end
set_option maxRecDepth 100000
set_option maxHeartbeats 4000000

open Go.Proofs Go.Lib
abbrev Bsq:Sh:=.st [.str,.str]
abbrev Bnr:Sh:=.st [.str,.str,.bool]
abbrev Bbn:Sh:=.st [.int .i64,.str,.sl 3 Bnr,Bsq,.int .i64,.int .i64]
theorem Bn7{x:I}(h:Fits Bsq x):∃s:Sp,x=s.Ap:=by
 obtain⟨_,rfl,a,_,rfl,⟨f,rfl⟩,b,_,rfl,⟨t,rfl⟩,rfl⟩:=h;exact⟨⟨f,t⟩,rfl⟩
theorem Yp{α:Type}{sh:Sh}{sz:Nat}{f:α→I}(hf:∀x,Fits sh x→∃a,x=f a):∀xs:List I,(∀y∈xs,Fits sh y∧y.size=sz)→∃l:List α,xs=l.map f
 | [],_=>⟨[],rfl⟩
 |y::ys,h=>by
  obtain⟨l,rfl⟩:=Yp hf ys fun z hz=>h z (Au _ hz)
  obtain⟨s,rfl⟩:=hf y (h y (Ar ..)).1;exact⟨s::l,rfl⟩
theorem Avy{W w:World}(hw:∀b o,Lb W b=some o→w.heap[b]?=some o){a:Addr}{v:Value}(h:W.cell? a=some v):w.cell? a=some v:=by
 unfold World.cell? at h ⊢;cases hb:W.heap[a.block]? with
 |none=>rw[hb]at h;cases h
 |some o=>rw[hw a.block o hb, ←hb];exact h
theorem Bau:Go.Proofs.YtkpojedpcabojaaGreatDoor.Rows.laid_unicode_utf8_first=firstData:=Pinned.utf8First_eq
theorem A59:(Go.Proofs.YtkpojedpcabojaaGreatDoor.Rows.laid_unicode_utf8_acceptRanges:DataW Unit)=acceptData:=by kernel_rfl
abbrev Yt:List (String × DataW Unit):=[("unicode/utf8.acceptRanges",Go.Proofs.YtkpojedpcabojaaGreatDoor.Rows.laid_unicode_utf8_acceptRanges),("unicode/utf8.first",Go.Proofs.YtkpojedpcabojaaGreatDoor.Rows.laid_unicode_utf8_first)]
theorem Bhg{W:World}(hL:laidMetH Tryz.prog Yt W):Amb.p (Lb W):=by
 rw[MakeChecks.laidMetH_plain _ _ _ (by kernel_rfl)]at hL
 have hT:Lib.Utf8Tabs 0 1 W:=utf8Tabs_of_readsT {t5:=A08.t5,t119:=A08.t119,t138:=A08.t138,t139:=A08.t139} ⟨by kernel_rfl,by kernel_rfl,by kernel_rfl,by kernel_rfl,by kernel_rfl,by kernel_rfl,by kernel_rfl⟩
  (Bau ▸ Lib.laidMet.reads hL (.tail _ (.head _))) (A59 ▸ Lib.laidMet.reads hL (.head _))
 exact fun w hw=>⟨fun c hc=>Avy hw (hT.1 c hc),fun i hi=>⟨Avy hw (hT.2 i hi).1,Avy hw (hT.2 i hi).2⟩⟩

theorem Bhz{x:I}(h:Fits Bnr x):∃c:Ce,x=c.Ap:=by
 obtain⟨_,rfl,a,_,rfl,⟨k,rfl⟩,b,_,rfl,⟨v,rfl⟩,c,_,rfl,⟨g,rfl⟩,rfl⟩:=h;exact⟨⟨k,v,g⟩,rfl⟩
theorem Bh0{x:I}(h:Fits Bbn x):∃o:K6,x=o.Ap:=by
 obtain⟨_,rfl,x1,_,rfl,⟨v1,rfl,_⟩,x2,_,rfl,⟨v2,rfl⟩,x3,_,rfl,⟨xs,rfl,Sc⟩,x4,_,rfl,h4,x5,_,rfl,⟨v5,rfl,_⟩,x6,_,rfl,⟨v6,rfl,_⟩,rfl⟩:=h;obtain⟨s,rfl⟩:=Bn7 h4;obtain⟨cl,rfl⟩:=Yp (fun x hx=>Bhz hx) xs Sc
 exact⟨⟨v1,v2,cl,s,v5,v6⟩,rfl⟩
theorem Bh1{x:I}(h:Fits (.sl 7 Bbn) x):∃l:List K6,x= .list (l.map K6.Ap):=by
 obtain⟨xs,rfl,Sc⟩:=h;obtain⟨l,rfl⟩:=Yp (fun x hx=>Bh0 hx) xs Sc
 exact⟨l,rfl⟩

open Go.ChangeShapes Go.Deep Go.WideShapes Go.ChangeAt Go.RowKit
section
variable{H:Type}{enc:TypeId × Value → H}{P:Program}{W:World}
end

open Go.ChangeShapes Go.Deep Go.WideShapes Go.ChangeAt Go.RowKit
mutual
def Lim(P:Program)(B:Nat):Sh→TypeId→I→Prop
 | .st l,t,y=>∃ys,y= .agg ys∧∀fs,P.underlying t=some (.struct fs)→Avv P B l (fs.toList.map (·.type)) ys
 | .sl _ e,t,y=>∃xs,y= .list xs∧∀e',P.underlying t=some (.slice e')→xs.length*P.bytesOf e'≤B∧∀z∈xs,Lim P B e e' z
 | .int _,_,_=>True
 | .bool,_,_=>True
 | .str,_,_=>True
 | .ar _ _ _,_,_=>True
def Avv(P:Program)(B:Nat):List Sh→List TypeId→List I→Prop
 |s::l,t::ts,y::ys=>Lim P B s t y∧Avv P B l ts ys
 |_,_,_=>True
end
section
variable{H:Type}{enc:TypeId × Value → H}{P:Program}{w W:World}{base:Nat}{sp:Nat → Bool}{held:Bool}{B:Nat}
theorem A5f{n:Nat}{e:TypeId}{d:DataW H}:∀{l:List (DataW H)},d∈l→n∈d.weights P e→n∈DataW.weightsAll P e l
 |x::l,h,hn=>by
  simp only[DataW.weightsAll,Aj];rcases Ah.1 h with rfl|h
  ·exact .inl hn
  ·exact .inr (A5f h hn)
mutual
theorem Abi:∀(sh:Sh) {t:TypeId} {fuel:Nat} {cs:List Value} {x:DataW H × List MemPlace},sh.ok P t=true→DataW.trod enc P w base (fun _=>sp 0) held fuel t cs=some x→
 ∃y,Bi (Lb w) y cs∧Fits sh y∧((∀n∈x.1.weights P t,n≤B)→Lim P B sh t y)
 | .int k,t,fuel,cs,x,ho,h=>by
   simp only[Sh.ok]at ho;split at ho
   ·rename_i k' ht;rw[beq_iff_eq]at ho;subst ho;obtain⟨n,rfl,_,hw⟩:=DataW.trod_int ht h;exact⟨.int k n,by simp[Bi],⟨n,rfl,hw⟩,fun _=>trivial⟩
   ·cases ho
 | .bool,t,fuel,cs,x,ho,h=>by
   simp only[Sh.ok]at ho;split at ho
   ·rename_i ht;obtain⟨b,rfl,_⟩:=DataW.trod_bool ht h;exact⟨.bool b,by simp[Bi],⟨b,rfl⟩,fun _=>trivial⟩
   ·cases ho
 | .str,t,fuel,cs,x,ho,h=>by
   simp only[Sh.ok]at ho;split at ho
   ·rename_i ht;obtain⟨s,rfl,_,hs⟩:=DataW.trod_string ht h;obtain⟨⟨s⟩⟩:=s;exact⟨.str s,by simp only[Bi];exact⟨trivial,hs⟩,⟨s,rfl⟩,fun _=>trivial⟩
   ·cases ho
 | .st l,t,fuel,cs,x,ho,h=>by
   simp only[Sh.ok]at ho;split at ho
   ·rename_i fs ht;cases fuel with
    |zero=>simp[DataW.trod]at h
    |succ fuel=>
     simp only[DataW.trod,ht]at h;split at h
     ·rename_i hl;obtain⟨xs,h1,Sc⟩:=Eg.1 h;subst Sc;obtain⟨ys,h2,h3,h4⟩:=Aqp l (off:=0) ho h1;refine⟨.agg ys,?_,⟨ys,rfl,h3⟩,fun hB=>⟨ys,rfl,fun fs' hfs=>?_⟩⟩
      rotate_left
      ·rw[ht]at hfs;cases hfs;simp only[DataW.weights,ht]at hB;exact h4 hB
      simp only[Bi];simpa[←hl]using h2
     ·cases h
   ·cases ho
 | .sl sz e,t,fuel,cs,x,ho,h=>by
   simp only[Sh.ok]at ho;split at ho
   ·rename_i e' ht;simp only[Ad,beq_iff_eq,bne_iff_ne,ne_eq]at ho;obtain⟨⟨Cq,hz⟩,he⟩:=ho;rcases open_slice ht h with⟨rfl,_⟩|⟨a,len,cap,m,n,D,Pl,rfl,_,Tg,Zq,hm,hxd,hx⟩
    ·exact⟨.list [],by simp only[Bi];exact⟨none,0,rfl,Ay _,A3 _,.inl trivial⟩,⟨[],rfl,by simp⟩,fun _=>⟨[],rfl,by simp⟩⟩
    ·by_cases h0:len=0
     ·subst h0;exact⟨.list [],by simp only[Bi];exact⟨some a,cap,rfl,A3 _,Zq,.inl trivial⟩,⟨[],rfl,by simp⟩,fun _=>⟨[],rfl,by simp⟩⟩
     ·have hmm:len≤m:=by subst hm;split<;>omega
      have hwt:(∀n∈x.1.weights P t,n≤B)→len*P.bytesOf e'≤B∧∀i,i<len→∀n∈(D i).weights P e',n≤B:=by
       intro hB;rw[hxd]at hB;simp only[DataW.weights,ht,Ah,Aj]at hB;refine⟨C2 (C7 _ ?_) (hB _ (.inl rfl)),fun i hi n hn=>hB n (.inr (.inl (A5f (Cs.2 ⟨i,Eb.2 hi,rfl⟩) hn)))⟩
       rw[An,List.length_range];omega
      have Kc:∀i,i<len→∃Jw y,w.cells? base (a.add (i*sz)) sz=some Jw∧Bi (Lb w) y Jw∧(Fits e y∧y.size=sz)∧((∀n∈x.1.weights P t,n≤B)→Lim P B e e' y):=by
       intro i hi;obtain⟨Jw,g1,g2⟩:=hx i (by omega)
       obtain⟨y,g3,g4,g5⟩:=Abi e he g2;rw[Cq]at g1;have hlen:=(World.cells?_some g1).2.1;exact⟨Jw,y,g1,g3,⟨g4,by rw[←Bi.length _ _ g3,hlen]⟩,fun hB=>g5 ((hwt hB).2 i hi)⟩
      obtain⟨cs0,_,c1,_⟩:=Kc 0 (by omega)
      rw[Nat.zero_mul,show a.add 0=a by simp[Addr.add]]at c1
      obtain⟨bl,ty,fz,ha,hb,hs0,_⟩:=Ad4 c1 (by omega)
      have Dd:∀i,i<len→a.off+i*sz+sz≤bl.size∧∃y,Bi (Lb w) y (((bl.toList.drop a.off).drop (i*sz)).take sz)∧(Fits e y∧y.size=sz)∧((∀n∈x.1.weights P t,n≤B)→Lim P B e e' y):=by
       intro i hi;obtain⟨Jw,y,g1,g2,g3,g4⟩:=Kc i hi;obtain⟨bl',ty',fz',k1,k2,k3,k4⟩:=Ad4 g1 (by omega)
       have e1:(a.add (i*sz)).block=a.block:=by unfold Addr.add;split<;>rfl
       have e2:(a.add (i*sz)).off=a.off+i*sz:=by unfold Addr.add;split<;>rename_i hh<;>simp[hh]
       rw[e1,hb]at k2;cases k2;rw[e2]at k3 k4;refine⟨k3,y,?_,g3,g4⟩;rw[List.drop_drop,k4];exact g2
      have Y6:=(Dd (len - 1) (by omega)).1
      have hmul:(len - 1)*sz+sz=len*sz:=by
       obtain⟨q,rfl⟩:∃q,len=q+1:=⟨len - 1,by omega⟩
       rw[F8,F9,Nat.one_mul]
      obtain⟨xs,x1,x2,x3⟩:=B4.Ag3 (G:=Lb w) (sz:=sz) (n:=len) (cells:=bl.toList.drop a.off) (p:=fun y=>(Fits e y∧y.size=sz)∧((∀n∈x.1.weights P t,n≤B)→Lim P B e e' y)) (by simp;omega) fun i hi=>(Dd i hi).2
      refine⟨.list xs,?_,⟨xs,rfl,fun y hy=>(x3 y hy).1⟩,fun hB=>⟨xs,rfl,fun e'' Bqf=>?_⟩⟩
      rotate_left
      ·rw[ht]at Bqf;cases Bqf;exact⟨by rw[x1];exact(hwt hB).1,fun z hz=>(x3 z hz).2 hB⟩
      simp only[Bi];refine⟨some a,cap,by rw[x1],by omega,Zq,.inr ⟨a.block,a.off,bl,ty,fz,sz,by rw[←ha],hb,fun y hy=>(x3 y hy).1.2,by rw[x1];omega,by rw[x1];exact x2⟩⟩
   ·cases ho
 | .ar sz n e,t,fuel,cs,x,ho,h=>by
   simp only[Sh.ok]at ho;split at ho
   ·rename_i m e' ht;simp only[Ad,beq_iff_eq]at ho;obtain⟨⟨⟨Cq,rfl⟩,Bi7⟩,he⟩:=ho;obtain⟨xs,fu,rfl,_,hl,hxl,hx⟩:=DataW.trod_array ht h;rw[Bi7]at hl;rw[Cq]at hx;obtain⟨ys,y1,y2,y3⟩:=B4.Ag3 (G:=Lb w) (sz:=sz) (n:=m) (cells:=cs) (p:=fun y=>Fits e y∧y.size=sz) (by omega) fun i hi=>by
     obtain⟨d,hd⟩:∃d,xs[i]?=some d:=⟨_,Ac (by omega)⟩
     have h1:=hx i hi;rw[hd]at h1;obtain⟨y,g1,g2,_⟩:=Abi e he h1;refine⟨y,g1,g2,?_⟩;rw[←Bi.length _ _ g1,Ck,Br];have:(i+1)*sz≤m*sz:=C7 _ (by omega)
     rw[F9,Nat.one_mul]at this;omega
    refine⟨.arr sz ys,?_,⟨ys,rfl,y1,y3⟩,fun _=>trivial⟩
    rw[C9 (by omega)]at y2
    simp only[Bi];exact⟨y2,fun y hy=>(y3 y hy).2⟩
   ·cases ho
theorem Aqp:∀(l:List Sh) {fs:List Field} {off T4 fuel:Nat} {cs:List Value} {xs:List (DataW H × List MemPlace)},Sh.Ri P off T4 fs l=true→
 (fs.mapM fun f=>DataW.trod enc P w base (fun _=>sp 0) held fuel f.type ((cs.drop f.offset).take (P.cellsOf f.type)))=some xs→∃ys,B4 (Lb w) ys ((cs.take T4).drop off)∧Asi l ys∧((∀n∈DataW.weightsEach P (fs.map (·.type)) (xs.map (·.1)),n≤B)→Avv P B l (fs.map (·.type)) ys)
 | [],fs,off,T4,fuel,cs,xs,ho,h=>by
   cases fs with
   |nil=>
    simp only[Sh.Ri,beq_iff_eq]at ho;subst ho;exact⟨[],by simp[B4],rfl,fun _=>trivial⟩
   |cons f fs=>simp[Sh.Ri]at ho
 |s::l,fs,off,T4,fuel,cs,xs,ho,h=>by
  cases fs with
  |nil=>simp[Sh.Ri]at ho
  |cons f fs=>
   simp only[Sh.Ri,Ad,beq_iff_eq]at ho;obtain⟨⟨rfl,h1⟩,h2⟩:=ho;simp only[List.mapM_cons]at h;obtain⟨y,g1,g2⟩:=Ey.1 h;obtain⟨z,g3,g4⟩:=Ey.1 g2;obtain rfl:y::z=xs:=Cy g4;obtain⟨u,g5,g6,g9⟩:=Abi s h1 g1;obtain⟨us,g7,g8,g10⟩:=Aqp l (cs:=cs) h2 g3;refine⟨u::us,?_,⟨u,us,rfl,g6,g8⟩,fun hB=>?_⟩
   rotate_left
   ·simp only[A0,DataW.weightsEach,Aj]at hB;exact⟨g9 fun n hn=>hB n (.inl hn),g10 fun n hn=>hB n (.inr hn)⟩
   simp only[B4];have hle:=A3o h2;refine⟨_,_,?_,g5,g7⟩;have e1:(cs.drop f.offset).take (P.cellsOf f.type)=((cs.take T4).drop f.offset).take (P.cellsOf f.type):=by
    rw[List.drop_take,List.take_take,Da (by omega)]
   rw[e1, ←List.drop_drop,B3]
end
theorem Ahf{b0:Nat}:∀{shs:List Sh} {ts:List TypeId} {vs:List Value} {ds:List (DataW H)} {p:List MemPlace},Ai4 P ts shs=true→DataW.TrodAll enc P W 0 (fun _=>true) true ts vs ds p→
 (∀(j:Nat) t v,ts[j]?=some t→vs[j]?=some v→Value.okWide P W .any b0 t v)→∃xs:List I,(Asi shs xs∧((∀n∈DataW.weightsEach P ts ds,n≤B)→Avv P B shs ts xs))∧xs.length=vs.length∧∀(i:Nat) x v,xs[i]?=some x→vs[i]?=some v→Bb (Lb W) x v
 | [],[],[],[],p,_,_,_=>⟨[],⟨rfl,fun _=>trivial⟩,rfl,by simp⟩
 |s::shs,t::ts,v::vs,d::ds,p,ho,h,hv=>by
  simp only[Ai4,Ad]at ho;obtain⟨p1,q,⟨fuel,h1⟩,h2,_⟩:=h;obtain⟨x,g1,g2,g6⟩:=Abi (B:=B) (sp:=fun _=>true) s ho.1 h1
  obtain⟨xs,⟨g3,g7⟩,g4,g5⟩:=Ahf ho.2 h2 fun j t' v' a b=>hv (j+1) t' v' a b
  refine⟨x::xs,⟨⟨x,xs,rfl,g2,g3⟩,fun hB=>?_⟩,by simp[g4],?_⟩
  ·simp only[DataW.weightsEach,Aj]at hB;exact⟨g6 fun n hn=>hB n (.inl hn),g7 fun n hn=>hB n (.inr hn)⟩
  intro i x' v' a b;cases i with
  |zero=>cases a;cases b;exact Bj4 ho.1 (hv 0 t v rfl rfl) g1 g2
  |succ i=>exact g5 i x' v' a b
 | [],_::_,_,_,_,ho,_,_=>by cases ho
 |_::_,[],_,_,_,ho,_,_=>by simp[Ai4]at ho
 | [],[],_::_,_,_,_,h,_=>by simp[DataW.TrodAll]at h
 | [],[],[],_::_,_,_,h,_=>by simp[DataW.TrodAll]at h
 |_::_,_::_,[],_,_,_,h,_=>by simp[DataW.TrodAll]at h
 |_::_,_::_,_::_,[],_,_,h,_=>by simp[DataW.TrodAll]at h
end

open Go.Proofs
abbrev Bbo:Sh:=.st [.int .i64,.int .i64,.str,.bool]
abbrev Bka:Sh:=.st [.str,.sl 4 Bbo]
abbrev Au2:Sh:=.st [.str,.int .i64,.int .i64,.sl 2 Bka]
theorem Bh3{x:I}(h:Fits Bbo x):∃v:Bt,x=v.Ap:=by
 obtain⟨_,rfl,a,_,rfl,⟨r,rfl,_⟩,b,_,rfl,⟨m,rfl,_⟩,c,_,rfl,⟨s,rfl⟩,d,_,rfl,⟨g,rfl⟩,rfl⟩:=h;exact⟨⟨r,m,s,g⟩,rfl⟩
theorem Bn6{x:I}(h:Fits Bka x):∃v:Kv,x=v.Ap:=by
 obtain⟨_,rfl,a,_,rfl,⟨k,rfl⟩,b,_,rfl,⟨xs,rfl,Sc⟩,rfl⟩:=h;obtain⟨l,rfl⟩:=Yp (fun x hx=>Bh3 hx) xs Sc
 exact⟨⟨k,l⟩,rfl⟩
theorem Bh2{x:I}(h:Fits Au2 x):∃v:Cv,x=v.Ap:=by
 obtain⟨_,rfl,a,_,rfl,⟨n,rfl⟩,b,_,rfl,⟨r,rfl,_⟩,c,_,rfl,⟨f,rfl,_⟩,d,_,rfl,⟨xs,rfl,Sc⟩,rfl⟩:=h;obtain⟨l,rfl⟩:=Yp (fun x hx=>Bn6 hx) xs Sc
 exact⟨⟨n,r,f,l⟩,rfl⟩
theorem Bdv{x:I}(h:Fits (.sl 4 Au2) x):∃l:List Cv,x= .list (l.map Cv.Ap):=by
 obtain⟨xs,rfl,Sc⟩:=h;obtain⟨l,rfl⟩:=Yp (fun x hx=>Bh2 hx) xs Sc
 exact⟨l,rfl⟩
theorem A3g{B:Nat}{l:List Cv}(h:Lim Tryz.prog B (.sl 4 Au2) 44 (.list (l.map Cv.Ap))):∀p∈l,p.keys.length≤B∧∀h∈p.keys,h.vs.length≤B:=by
 have b1:1≤Tryz.prog.bytesOf 55:=by decide+kernel
 have b2:1≤Tryz.prog.bytesOf 104:=by decide+kernel
 intro p hp;simp only[Lim]at h;obtain⟨xs,hx,h⟩:=h;obtain rfl:=I.list.inj hx;have h1:=(h _ Tryz.underlying44).2 p.Ap (Cs.2 ⟨p,hp,rfl⟩);obtain⟨ys,hy,h1⟩:=h1;obtain rfl:=I.agg.inj hy;have h2:=h1 _ Tryz.underlying52;simp only[List.map,Avv]at h2;have h3:Lim Tryz.prog B (.sl 2 Bka) 50 (.list (p.keys.map Kv.Ap)):=h2.2.2.2.1;obtain⟨zs,hz,h3⟩:=h3;obtain rfl:=I.list.inj hz;obtain⟨h4,h5⟩:=h3 _ Tryz.underlying50;rw[An]at h4;refine⟨C2 (Nat.le_mul_of_pos_right _ b1) h4,fun k hk=>?_⟩
 obtain⟨us,hu,h6⟩:=h5 k.Ap (Cs.2 ⟨k,hk,rfl⟩);obtain rfl:=I.agg.inj hu;have h7:=h6 _ Tryz.underlying55;simp only[List.map,Avv]at h7;have h8:Lim Tryz.prog B (.sl 4 Bbo) 53 (.list (k.vs.map Bt.Ap)):=h7.2.1;obtain⟨ws,hw,h8⟩:=h8;obtain rfl:=I.list.inj hw;have h9:=(h8 _ Tryz.underlying53).1;rw[An]at h9;exact C2 (Nat.le_mul_of_pos_right _ b2) h9
open Go.ChangeShapes Go.Deep Go.WideShapes Go.ChangeAt Go.RowKit in
theorem Adh{H:Type}{enc:TypeId × Value→H}{P:Program}{W:World}{sp:Nat→Bool}{b n:Nat}{more:List TypeId}{gs:List (DataW H)}:∀{ts:List TypeId} {vs:List Value} {ds:List (DataW H)} {p:List MemPlace},
 DataW.TrodAll enc P W b sp true ts vs ds p→n∈DataW.weightsEach P ts ds→n∈DataW.weightsEach P (ts++more) (ds++gs)
 | [],[],[],_,_,hn=>by simp[DataW.weightsEach]at hn
 |t::ts,v::vs,d::ds,p,h,hn=>by
  obtain⟨p1,q,_,h2,_⟩:=h;simp only[C4,DataW.weightsEach,Aj]at hn ⊢;exact hn.imp id (Adh h2)

open Go.Proofs Go.Proofs.YtkpojedpcabojaaGreatDoor
open Go.ChangeShapes Go.WideShapes Go.ChangeAt Go.RowKit
theorem Aw0:ownKnob Tryz.prog.godebug=none:=by kernel_rfl
theorem Ak3(H:Type)(enc:TypeId × Value→H)(W:World)(base:Nat)(args:Array Value)(ds gs:List (DataW H))(before:List MemPlace)
 (L2:∀(j:Nat) t v,Tryz.f4.params[j]?=some t→args[j]?=some v→Value.okWide Tryz.prog W .any base t v)
 (hW:DataW.Whole enc Tryz.prog Tryz.f4.params.toList Rows.storeMakesSpec.vars false W args.toList ds gs before) (Cq:(DataW.weightsEach Tryz.prog (Tryz.f4.params.toList++Rows.storeMakesSpec.plain.varTypes Tryz.prog) (ds++gs)).all (· ≤reachBytes)=true) (hL:laidMetH Tryz.prog Yt W):
 Calls Tryz.prog 4 args W fun e W'=>∃v,e= .returned v∧Rows.storeMakesSpec.post enc Tryz.prog Tryz.f4 false true false false W args v W':=by
 have hW0:=hW;obtain⟨p,q,hA,_⟩:=hW;have ho:Ai4 Tryz.prog Tryz.f4.params.toList [.sl 4 Au2,.sl 7 Bbn]=true:=by kernel_rfl
 obtain⟨xs,h1,h2,h3⟩:=Ahf (B:=reachBytes) ho hA fun j t v a b=>L2 j t v (by simpa using a) (by simpa using b)
 obtain⟨⟨x,_,rfl,hx,y,_,rfl,hy,rfl⟩,hB⟩:=h1;obtain⟨l,rfl⟩:=Bdv hx;obtain⟨ops,rfl⟩:=Bh1 hy;have hw:∀n∈DataW.weightsEach Tryz.prog Tryz.f4.params.toList ds,n≤reachBytes:=fun n hn=>of_decide_eq_true (Ew.1 Cq n (Adh hA hn))
 have hLm:=hB hw;rw[Tryz.params4]at hLm;have Bv8:Lng l:=fun p hp=>⟨C2 (A3g hLm.1 p hp).1 (by decide),fun h hh=>C2 ((A3g hLm.1 p hp).2 h hh) (by decide)⟩
 refine(Bjj h2 h3 (Bfs l ops Bv8) (Bhg hL)).mono ?_;rintro e W' ⟨rfl,hk,hos,Aae,_⟩;refine⟨_,rfl,Bjk (shs:=[.sl 4 Au2,.sl 7 Bbn]) (tb:=4) rfl ?_ rfl Tryz.underlying4 ho hW0 hk hos Aae⟩;intro ds hds
 match ds,hds with
 | [d0,d1],_=>rfl
theorem Apn(os:Os)(started:os.Started)(H:Type)(enc:TypeId × Value→H):
 ReturnsInHanded {} Tryz.checked os 4 .any (fun w args=>(Rows.storeMakesSpec.pre enc Tryz.prog Tryz.f4 [] false w args∧laidMetH Tryz.prog Yt w)∧sizedMet enc Tryz.prog Tryz.f4 (OpenSpec.ofChange Rows.storeMakesSpec) false w args)
  (Rows.storeMakesSpec.post enc Tryz.prog Tryz.f4 false true false false):=by
 refine returnsInHanded_of_change_and (C:=Tryz.checked) (X:=fun w _=>laidMetH Tryz.prog Yt w) (fun _ _ _ hh h=>h.of_heap hh) Aw0 started (by kernel_rfl) Tryz.func4
  (ChangeSpec.witness_shaped (enc:=enc) (C:=Tryz.checked) (os:=os) (X:=fun w _=>laidMetH Tryz.prog Yt w) false (World.laidAll Tryz.prog os Yt) #[.slice none 0 0,.slice none 0 0] 8 (World.laidAll_os _ _ _)
    (World.shaped_of_ZipB (by kernel_rfl) (by kernel_rfl)) (by kernel_rfl) (by kernel_rfl) (by kernel_rfl)
    (by rw[MakeChecks.laidMetH_plain _ _ _ (by kernel_rfl)];exact laidMet_laidAll _ (by kernel_rfl) (by kernel_rfl))) ?_
 intro W base args ds gs before Bto hW _ Cq hL _;exact Ak3 H enc W base args ds gs before Bto hW Cq hL
theorem Avb:Rows.StoreMakesSaid:=
 OpenClaim.holds_of_wide 4 Tryz.f4 rfl rfl rfl rfl rfl rfl rfl ⟨rfl,rfl,rfl,rfl,rfl⟩ rfl rfl rfl rfl rfl (by kernel_rfl) Tryz.func4 (by kernel_rfl)
  (of_decide_eq_true (by kernel_rfl)) (by unfold Func.isWrapper;first|(rw[if_pos (by decide+kernel)];kernel_rfl)|(rw[if_neg (by decide+kernel)];exact⟨rfl,rfl⟩))
  (fun os started H enc _=>Apn os started H enc)
end Go.Ab
