/- Lemmas -/
import Derived.Test.YtkpojedpcabojaaDoorAb21
import Derived.Deep.Slices
import Derived.ChangeSame
import Derived.ChangeArms
import Derived.ProofKit
import Derived.OpenShut
set_option linter.unusedVariables false
set_option linter.unusedSimpArgs false
namespace Go.Ab
open Go.ChangeShapes Go.Deep
inductive Sh where
 |int (k:IntKind)
 |bool
 |str
 |st (l:List Sh)
 |sl (sz:Nat) (e:Sh)
 |ar (sz n:Nat) (e:Sh)
 deriving Inhabited
mutual
def Sh.ok(P:Program):TypeId→Sh→Bool
 |t,.int k=>match P.underlying t with
  |some (.int k')=>k==k'
  |_=>false
 |t,.bool=>match P.underlying t with
  |some .bool=>true
  |_=>false
 |t,.str=>match P.underlying t with
  |some .string=>true
  |_=>false
 |t,.st l=>match P.underlying t with
  |some (.struct fs)=>Sh.oks P 0 (P.cellsOf t) fs.toList l
  |_=>false
 |t,.sl sz e=>match P.underlying t with
  |some (.slice e')=>P.cellsOf e'==sz&&sz != 0&&Sh.ok P e' e
  |_=>false
 |t,.ar sz n e=>match P.underlying t with
  |some (.array m e')=>P.cellsOf e'==sz&&m==n&&P.cellsOf t==n*sz&&Sh.ok P e' e
  |_=>false
def Sh.oks(P:Program):Nat→Nat→List Field→List Sh→Bool
 |off,tot,[],[]=>off==tot
 |off,tot,f::fs,s::l=>f.offset==off&&Sh.ok P f.type s&&Sh.oks P (off+P.cellsOf f.type) tot fs l
 |_,_,_,_=>false
end
mutual
def Fits:Sh→I→Prop
 | .int k,x=>∃n,x= .int k n∧(Lit.int k n).wf=true
 | .bool,x=>∃b,x= .bool b
 | .str,x=>∃s,x= .str s
 | .st l,x=>∃xs,x= .agg xs∧A9v l xs
 | .sl sz e,x=>∃xs,x= .list xs∧∀y∈xs,Fits e y∧y.size=sz
 | .ar sz n e,x=>∃xs,x= .arr sz xs∧xs.length=n∧∀y∈xs,Fits e y∧y.size=sz
def A9v:List Sh→List I→Prop
 | [],xs=>xs=[]
 |s::l,xs=>∃y ys,xs=y::ys∧Fits s y∧A9v l ys
end
def De(w:World):Mem:=fun b=>w.heap[b]?
section
variable{H:Type}{enc:TypeId × Value → H}{P:Program}{w:World}{base:Nat}{sp:Nat → Bool}{held:Bool}
theorem Su{a:Addr}{n:Nat}{cs:List Value}(h:w.cells? base a n=some cs)(h0:0<n):∃bl ty fz,a=⟨a.block,a.off,none⟩∧w.heap[a.block]?=some (.cells bl ty fz)∧a.off+n≤bl.size∧(bl.toList.drop a.off).take n=cs:=by
 obtain⟨_,hl,hc⟩:=World.cells?_some h;have Avj:∀i,i<n→∃v,w.cell? (a.add i)=some v:=fun i hi=>⟨cs[i]'(by omega),by rw[hc i hi,Ae]⟩
 obtain⟨v,hv⟩:=Avj 0 h0;unfold World.cell? at hv;rw[show a.add 0=a from by simp[Addr.add]]at hv
 split at hv
 ·rename_i bl ty fz hb;split at hv
  ·cases hv
  ·rename_i hs;have Aug:a.spot=none:=by cases hsp:a.spot<;>simp[hsp]at hs ⊢
   have A79:∀i,w.cell? (a.add i)=bl[a.off+i]?:=by
    intro i;unfold World.cell? Addr.add;by_cases hi:i=0
    ·simp[hi,hb,Aug]
    ·simp[hi,hb]
   have Hr:a.off+n≤bl.size:=by
    obtain⟨v',hv'⟩:=Avj (n - 1) (by omega)
    rw[A79]at hv';have:=(Ht.1 hv').1;omega
   refine⟨bl,ty,fz,?_,hb,Hr,?_⟩
   ·cases a;simp at Aug;simp[Aug]
   ·apply List.ext_getElem?;intro i;by_cases hi:i<n
    ·rw[Am5,if_pos hi,Ae3, ←hc i hi,A79];simp
    ·rw[Aic (by simp;omega),Aic (by omega)]
 ·cases hv
theorem F9.A8h{G:Mem}{sz:Nat}:∀{n:Nat} {cells:List Value} {p:I→Prop},n*sz≤cells.length→(∀i,i<n→∃x,D8 G x ((cells.drop (i*sz)).take sz)∧p x)→∃xs,xs.length=n∧F9 G xs (cells.take (n*sz))∧∀x∈xs,p x
 |0,cells,p,_,_=>⟨[],rfl,by simp[F9],by simp⟩
 |n+1,cells,p,hl,h=>by
  have hm:(n+1)*sz=sz+n*sz:=by rw[Aj7];omega
  obtain⟨x,h1,h2⟩:=h 0 (by omega)
  simp only[Nat.zero_mul,List.drop_zero]at h1;obtain⟨xs,h3,h4,h5⟩:=F9.A8h (sz:=sz) (n:=n) (cells:=cells.drop sz) (p:=p) (by rw[Ei];omega) fun i hi=>by
   obtain⟨y,g1,g2⟩:=h (i+1) (by omega)
   refine⟨y,?_,g2⟩;rw[List.drop_drop,show sz+i*sz=(i+1)*sz by rw[Aj7];omega]
   exact g1
  refine⟨x::xs,by simp[h3],?_,?_⟩
  ·rw[hm,List.take_add];simp only[F9];exact⟨_,_,rfl,h1,h4⟩
  ·intro y hy;rcases List.mem_cons.mp hy with rfl|hy
   ·exact h2
   ·exact h5 y hy
theorem Ab4:∀{l:List Sh} {fs:List Field} {off tot:Nat},Sh.oks P off tot fs l=true→off≤tot
 | [],[],_,_,h=>by simp only[Sh.oks,beq_iff_eq]at h;omega
 |s::l,f::fs,off,tot,h=>by
  simp only[Sh.oks,Ap]at h;have:=Ab4 h.2;omega
 | [],_::_,_,_,h=>by simp[Sh.oks]at h
 |_::_,[],_,_,h=>by simp[Sh.oks]at h
mutual
theorem A1n:∀(sh:Sh) {t:TypeId} {fuel:Nat} {cs:List Value} {x:DataW H × List MemPlace},sh.ok P t=true→DataW.trod enc P w base (fun _=>sp 0) held fuel t cs=some x→
 ∃y,D8 (De w) y cs∧Fits sh y
 | .int k,t,fuel,cs,x,ho,h=>by
   simp only[Sh.ok]at ho;split at ho
   ·rename_i k' ht;rw[beq_iff_eq]at ho;subst ho;obtain⟨n,rfl,_,hw⟩:=DataW.trod_int ht h;exact⟨.int k n,by simp[D8],n,rfl,hw⟩
   ·cases ho
 | .bool,t,fuel,cs,x,ho,h=>by
   simp only[Sh.ok]at ho;split at ho
   ·rename_i ht;obtain⟨b,rfl,_⟩:=DataW.trod_bool ht h;exact⟨.bool b,by simp[D8],b,rfl⟩
   ·cases ho
 | .str,t,fuel,cs,x,ho,h=>by
   simp only[Sh.ok]at ho;split at ho
   ·rename_i ht;obtain⟨s,rfl,_,hs⟩:=DataW.trod_string ht h;obtain⟨⟨s⟩⟩:=s;exact⟨.str s,by simp only[D8];exact⟨trivial,hs⟩,s,rfl⟩
   ·cases ho
 | .st l,t,fuel,cs,x,ho,h=>by
   simp only[Sh.ok]at ho;split at ho
   ·rename_i fs ht;cases fuel with
    |zero=>simp[DataW.trod]at h
    |succ fuel=>
     simp only[DataW.trod,ht]at h;split at h
     ·rename_i hl;obtain⟨xs,h1,_⟩:=Ad7.1 h;obtain⟨ys,h2,h3⟩:=A7y l (off:=0) ho h1;refine⟨.agg ys,?_,ys,rfl,h3⟩;simp only[D8];simpa[←hl]using h2
     ·cases h
   ·cases ho
 | .sl sz e,t,fuel,cs,x,ho,h=>by
   simp only[Sh.ok]at ho;split at ho
   ·rename_i e' ht;simp only[Ap,beq_iff_eq,bne_iff_ne,ne_eq]at ho;obtain⟨⟨Hr,hz⟩,he⟩:=ho;rcases open_slice ht h with⟨rfl,_⟩|⟨a,len,cap,m,n,D,Pl,rfl,_,hlc,hcm,hm,_,hx⟩
    ·exact⟨.list [],by simp only[D8];exact⟨none,0,rfl,Bz _,Cr _,.inl trivial⟩,[],rfl,by simp⟩
    ·by_cases h0:len=0
     ·subst h0;exact⟨.list [],by simp only[D8];exact⟨some a,cap,rfl,Cr _,hcm,.inl trivial⟩,[],rfl,by simp⟩
     ·have hmm:len≤m:=by subst hm;split<;>omega
      have Ars:∀i,i<len→∃cs' y,w.cells? base (a.add (i*sz)) sz=some cs'∧D8 (De w) y cs'∧Fits e y∧y.size=sz:=by
       intro i hi;obtain⟨cs',g1,g2⟩:=hx i (by omega)
       obtain⟨y,g3,g4⟩:=A1n e he g2;rw[Hr]at g1;have hlen:=(World.cells?_some g1).2.1;exact⟨cs',y,g1,g3,g4,by rw[←D8.length _ _ g3,hlen]⟩
      obtain⟨cs0,_,c1,_⟩:=Ars 0 (by omega)
      rw[Nat.zero_mul,show a.add 0=a by simp[Addr.add]]at c1
      obtain⟨bl,ty,fz,ha,hb,hs0,_⟩:=Su c1 (by omega)
      have hat:∀i,i<len→a.off+i*sz+sz≤bl.size∧∃y,D8 (De w) y (((bl.toList.drop a.off).drop (i*sz)).take sz)∧Fits e y∧y.size=sz:=by
       intro i hi;obtain⟨cs',y,g1,g2,g3,g4⟩:=Ars i hi;obtain⟨bl',ty',fz',k1,k2,k3,k4⟩:=Su g1 (by omega)
       have e1:(a.add (i*sz)).block=a.block:=by unfold Addr.add;split<;>rfl
       have e2:(a.add (i*sz)).off=a.off+i*sz:=by unfold Addr.add;split<;>rename_i hh<;>simp[hh]
       rw[e1,hb]at k2;cases k2;rw[e2]at k3 k4;refine⟨k3,y,?_,g3,g4⟩;rw[List.drop_drop,k4];exact g2
      have A23:=(hat (len - 1) (by omega)).1
      have hmul:(len - 1)*sz+sz=len*sz:=by
       obtain⟨q,rfl⟩:∃q,len=q+1:=⟨len - 1,by omega⟩
       rw[Amh,Aj7,Nat.one_mul]
      obtain⟨xs,x1,x2,x3⟩:=F9.A8h (G:=De w) (sz:=sz) (n:=len) (cells:=bl.toList.drop a.off) (p:=fun y=>Fits e y∧y.size=sz) (by simp;omega) fun i hi=>(hat i hi).2
      refine⟨.list xs,?_,xs,rfl,x3⟩;simp only[D8];refine⟨some a,cap,by rw[x1],by omega,hcm,.inr ⟨a.block,a.off,bl,ty,fz,sz,by rw[←ha],hb,fun y hy=>(x3 y hy).2,by rw[x1];omega,by rw[x1];exact x2⟩⟩
   ·cases ho
 | .ar sz n e,t,fuel,cs,x,ho,h=>by
   simp only[Sh.ok]at ho;split at ho
   ·rename_i m e' ht;simp only[Ap,beq_iff_eq]at ho;obtain⟨⟨⟨Hr,rfl⟩,Bui⟩,he⟩:=ho;obtain⟨xs,fu,rfl,_,hl,hxl,hx⟩:=DataW.trod_array ht h;rw[Bui]at hl;rw[Hr]at hx;obtain⟨ys,y1,y2,y3⟩:=F9.A8h (G:=De w) (sz:=sz) (n:=m) (cells:=cs) (p:=fun y=>Fits e y∧y.size=sz) (by omega) fun i hi=>by
     obtain⟨d,hd⟩:∃d,xs[i]?=some d:=⟨_,Ae (by omega)⟩
     have h1:=hx i hi;rw[hd]at h1;obtain⟨y,g1,g2⟩:=A1n e he h1;refine⟨y,g1,g2,?_⟩;rw[←D8.length _ _ g1,Hg,Ei];have:(i+1)*sz≤m*sz:=Jh _ (by omega)
     rw[Aj7,Nat.one_mul]at this;omega
    refine⟨.arr sz ys,?_,ys,rfl,y1,y3⟩;rw[Am2 (by omega)]at y2
    simp only[D8];exact⟨y2,fun y hy=>(y3 y hy).2⟩
   ·cases ho
theorem A7y:∀(l:List Sh) {fs:List Field} {off tot fuel:Nat} {cs:List Value} {xs:List (DataW H × List MemPlace)},Sh.oks P off tot fs l=true→
 (fs.mapM fun f=>DataW.trod enc P w base (fun _=>sp 0) held fuel f.type ((cs.drop f.offset).take (P.cellsOf f.type)))=some xs→∃ys,F9 (De w) ys ((cs.take tot).drop off)∧A9v l ys
 | [],fs,off,tot,fuel,cs,xs,ho,h=>by
   cases fs with
   |nil=>
    simp only[Sh.oks,beq_iff_eq]at ho;subst ho;exact⟨[],by simp[F9],rfl⟩
   |cons f fs=>simp[Sh.oks]at ho
 |s::l,fs,off,tot,fuel,cs,xs,ho,h=>by
  cases fs with
  |nil=>simp[Sh.oks]at ho
  |cons f fs=>
   simp only[Sh.oks,Ap,beq_iff_eq]at ho;obtain⟨⟨rfl,h1⟩,h2⟩:=ho;simp only[List.mapM_cons]at h;obtain⟨y,g1,g2⟩:=Ai7.1 h;obtain⟨z,g3,g4⟩:=Ai7.1 g2;obtain⟨u,g5,g6⟩:=A1n s h1 g1;obtain⟨us,g7,g8⟩:=A7y l (cs:=cs) h2 g3;refine⟨u::us,?_,u,us,rfl,g6,g8⟩;simp only[F9];have hle:=Ab4 h2;refine⟨_,_,?_,g5,g7⟩;have e1:(cs.drop f.offset).take (P.cellsOf f.type)=((cs.take tot).drop f.offset).take (P.cellsOf f.type):=by
    rw[List.drop_take,List.take_take,U6 (by omega)]
   rw[e1, ←List.drop_drop,Fj]
end
end
end Go.Ab
