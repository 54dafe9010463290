/- Lemmas -/
import Derived.Test.YtkpojedpcabojaaDoorY12
import Derived.Deep.Slices
import Derived.ChangeSame
import Derived.ChangeArms
import Derived.ProofKit
import Derived.OpenShut
import Derived.SizedLaws
import Derived.Test.YtkpojedpcabojaaDoorRows
import Derived.Lib.LaidU8T
import Derived.PinnedBridge
import Derived.LaidOnce
import Derived.LaidMore
import Derived.Test.YtkpojedpcabojaaDoorCards
import Derived.Test.YtkpojedpcabojaaDoorTie
import Derived.Test.YtkpojedpcabojaaDoorChecked
import Derived.JoinedCond
import Derived.Lay
import Derived.SevenTiedAt
set_option linter.unusedVariables false
set_option linter.unusedSimpArgs false
namespace Go.Ab
open Go.Proofs
theorem An0{m:Nat}{s:Sto}(h:SInv m s)(hm:m≤80000)(hl:s.sp.length≤8)(hc:CInv s)(n:Az)(cs:List Chg)(hcs:cs.length≤1000):
 Fn Tryd.prog Ab1 [rT s.ref,.v (.str n),.v (.list (cs.map Chg.toI))] (Is (.tup [.i (ti (s.writeM n cs).2.1),.i (ti (s.writeM n cs).2.2)]) [rT (s.writeM n cs).1.ref,.no,.no]):=by
 have hl2:=Xs s;cases hf:s.fi n with
 |none=>
  rw[show s.writeM n cs=(s,0,16)by unfold Sto.writeM;rw[hf]]
  exact Ama s.ref n _ (by omega) (Ahg hf)
 |some j=>
  obtain⟨i,h1,h2,h3⟩:=Acp (s:=s) (n:=n) (by rw[hf];rfl)
  cases hF:K6 cs []with
  |none=>
   rw[show s.writeM n cs=(s,0,1)by unfold Sto.writeM;rw[hf];dsimp only;rw[hF]]
   exact Ams s.ref n cs (by omega) hcs i (s.spcS n) h1 h2 false rfl (by rw[Akc (F:=[]),hF];rfl)
  |some FF=>
   obtain⟨e1,e2,e3⟩:=Am7 h hf hF h3;rw[e1,e2,e3];have hk:=(Ach h hm hc n).2;have hr:=h.rv n;exact Am9 s.ref n cs (by omega) hcs i (s.spcS n) h1 h2 ⟨Nat.le_trans hk.1 (by omega),fun x hx=>Nat.le_trans (hk.2 x hx) (by omega)⟩ ⟨by show 0≤(s.tal n).rev;omega,by show(s.tal n).rev≤_;omega⟩ true rfl (by rw[Akc (F:=[]),hF];rfl) _ rfl
theorem Anz{m:Nat}{s:Sto}(h:SInv m s)(hm:m≤80000)(hl:s.sp.length≤8)(hc:CInv s)(n:Az)(x:Sp)(rev most:Int):
 Fn Tryd.prog Ab0 [rT s.ref,.v (.str n),.v x.toI,.v (ti rev),.v (ti most)] (Is (.tup [.i (.list ((s.rangeM n x rev most).1.map Pr.toI)),.i (.bool (s.rangeM n x rev most).2.1),.i (ti (s.rangeM n x rev most).2.2)]) [rT s.ref,.no,.no,.no,.no]):=by
 have hl2:=Xs s;cases hf:s.fi n with
 |none=>
  rw[show s.rangeM n x rev most=([],false,16)by unfold Sto.rangeM;rw[if_pos (by rw[hf];rfl)]]
  exact Ak8 s.ref n x rev most (by omega) (Ahg hf)
 |some j=>
  obtain⟨i,h1,h2,h3⟩:=Acp (s:=s) (n:=n) (by rw[hf];rfl)
  rw[Aks h (by rw[hf];rfl)]
  have hk:=(Ach h hm hc n).2;exact Ak9 s.ref n x rev most (by omega) i (s.spcS n) h1 h2 (Nat.le_trans hk.1 (by omega)) fun y hy=>Nat.le_trans (hk.2 y hy) (by omega)
theorem Anw{m:Nat}{s:Sto}(h:SInv m s)(hm:m≤80000)(hl:s.sp.length≤8)(hc:CInv s)(n:Az)(rev:Int):
 Fn Tryd.prog Nf [rT s.ref,.v (.str n),.v (ti rev)] (Is (.v (ti (s.compM n rev).2)) [rT (s.compM n rev).1.ref,.no,.no]):=by
 have hl2:=Xs s;cases hf:s.fi n with
 |none=>
  rw[show s.compM n rev=(s,16)by unfold Sto.compM;rw[hf]]
  exact Amr s.ref n rev (by omega) (Ahg hf)
 |some j=>
  obtain⟨i,h1,h2,h3⟩:=Acp (s:=s) (n:=n) (by rw[hf];rfl)
  by_cases he:s.compE n rev=0
  ·rw[Anf h hf he h3,show(s.compM n rev).2=0 by unfold Sto.compM;rw[hf];dsimp only;rw[if_pos he]]
   obtain⟨c1,c2,c3⟩:=Aht he;have hk:=(Ach h hm hc n).2;exact Ane s.ref n rev (by omega) i (s.spcS n) h1 h2 ⟨c1,c2,c3⟩ ⟨Nat.le_trans hk.1 (by omega),fun x hx=>Nat.le_trans (hk.2 x hx) (by omega)⟩
  ·rw[show s.compM n rev=(s,s.compE n rev)by unfold Sto.compM;rw[hf];dsimp only;rw[if_neg he]]
   exact Am6 s.ref n rev (by omega) i (s.spcS n) h1 h2 he
theorem Anx{m:Nat}{s:Sto}(h:SInv m s)(hl:s.sp.length≤8)(n:Az):
 Fn Tryd.prog Af1 [rT s.ref,.v (.str n)] (Is (.v (ti (s.openM (D9 n) n).2)) [rT (s.openM (D9 n) n).1.ref,.no]):=by
 have hl2:=Xs s;have:=Amd s.ref n (by omega)
 rw[Ang h n]at this;exact this
theorem Ak1{s:Sto}{m:Nat}(h:SInv m s)(hm:m≤80000)(n:Az)(x:Sp)(rev most:Int)(hf:(s.fi n).isSome=true):(s.rangeM n x rev most).1.length≤100000:=by
 rw[Aks h hf];have hk:=Aky n s.l;have hlen:=h.lb.len;have ha:∀r,(Jw x r (s.spcS n).keys []).length≤100000:=fun r=>by
  rw[Wi,List.nil_append];have:=List.length_filterMap_le (selR x r) (s.spcS n).keys;have e:(s.spcS n).keys=keysOf n s.l:=rfl;rw[e]at this ⊢;omega
 unfold rrP;have hr:=ha (if rev=0 then(s.spcS n).rev else rev)
 generalize Jw x (if rev=0 then(s.spcS n).rev else rev) (s.spcS n).keys []=A at*
 split
 ·simp
 ·split
  ·simp
  ·split
   ·simp
   ·by_cases c:most<(A.length:Int)
    ·rw[if_pos c];dsimp only;rw[List.length_take];omega
    ·rw[if_neg c];exact hr
theorem Ana{m:Nat}{s:Sto}(h:SInv m s)(hm:m≤80000)(hl:s.sp.length≤8)(hc:CInv s)(o:Opn)(hol:o.l.length≤1000)(hon:o.n.length≤1000):
 Fn Tryd.prog Agu [sP s,rT s.ref,.v o.toI] (Is (.v (.bool true)) [sP (s.stepM o),rT (s.stepM o).ref,.no]):=by
 obtain⟨k,n,l,x,rev,most⟩:=o;dsimp only at hol hon;by_cases k0:k=0
 ·subst k0;exact Ann s _ s.ref _ n l x rev most _ _ (Air h hm n l hon hol) (An0 h hm hl hc n l hol)
 ·by_cases k1:k=1
  ·subst k1;refine Ano s s.ref n l x rev most _ _ _ ?_ (Aff h hm n hon x rev most) (Anz h hm hl hc n x rev most);cases hf:s.fi n with
   |none=>rw[show s.rangeM n x rev most=([],false,16)by unfold Sto.rangeM;rw[if_pos (by rw[hf];rfl)]];simp
   |some j=>exact Ak1 h hm n x rev most (by rw[hf];rfl)
  ·by_cases k2:k=2
   ·subst k2;exact Anp s _ s.ref _ n l x rev most _ (Ai3 h hm n rev) (Anw h hm hl hc n rev)
   ·by_cases k3:k=3
    ·subst k3;exact Anq s _ s.ref _ n l x rev most _ (Ag4 s n) (Anx h hl n)
    ·rw[show s.stepM ⟨k,n,l,x,rev,most⟩=s by unfold Sto.stepM;rw[if_neg k0,if_neg k2,if_neg k3]]
     exact Anr s s.ref k n l x rev most k0 k1 k2 k3
theorem VInv.step{m:Nat}{s:Sto}(h:SInv m s)(hc:VInv s)(o:Opn):VInv (s.stepM o):=by
 unfold Sto.stepM;split
 ·exact hc.write h _ _
 ·split
  ·exact hc.comp _ _
  ·split
   ·exact hc.open _ _
   ·exact hc
theorem Anc{s:Sto}(h:s.sp.length≤8)(o:Opn):(s.stepM o).sp.length≤8:=by
 unfold Sto.stepM;split
 ·unfold Sto.writeM;split
  ·exact h
  ·split
   ·exact h
   ·dsimp only;rw[List.length_set];exact h
 ·split
  ·unfold Sto.compM;split
   ·exact h
   ·split
    ·dsimp only;rw[List.length_set];exact h
    ·exact h
  ·split
   ·unfold Sto.openM;split
    ·exact h
    ·split
     ·exact h
     ·split
      ·exact h
      ·dsimp only;rw[List.length_append,List.length_singleton];omega
   ·exact h
theorem Am4(l:List Opn):Fn Tryd.prog Mg [.v (.list (l.map Opn.toI))] (Is (.v (.bool true)) [.no]):=by
 cases hg:F9 0 l with
 |true=>exact Ajz l hg
 |false=>
  obtain⟨hl,hol⟩:=Ahr hg (by omega)
  refine Akg l (by omega) hg (fun j s R=>j≤100∧SInv (41*j) s∧CInv s∧VInv s∧s.sp.length≤8∧R=s.ref) ?_ ?_ ?_
  ·refine⟨by omega,Ajr,⟨fun n=>⟨rfl,rfl⟩,by intro h hh;cases hh⟩,fun n=>rfl,by simp,by unfold Sto.ref Sto.names;simp[Dc]⟩
  ·rintro j o s R hj ⟨_,h,hc,hv,h8,rfl⟩;obtain⟨hjl,_⟩:=List.getElem?_eq_some_iff.1 hj;obtain⟨o1,o2⟩:=hol o (List.mem_of_getElem? hj);have h':SInv (41*(j+1)) (s.stepM o):=(h.step o (by omega)).mono (by omega)
   have hc':=hc.step h o;have hv':=hv.step h o;have h8':=Anc h8 o;exact⟨_,_,Ana h (by omega) h8 hc o (by omega) o2,Aju h' (by omega) h8' hc' hv' o.n,by omega,h',hc',hv',h8',rfl⟩
  ·rintro s R ⟨_,h,hc,hv,h8,rfl⟩;have hlr:=Xs s;have hnm:s.ref.map Spc.name=s.names:=by unfold Sto.ref;rw[List.map_map];exact List.map_id _
   have hsp:=Amf s h.nd (by omega)
   have hin:∀n∈s.names,n.length≤1000∧(s.fi n).isSome=true:=fun n hn=>by
    have hf:=Ag1.1 hn;refine⟨?_,hf⟩;obtain⟨i,hi⟩:=Option.isSome_iff_exists.1 hf;have:=h.name hi;omega
   refine⟨s.names,hnm.symm,by omega,⟨by omega,fun p hp=>?_⟩,hsp,?_,fun n _=>Aju h (by omega) h8 hc hv n⟩
   ·obtain⟨n,_,rfl⟩:=List.mem_map.1 hp;have hk:=(Ach h (by omega) hc n).2
    exact⟨Nat.le_trans hk.1 (by omega),fun x hx=>Nat.le_trans (hk.2 x hx) (by omega)⟩
   ·have hd:=Amz ofC s (h.bd (by omega)) s.names hin (by unfold Sto.names;rw[Ajd,List.length_map];omega) hsp
    rw[show s.names.map s.dumpS=s.ref from List.map_congr_left fun n hn=>by
     unfold Sto.dumpS Sto.spcS;obtain⟨i,hi⟩:=Option.isSome_iff_exists.1 (hin n hn).2;rw[Amy (h.name hi) h.wi.1 fun y hy=>(h.wi.2 y hy).1]]at hd
    exact hd

open Go.ChangeShapes Go.Deep
inductive Sh where
 |int (k:IntKind)
 |bool
 |str
 |st (l:List Sh)
 |sl (sz:Nat) (e:Sh)
 |ar (sz n:Nat) (e:Sh)
 deriving Inhabited
mutual
def Sh.ok(P:Program):TypeId→Sh→Bool
 |t,.int k=>match P.underlying t with
  |some (.int k')=>k==k'
  |_=>false
 |t,.bool=>match P.underlying t with
  |some .bool=>true
  |_=>false
 |t,.str=>match P.underlying t with
  |some .string=>true
  |_=>false
 |t,.st l=>match P.underlying t with
  |some (.struct fs)=>Sh.oks P 0 (P.cellsOf t) fs.toList l
  |_=>false
 |t,.sl sz e=>match P.underlying t with
  |some (.slice e')=>P.cellsOf e'==sz&&sz != 0&&Sh.ok P e' e
  |_=>false
 |t,.ar sz n e=>match P.underlying t with
  |some (.array m e')=>P.cellsOf e'==sz&&m==n&&P.cellsOf t==n*sz&&Sh.ok P e' e
  |_=>false
def Sh.oks(P:Program):Nat→Nat→List Field→List Sh→Bool
 |off,tot,[],[]=>off==tot
 |off,tot,f::fs,s::l=>f.offset==off&&Sh.ok P f.type s&&Sh.oks P (off+P.cellsOf f.type) tot fs l
 |_,_,_,_=>false
end
mutual
def Fits:Sh→I→Prop
 | .int k,x=>∃n,x= .int k n∧(Lit.int k n).wf=true
 | .bool,x=>∃b,x= .bool b
 | .str,x=>∃s,x= .str s
 | .st l,x=>∃xs,x= .agg xs∧FitsL l xs
 | .sl sz e,x=>∃xs,x= .list xs∧∀y∈xs,Fits e y∧y.size=sz
 | .ar sz n e,x=>∃xs,x= .arr sz xs∧xs.length=n∧∀y∈xs,Fits e y∧y.size=sz
def FitsL:List Sh→List I→Prop
 | [],xs=>xs=[]
 |s::l,xs=>∃y ys,xs=y::ys∧Fits s y∧FitsL l ys
end
def De(w:World):Mem:=fun b=>w.heap[b]?
section
variable{H:Type}{enc:TypeId × Value → H}{P:Program}{w:World}{base:Nat}{sp:Nat → Bool}{held:Bool}
theorem Su{a:Addr}{n:Nat}{cs:List Value}(h:w.cells? base a n=some cs)(h0:0<n):∃bl ty fz,a=⟨a.block,a.off,none⟩∧w.heap[a.block]?=some (.cells bl ty fz)∧a.off+n≤bl.size∧(bl.toList.drop a.off).take n=cs:=by
 obtain⟨_,hl,hc⟩:=World.cells?_some h;have hget:∀i,i<n→∃v,w.cell? (a.add i)=some v:=fun i hi=>⟨cs[i]'(by omega),by rw[hc i hi,List.getElem?_eq_getElem]⟩
 obtain⟨v,hv⟩:=hget 0 h0;unfold World.cell? at hv;rw[show a.add 0=a from by simp[Addr.add]]at hv
 split at hv
 ·rename_i bl ty fz hb;split at hv
  ·cases hv
  ·rename_i hs;have hspot:a.spot=none:=by cases hsp:a.spot<;>simp[hsp]at hs ⊢
   have hadd:∀i,w.cell? (a.add i)=bl[a.off+i]?:=by
    intro i;unfold World.cell? Addr.add;by_cases hi:i=0
    ·simp[hi,hb,hspot]
    ·simp[hi,hb]
   have hsz:a.off+n≤bl.size:=by
    obtain⟨v',hv'⟩:=hget (n - 1) (by omega)
    rw[hadd]at hv';have:=(Array.getElem?_eq_some_iff.1 hv').1;omega
   refine⟨bl,ty,fz,?_,hb,hsz,?_⟩
   ·cases a;simp at hspot;simp[hspot]
   ·apply List.ext_getElem?;intro i;by_cases hi:i<n
    ·rw[List.getElem?_take,if_pos hi,List.getElem?_drop, ←hc i hi,hadd];simp
    ·rw[List.getElem?_eq_none (by simp;omega),List.getElem?_eq_none (by omega)]
 ·cases hv
theorem RepIs.of_rows{G:Mem}{sz:Nat}:∀{n:Nat} {cells:List Value} {p:I→Prop},n*sz≤cells.length→(∀i,i<n→∃x,RepI G x ((cells.drop (i*sz)).take sz)∧p x)→∃xs,xs.length=n∧RepIs G xs (cells.take (n*sz))∧∀x∈xs,p x
 |0,cells,p,_,_=>⟨[],rfl,by simp[RepIs],by simp⟩
 |n+1,cells,p,hl,h=>by
  have hm:(n+1)*sz=sz+n*sz:=by rw[Nat.add_mul];omega
  obtain⟨x,h1,h2⟩:=h 0 (by omega)
  simp only[Nat.zero_mul,List.drop_zero]at h1;obtain⟨xs,h3,h4,h5⟩:=RepIs.of_rows (sz:=sz) (n:=n) (cells:=cells.drop sz) (p:=p) (by rw[List.length_drop];omega) fun i hi=>by
   obtain⟨y,g1,g2⟩:=h (i+1) (by omega)
   refine⟨y,?_,g2⟩;rw[List.drop_drop,show sz+i*sz=(i+1)*sz by rw[Nat.add_mul];omega]
   exact g1
  refine⟨x::xs,by simp[h3],?_,?_⟩
  ·rw[hm,List.take_add];simp only[RepIs];exact⟨_,_,rfl,h1,h4⟩
  ·intro y hy;rcases List.mem_cons.mp hy with rfl|hy
   ·exact h2
   ·exact h5 y hy
theorem Ab4:∀{l:List Sh} {fs:List Field} {off tot:Nat},Sh.oks P off tot fs l=true→off≤tot
 | [],[],_,_,h=>by simp only[Sh.oks,beq_iff_eq]at h;omega
 |s::l,f::fs,off,tot,h=>by
  simp only[Sh.oks,Bool.and_eq_true]at h;have:=Ab4 h.2;omega
 | [],_::_,_,_,h=>by simp[Sh.oks]at h
 |_::_,[],_,_,h=>by simp[Sh.oks]at h
mutual
theorem trod_item:∀(sh:Sh) {t:TypeId} {fuel:Nat} {cs:List Value} {x:DataW H × List MemPlace},sh.ok P t=true→DataW.trod enc P w base (fun _=>sp 0) held fuel t cs=some x→
 ∃y,RepI (De w) y cs∧Fits sh y
 | .int k,t,fuel,cs,x,ho,h=>by
   simp only[Sh.ok]at ho;split at ho
   ·rename_i k' ht;rw[beq_iff_eq]at ho;subst ho;obtain⟨n,rfl,_,hw⟩:=DataW.trod_int ht h;exact⟨.int k n,by simp[RepI],n,rfl,hw⟩
   ·cases ho
 | .bool,t,fuel,cs,x,ho,h=>by
   simp only[Sh.ok]at ho;split at ho
   ·rename_i ht;obtain⟨b,rfl,_⟩:=DataW.trod_bool ht h;exact⟨.bool b,by simp[RepI],b,rfl⟩
   ·cases ho
 | .str,t,fuel,cs,x,ho,h=>by
   simp only[Sh.ok]at ho;split at ho
   ·rename_i ht;obtain⟨s,rfl,_,hs⟩:=DataW.trod_string ht h;obtain⟨⟨s⟩⟩:=s;exact⟨.str s,by simp only[RepI];exact⟨trivial,hs⟩,s,rfl⟩
   ·cases ho
 | .st l,t,fuel,cs,x,ho,h=>by
   simp only[Sh.ok]at ho;split at ho
   ·rename_i fs ht;cases fuel with
    |zero=>simp[DataW.trod]at h
    |succ fuel=>
     simp only[DataW.trod,ht]at h;split at h
     ·rename_i hl;obtain⟨xs,h1,_⟩:=Option.map_eq_some_iff.1 h;obtain⟨ys,h2,h3⟩:=trod_items l (off:=0) ho h1;refine⟨.agg ys,?_,ys,rfl,h3⟩;simp only[RepI];simpa[←hl]using h2
     ·cases h
   ·cases ho
 | .sl sz e,t,fuel,cs,x,ho,h=>by
   simp only[Sh.ok]at ho;split at ho
   ·rename_i e' ht;simp only[Bool.and_eq_true,beq_iff_eq,bne_iff_ne,ne_eq]at ho;obtain⟨⟨hsz,hz⟩,he⟩:=ho;rcases open_slice ht h with⟨rfl,_⟩|⟨a,len,cap,m,n,D,Pl,rfl,_,hlc,hcm,hm,_,hx⟩
    ·exact⟨.list [],by simp only[RepI];exact⟨none,0,rfl,Nat.le_refl _,Nat.zero_le _,.inl trivial⟩,[],rfl,by simp⟩
    ·by_cases h0:len=0
     ·subst h0;exact⟨.list [],by simp only[RepI];exact⟨some a,cap,rfl,Nat.zero_le _,hcm,.inl trivial⟩,[],rfl,by simp⟩
     ·have hmm:len≤m:=by subst hm;split<;>omega
      have hrow:∀i,i<len→∃cs' y,w.cells? base (a.add (i*sz)) sz=some cs'∧RepI (De w) y cs'∧Fits e y∧y.size=sz:=by
       intro i hi;obtain⟨cs',g1,g2⟩:=hx i (by omega)
       obtain⟨y,g3,g4⟩:=trod_item e he g2;rw[hsz]at g1;have hlen:=(World.cells?_some g1).2.1;exact⟨cs',y,g1,g3,g4,by rw[←RepI.length _ _ g3,hlen]⟩
      obtain⟨cs0,_,c1,_⟩:=hrow 0 (by omega)
      rw[Nat.zero_mul,show a.add 0=a by simp[Addr.add]]at c1
      obtain⟨bl,ty,fz,ha,hb,hs0,_⟩:=Su c1 (by omega)
      have hat:∀i,i<len→a.off+i*sz+sz≤bl.size∧∃y,RepI (De w) y (((bl.toList.drop a.off).drop (i*sz)).take sz)∧Fits e y∧y.size=sz:=by
       intro i hi;obtain⟨cs',y,g1,g2,g3,g4⟩:=hrow i hi;obtain⟨bl',ty',fz',k1,k2,k3,k4⟩:=Su g1 (by omega)
       have e1:(a.add (i*sz)).block=a.block:=by unfold Addr.add;split<;>rfl
       have e2:(a.add (i*sz)).off=a.off+i*sz:=by unfold Addr.add;split<;>rename_i hh<;>simp[hh]
       rw[e1,hb]at k2;cases k2;rw[e2]at k3 k4;refine⟨k3,y,?_,g3,g4⟩;rw[List.drop_drop,k4];exact g2
      have hlast:=(hat (len - 1) (by omega)).1
      have hmul:(len - 1)*sz+sz=len*sz:=by
       obtain⟨q,rfl⟩:∃q,len=q+1:=⟨len - 1,by omega⟩
       rw[Nat.add_sub_cancel,Nat.add_mul,Nat.one_mul]
      obtain⟨xs,x1,x2,x3⟩:=RepIs.of_rows (G:=De w) (sz:=sz) (n:=len) (cells:=bl.toList.drop a.off) (p:=fun y=>Fits e y∧y.size=sz) (by simp;omega) fun i hi=>(hat i hi).2
      refine⟨.list xs,?_,xs,rfl,x3⟩;simp only[RepI];refine⟨some a,cap,by rw[x1],by omega,hcm,.inr ⟨a.block,a.off,bl,ty,fz,sz,by rw[←ha],hb,fun y hy=>(x3 y hy).2,by rw[x1];omega,by rw[x1];exact x2⟩⟩
   ·cases ho
 | .ar sz n e,t,fuel,cs,x,ho,h=>by
   simp only[Sh.ok]at ho;split at ho
   ·rename_i m e' ht;simp only[Bool.and_eq_true,beq_iff_eq]at ho;obtain⟨⟨⟨hsz,rfl⟩,htot⟩,he⟩:=ho;obtain⟨xs,fu,rfl,_,hl,hxl,hx⟩:=DataW.trod_array ht h;rw[htot]at hl;rw[hsz]at hx;obtain⟨ys,y1,y2,y3⟩:=RepIs.of_rows (G:=De w) (sz:=sz) (n:=m) (cells:=cs) (p:=fun y=>Fits e y∧y.size=sz) (by omega) fun i hi=>by
     obtain⟨d,hd⟩:∃d,xs[i]?=some d:=⟨_,List.getElem?_eq_getElem (by omega)⟩
     have h1:=hx i hi;rw[hd]at h1;obtain⟨y,g1,g2⟩:=trod_item e he h1;refine⟨y,g1,g2,?_⟩;rw[←RepI.length _ _ g1,List.length_take,List.length_drop];have:(i+1)*sz≤m*sz:=Nat.mul_le_mul_right _ (by omega)
     rw[Nat.add_mul,Nat.one_mul]at this;omega
    refine⟨.arr sz ys,?_,ys,rfl,y1,y3⟩;rw[List.take_of_length_le (by omega)]at y2
    simp only[RepI];exact⟨y2,fun y hy=>(y3 y hy).2⟩
   ·cases ho
theorem trod_items:∀(l:List Sh) {fs:List Field} {off tot fuel:Nat} {cs:List Value} {xs:List (DataW H × List MemPlace)},Sh.oks P off tot fs l=true→
 (fs.mapM fun f=>DataW.trod enc P w base (fun _=>sp 0) held fuel f.type ((cs.drop f.offset).take (P.cellsOf f.type)))=some xs→∃ys,RepIs (De w) ys ((cs.take tot).drop off)∧FitsL l ys
 | [],fs,off,tot,fuel,cs,xs,ho,h=>by
   cases fs with
   |nil=>
    simp only[Sh.oks,beq_iff_eq]at ho;subst ho;exact⟨[],by simp[RepIs],rfl⟩
   |cons f fs=>simp[Sh.oks]at ho
 |s::l,fs,off,tot,fuel,cs,xs,ho,h=>by
  cases fs with
  |nil=>simp[Sh.oks]at ho
  |cons f fs=>
   simp only[Sh.oks,Bool.and_eq_true,beq_iff_eq]at ho;obtain⟨⟨rfl,h1⟩,h2⟩:=ho;simp only[List.mapM_cons]at h;obtain⟨y,g1,g2⟩:=Option.bind_eq_some_iff.1 h;obtain⟨z,g3,g4⟩:=Option.bind_eq_some_iff.1 g2;obtain⟨u,g5,g6⟩:=trod_item s h1 g1;obtain⟨us,g7,g8⟩:=trod_items l (cs:=cs) h2 g3;refine⟨u::us,?_,u,us,rfl,g6,g8⟩;simp only[RepIs];have hle:=Ab4 h2;refine⟨_,_,?_,g5,g7⟩;have e1:(cs.drop f.offset).take (P.cellsOf f.type)=((cs.take tot).drop f.offset).take (P.cellsOf f.type):=by
    rw[List.drop_take,List.take_take,Nat.min_eq_left (by omega)]
   rw[e1, ←List.drop_drop,List.take_append_drop]
end
end

open Go.ChangeShapes Go.Deep
theorem Fm{α β:Type}{f g:α→Option β}:∀{l:List α} {xs:List β},l.mapM f=some xs→(∀a∈l,∀y∈xs,f a=some y→g a=some y)→l.mapM g=some xs
 | [],xs,h,_=>by simpa using h
 |a::l,xs,h,hg=>by
  simp only[List.mapM_cons]at h ⊢;obtain⟨y,g1,g2⟩:=Option.bind_eq_some_iff.1 h;obtain⟨z,g3,g4⟩:=Option.bind_eq_some_iff.1 g2;cases g4;rw[hg a (List.mem_cons_self ..) y (List.mem_cons_self ..) g1];have:=Fm (l:=l) g3 fun b hb x hx=>hg b (List.mem_cons_of_mem _ hb) x (List.mem_cons_of_mem _ hx)
  simp[this]
section
variable{H:Type}{enc:TypeId × Value → H}{P:Program}{W W':World}{sp':Nat → Bool}{held:Bool}
theorem Zg(hk:∀(b:Nat) (o:Obj),W.heap[b]?=some o→W'.heap[b]?=some o){a:Addr}{v:Value}(h:W.cell? a=some v):W'.cell? a=some v:=by
 unfold World.cell? at h ⊢;split at h
 ·rename_i bl ty fz hb;rw[hk _ _ hb];exact h
 ·cases h
theorem Xa(hk:∀(b:Nat) (o:Obj),W.heap[b]?=some o→W'.heap[b]?=some o){a:Addr}{n:Nat}{cs:List Value}(h:W.cells? 0 a n=some cs):W'.cells? 0 a n=some cs:=by
 unfold World.cells? at h ⊢;split at h
 ·rename_i h0;rw[if_pos h0];exact Fm h fun i _ y _ hy=>Zg hk hy
 ·cases h
theorem Hc(hk:∀(b:Nat) (o:Obj),W.heap[b]?=some o→W'.heap[b]?=some o):∀(fuel:Nat) (sh:Sh) {t:TypeId} {cs:List Value} {x:DataW H × List MemPlace},sh.ok P t=true→
 DataW.trod enc P W 0 (fun _=>true) held fuel t cs=some x→(∀p∈x.2,sp' p.block=true)→DataW.trod enc P W' 0 sp' held fuel t cs=some x
 |0,sh,t,cs,x,ho,h,hp=>by simp[DataW.trod]at h
 |fuel+1,.int k,t,cs,x,ho,h,hp=>by
  simp only[Sh.ok]at ho;split at ho
  ·rename_i k' ht;obtain⟨n,rfl,rfl,hw⟩:=DataW.trod_int ht h;simp[DataW.trod,ht,hw]
  ·cases ho
 |fuel+1,.bool,t,cs,x,ho,h,hp=>by
  simp only[Sh.ok]at ho;split at ho
  ·rename_i ht;obtain⟨b,rfl,rfl⟩:=DataW.trod_bool ht h;simp[DataW.trod,ht]
  ·cases ho
 |fuel+1,.str,t,cs,x,ho,h,hp=>by
  simp only[Sh.ok]at ho;split at ho
  ·rename_i ht;obtain⟨s,rfl,rfl,hs⟩:=DataW.trod_string ht h;simp[DataW.trod,ht,hs]
  ·cases ho
 |fuel+1,.st l,t,cs,x,ho,h,hp=>by
  simp only[Sh.ok]at ho;split at ho
  ·rename_i fs ht;simp only[DataW.trod,ht]at h ⊢;split at h
   ·rename_i hl;rw[if_pos hl];obtain⟨xs,h1,rfl⟩:=Option.map_eq_some_iff.1 h;have fld:∀(l:List Sh) (fs:List Field) (off tot:Nat) (xs:List (DataW H × List MemPlace)),Sh.oks P off tot fs l=true→
     (fs.mapM fun f=>DataW.trod enc P W 0 (fun _=>true) held fuel f.type ((cs.drop f.offset).take (P.cellsOf f.type)))=some xs→(∀y∈xs,∀p∈y.2,sp' p.block=true)→
     (fs.mapM fun f=>DataW.trod enc P W' 0 sp' held fuel f.type ((cs.drop f.offset).take (P.cellsOf f.type)))=some xs:=by
     intro l;induction l with
     |nil=>
      intro fs off tot xs ho h hp;cases fs with
      |nil=>simpa using h
      |cons f fs=>simp[Sh.oks]at ho
     |cons s l ih=>
      intro fs off tot xs ho h hp;cases fs with
      |nil=>simp[Sh.oks]at ho
      |cons f fs=>
       simp only[Sh.oks,Bool.and_eq_true,beq_iff_eq]at ho;simp only[List.mapM_cons]at h ⊢;obtain⟨y,g1,g2⟩:=Option.bind_eq_some_iff.1 h;obtain⟨z,g3,g4⟩:=Option.bind_eq_some_iff.1 g2;cases g4;rw[Hc hk fuel s ho.1.2 g1 (hp y (List.mem_cons_self ..))];have:=ih fs _ _ z ho.2 g3 fun y hy=>hp y (List.mem_cons_of_mem _ hy)
       simp[this]
    rw[fld l fs.toList 0 _ xs ho h1 fun y hy p hp'=>hp p (List.mem_flatMap.2 ⟨y,hy,hp'⟩)]
    rfl
   ·cases h
  ·cases ho
 |fuel+1,.ar sz n e,t,cs,x,ho,h,hp=>by
  simp only[Sh.ok]at ho;split at ho
  ·rename_i m e' ht;simp only[Bool.and_eq_true,beq_iff_eq]at ho;simp only[DataW.trod,ht]at h ⊢;split at h
   ·rename_i hl;rw[if_pos hl];obtain⟨xs,h1,rfl⟩:=Option.map_eq_some_iff.1 h;rw[Fm h1 fun i _ y hy h2=>Hc hk fuel e ho.2 h2 fun p hp'=>hp p (List.mem_flatMap.2 ⟨y,hy,hp'⟩)]
    rfl
   ·cases h
  ·cases ho
 |fuel+1,.sl sz e,t,cs,x,ho,h,hp=>by
  simp only[Sh.ok]at ho;split at ho
  ·rename_i e' ht;simp only[Bool.and_eq_true,beq_iff_eq,bne_iff_ne,ne_eq]at ho;obtain⟨⟨hsz,hz⟩,he⟩:=ho;have elem:∀{a:Addr} {i:Nat} {y:DataW H × List MemPlace},(∀p∈y.2,sp' p.block=true)→((W.cells? 0 (a.add (i*P.cellsOf e')) (P.cellsOf e')).bind (DataW.trod enc P W 0 (fun _=>true) held fuel e'))=some y→
    ((W'.cells? 0 (a.add (i*P.cellsOf e')) (P.cellsOf e')).bind (DataW.trod enc P W' 0 sp' held fuel e'))=some y:=by
    intro a i y hy h;obtain⟨cs',g1,g2⟩:=Option.bind_eq_some_iff.1 h;rw[Xa hk g1];exact Hc hk fuel e he g2 hy
   have hcs:cs=[.slice none 0 0]∨∃a len cap,cs=[.slice (some a) len cap]:=by
    rcases open_slice ht h with⟨h1,_⟩|⟨a,len,cap,_,_,_,_,h1,_⟩
    ·exact .inl h1
    ·exact .inr ⟨a,len,cap,h1⟩
   rcases hcs with rfl|⟨a,len,cap,rfl⟩
   ·simp only[DataW.trod,ht]at h ⊢;exact h
   ·simp only[DataW.trod,ht]at h ⊢;split at h
    ·rename_i hc;rw[if_pos hc];obtain⟨elems,g1,g2⟩:=Option.bind_eq_some_iff.1 h;obtain⟨rest,g3,rfl⟩:=Option.map_eq_some_iff.1 g2;have hrow:0<elems.length+rest.length→sp' a.block=true:=by
      intro h0;refine hp (.cell a.block (a.off+0)) (List.mem_append_left _ ?_);unfold MemPlace.row;refine List.mem_map.2 ⟨0,List.mem_range.2 (Nat.mul_pos h0 (by omega)),rfl⟩
     have hel:∀y∈elems++rest,∀p∈y.2,sp' p.block=true:=fun y hy p hp'=>hp p (List.mem_append_right _ (List.mem_flatMap.2 ⟨y,hy,hp'⟩))
     have k1:=Fm g1 fun i _ y hy h=>elem (hel y (List.mem_append_left _ hy)) h
     rw[k1];simp only[if_true]at g3;have k2:(if sp' a.block=true then(List.range (cap - len)).mapM fun j=>((W'.cells? 0 (a.add ((len+j)*P.cellsOf e')) (P.cellsOf e')).bind (DataW.trod enc P W' 0 sp' held fuel e'))else some [])=some rest:=by
      have k3:=Fm g3 fun j _ y hy h=>elem (hel y (List.mem_append_right _ hy)) h
      cases hs:sp' a.block with
      |true=>rw[if_pos rfl];exact k3
      |false=>
       rw[if_neg (by decide)]
       have hr0:rest=[]:=by
        cases rest with
        |nil=>rfl
        |cons r rs=>
         have:=hrow (by simp;omega)
         rw[hs]at this;cases this
       rw[hr0]
     simp only[Option.bind_some];rw[k2];rfl
    ·cases h
  ·cases ho
end

open Go.ChangeShapes Go.Deep Go.WideShapes Go.ChangeAt Go.RowKit
def oksT(P:Program):List TypeId→List Sh→Bool
 | [],[]=>true
 |t::ts,s::l=>s.ok P t&&oksT P ts l
 |_,_=>false
section
variable{H:Type}{enc:TypeId × Value → H}{P:Program}{W W':World}
theorem Aeb{sh:Sh}{t:TypeId}{x:I}{v:Value}{G:Mem}{b0:Nat}(ho:sh.ok P t=true)(hv:Value.okWide P W .any b0 t v)(hr:RepI G x v.cells.toList)(hf:Fits sh x):RepV G x v:=by
 unfold RepV;cases sh with
 |st l=>
  simp only[Sh.ok]at ho;split at ho
  ·rename_i fs ht;obtain⟨xs,rfl,_⟩:=hf;rw[if_pos (show(I.agg xs).isAgg=true from rfl)];unfold Value.okWide at hv;rw[ht]at hv;obtain⟨cs,rfl,_⟩:=hv;exact⟨cs,rfl,hr⟩
  ·cases ho
 |ar sz n e=>
  simp only[Sh.ok]at ho;split at ho
  ·rename_i m e' ht;obtain⟨xs,rfl,_⟩:=hf;rw[if_pos (show(I.arr sz xs).isAgg=true from rfl)];unfold Value.okWide at hv;rw[ht]at hv;obtain⟨cs,rfl,_⟩:=hv;exact⟨cs,rfl,hr⟩
  ·cases ho
 |_=>
  simp only[Sh.ok]at ho;split at ho<;>try(cases ho;done)
  rename_i ht;have hx:x.isAgg=false:=by
   obtain⟨_,rfl,_⟩:=hf;rfl
  rw[if_neg (by rw[hx];decide)]
  unfold Value.okWide at hv;rw[ht]at hv;cases v<;>first|exact hr|(exact absurd hv (by simp[Cell.okWide,Cell.ok,ht]))
theorem Me{b0:Nat}:∀{shs:List Sh} {ts:List TypeId} {vs:List Value} {ds:List (DataW H)} {p:List MemPlace},oksT P ts shs=true→DataW.TrodAll enc P W 0 (fun _=>true) true ts vs ds p→
 (∀(j:Nat) t v,ts[j]?=some t→vs[j]?=some v→Value.okWide P W .any b0 t v)→∃xs:List I,FitsL shs xs∧xs.length=vs.length∧∀(i:Nat) x v,xs[i]?=some x→vs[i]?=some v→RepV (De W) x v
 | [],[],[],[],p,_,_,_=>⟨[],rfl,rfl,by simp⟩
 |s::shs,t::ts,v::vs,d::ds,p,ho,h,hv=>by
  simp only[oksT,Bool.and_eq_true]at ho;obtain⟨p1,q,⟨fuel,h1⟩,h2,_⟩:=h;obtain⟨x,g1,g2⟩:=trod_item (sp:=fun _=>true) s ho.1 h1
  obtain⟨xs,g3,g4,g5⟩:=Me ho.2 h2 fun j t' v' a b=>hv (j+1) t' v' a b
  refine⟨x::xs,⟨x,xs,rfl,g2,g3⟩,by simp[g4],?_⟩
  intro i x' v' a b;cases i with
  |zero=>cases a;cases b;exact Aeb ho.1 (hv 0 t v rfl rfl) g1 g2
  |succ i=>exact g5 i x' v' a b
 | [],_::_,_,_,_,ho,_,_=>by cases ho
 |_::_,[],_,_,_,ho,_,_=>by simp[oksT]at ho
 | [],[],_::_,_,_,_,h,_=>by simp[DataW.TrodAll]at h
 | [],[],[],_::_,_,_,h,_=>by simp[DataW.TrodAll]at h
 |_::_,_::_,[],_,_,_,h,_=>by simp[DataW.TrodAll]at h
 |_::_,_::_,_::_,[],_,_,h,_=>by simp[DataW.TrodAll]at h
theorem Md{sp':Nat→Bool}(hk:∀(b:Nat) (o:Obj),W.heap[b]?=some o→W'.heap[b]?=some o):∀{shs:List Sh} {ts:List TypeId} {vs:List Value} {ds:List (DataW H)} {p:List MemPlace},oksT P ts shs=true→
 DataW.TrodAll enc P W 0 (fun _=>true) true ts vs ds p→(∀q∈p,sp' q.block=true)→DataW.TrodAll enc P W' 0 sp' true ts vs ds p
 | [],[],[],[],p,_,h,_=>h
 |s::shs,t::ts,v::vs,d::ds,p,ho,h,hp=>by
  simp only[oksT,Bool.and_eq_true]at ho;obtain⟨p1,q,⟨fuel,h1⟩,h2,rfl⟩:=h;exact⟨p1,q,⟨fuel,Hc hk fuel s ho.1 h1 fun y hy=>hp y (List.mem_append_left _ hy)⟩,Md hk ho.2 h2 fun y hy=>hp y (List.mem_append_right _ hy),rfl⟩
 | [],_::_,_,_,_,ho,_,_=>by cases ho
 |_::_,[],_,_,_,ho,_,_=>by simp[oksT]at ho
 | [],[],_::_,_,_,_,h,_=>by simp[DataW.TrodAll]at h
 | [],[],[],_::_,_,_,h,_=>by simp[DataW.TrodAll]at h
 |_::_,_::_,[],_,_,_,h,_=>by simp[DataW.TrodAll]at h
 |_::_,_::_,_::_,[],_,_,h,_=>by simp[DataW.TrodAll]at h
theorem Ad2{f:FuncId}{xs:List I}{args:Array Value}(hl:xs.length=args.toList.length)(hrep:∀(i:Nat) x v,xs[i]?=some x→args.toList[i]?=some v→RepV (De W) x v){outs:List SV}
 (h:Fn P f (xs.map SV.v) (Is (.v (.bool true)) outs)) (hamb:Amb.p (De W)):
 Calls P f args W fun e W'=>e= .returned (.bool true)∧(∀(b:Nat) (o:Obj),W.heap[b]?=some o→W'.heap[b]?=some o)∧W'.os=W.os∧W'.output=W.output∧W.heap.size≤W'.heap.size:=by
 have:=h (De W) (fun _=>none) (fun _=>none) W args ⟨fun b o hb=>hb,fun b lab hb=>(by cases hb),fun b b' lab hb _=>(by cases hb),fun b o hb=>(by cases hb),rfl,rfl,rfl,Nat.le_refl _,fun b o hb=>(by cases hb),hamb⟩
  (by simp[hl]) (by
    intro i sv hi;rw[List.getElem?_map]at hi;obtain⟨x,h1,rfl⟩:=Option.map_eq_some_iff.1 hi;refine⟨rfl,?_⟩;have hlt:i<args.toList.length:=by rw[←hl];exact(List.getElem?_eq_some_iff.1 h1).1
    have h2:args.toList[i]?=some (args.getD i undef):=by
     rw[List.getElem?_eq_getElem hlt];have hlt':i<args.size:=by simpa using hlt
     simp[Array.getD,hlt']
    exact hrep i x _ h1 h2)
 refine this.mono ?_;rintro e w' ⟨r,zs,c,G',σ',rfl,⟨rfl,_⟩,hG,hok,_,hr,_⟩;refine⟨?_,fun b o hb=>hok.fixed b o (hG b o hb),hok.os,hok.output,hok.size⟩
 have hr':RepV G' (.bool true) c:=hr;rw[RepV.bool]at hr';rw[hr']
theorem Ad4{f:Func}{s:ChangeSpec}{fresh handsOn again:Bool}{args:Array Value}{ds gs:List (DataW H)}{before:List MemPlace}{shs:List Sh}{tb:TypeId}
 (hvars:s.vars=[]) (hsp:∀ds:List (DataW H),ds.length=f.params.toList.length→s.fn H ds= {results:=[.lit (.bool true)],args:=ds}) (hres:f.resultTypes= #[tb]) (hb:P.underlying tb=some .bool)
 (ho:oksT P f.params.toList shs=true) (hW:DataW.Whole enc P f.params.toList s.vars false W args.toList ds gs before)
 (hk:∀(b:Nat) (o:Obj),W.heap[b]?=some o→W'.heap[b]?=some o) (hos:W'.os=W.os) (hout:W'.output=W.output):
 s.post enc P f false fresh handsOn again W args (.bool true) W':=by
 have hW0:=hW;obtain⟨p,q,hA,hV,rfl,hz,hn⟩:=hW;rw[hvars]at hV;have hgs:gs=[]∧q=[]:=by
  cases gs with
  |nil=>exact⟨rfl,hV⟩
  |cons g gs=>exact hV.elim
 obtain⟨rfl,rfl⟩:=hgs;have hlen:ds.length=f.params.toList.length:=by
  have aux:∀(ts:List TypeId) (vs:List Value) (ds:List (DataW H)) (p:List MemPlace),DataW.TrodAll enc P W 0 (fun _=>true) true ts vs ds p→ds.length=ts.length:=by
   intro ts;induction ts with
   |nil=>intro vs ds p h;cases vs<;>cases ds<;>first|rfl|exact h.elim
   |cons t ts ih=>
    intro vs ds p h;cases vs with
    |nil=>cases ds<;>exact h.elim
    |cons v vs=>
     cases ds with
     |nil=>exact h.elim
     |cons d ds=>
      obtain⟨_,_,_,h2,_⟩:=h;simp[ih _ _ _ h2]
  exact aux _ _ _ _ hA
 have hfn:=hsp ds hlen;have hag:∀sp':Nat→Bool,(∀x∈p,sp' x.block=true)→DataW.TrodAll enc P W' 0 sp' true f.params.toList args.toList ds p:=fun sp' h=>Md hk ho hA h
 have hold:∀x∈p,x.block<W.heap.size:=fun x hx=>hW0.lt x (List.mem_append_left _ hx)
 have hat:∀b,b<W.heap.size→∃o,W.heap[b]?=some o∧W'.heap[b]?=some o:=fun b hb'=>⟨_,Array.getElem?_eq_getElem hb',hk b _ (Array.getElem?_eq_getElem hb')⟩
 have hr:∀(b:Nat) (sp':Nat→Bool) (hd:Bool),DataW.TrodAll enc P W' b sp' hd f.resultTypes.toList ((Value.bool true).resultList f.resultTypes.size) [.lit (.bool true)] []:=by
  intro b sp' hd;rw[hres];exact trodAll_cons_mk (shut_bool hb true) trodAll_mk0
 have hkept:W.keptBut W' fun _=>False:=by
  refine⟨hos,hout,fun i hi=>?_⟩
  obtain⟨o,h1,h2⟩:=hat i hi;rw[h1,h2];cases o<;>simp
 refine⟨ds,[],p++[],[],p,[],hW0,?_,?_,?_,World.keptBut_mono (fun _ h=>h.elim) hkept,fun _=>?_⟩
 ·rw[List.append_nil,hfn];exact hr _ _ _
 ·rw[List.append_nil,hfn];exact hag _ fun x hx=>by simpa using hold x hx
 ·rw[List.append_nil,hfn,hvars];rfl
 ·refine⟨?_,_,[],([]++p)++[],⟨[]++p,[],trodAll_append (hag _ (fun _ _=>rfl)) (hr 0 _ _),by rw[hvars];rfl,rfl,?_,?_⟩,?_⟩
  ·intro j t r h1 h2;rw[hres]at h1 h2;cases j with
   |zero=>
    cases h1;have:r= .bool true:=by
     have h3:[Value.bool true][0]?=some r:=h2;simpa using h3.symm
    subst this;exact okWide_bool_mk hb _
   |succ j=>simp at h1
  ·intro b off hp;have hp':MemPlace.cell b off∈p:=by simpa using hp
   have h0:=hz b off (by simpa using hp')
   obtain⟨o,h1,h2⟩:=hat b (hold _ hp');unfold World.frozen? at h0 ⊢;rw[h2];rw[h1]at h0;exact h0
  ·intro ha;cases ha
  ·intro x hx _;simpa using hx
end

open Go.ChangeShapes Go.Deep Go.WideShapes Go.ChangeAt Go.RowKit
section
variable{H:Type}{enc:TypeId × Value → H}{P:Program}{W:World}
end
set_option maxRecDepth 100000
set_option maxHeartbeats 4000000

open Go.Proofs Go.Lib
abbrev shSp:Sh:=.st [.str,.str]
abbrev Ajp:Sh:=.st [.str,.str,.bool]
abbrev shOp:Sh:=.st [.int .i64,.str,.sl 3 Ajp,shSp,.int .i64,.int .i64]
theorem Aiu{x:I}(h:Fits shSp x):∃s:Sp,x=s.toI:=by
 obtain⟨_,rfl,a,_,rfl,⟨f,rfl⟩,b,_,rfl,⟨t,rfl⟩,rfl⟩:=h;exact⟨⟨f,t⟩,rfl⟩
theorem Ahq{α:Type}{sh:Sh}{sz:Nat}{f:α→I}(hf:∀x,Fits sh x→∃a,x=f a):∀xs:List I,(∀y∈xs,Fits sh y∧y.size=sz)→∃l:List α,xs=l.map f
 | [],_=>⟨[],rfl⟩
 |y::ys,h=>by
  obtain⟨l,rfl⟩:=Ahq hf ys fun z hz=>h z (List.mem_cons_of_mem _ hz)
  obtain⟨s,rfl⟩:=hf y (h y (List.mem_cons_self ..)).1;exact⟨s::l,rfl⟩
theorem R8{W w:World}(hw:∀b o,De W b=some o→w.heap[b]?=some o){a:Addr}{v:Value}(h:W.cell? a=some v):w.cell? a=some v:=by
 unfold World.cell? at h ⊢;cases hb:W.heap[a.block]? with
 |none=>rw[hb]at h;cases h
 |some o=>rw[hw a.block o hb, ←hb];exact h
theorem Zt:Go.Proofs.YtkpojedpcabojaaDoor.Rows.laid_unicode_utf8_first=firstData:=Pinned.utf8First_eq
theorem Xk:(Go.Proofs.YtkpojedpcabojaaDoor.Rows.laid_unicode_utf8_acceptRanges:DataW Unit)=acceptData:=by kernel_rfl
abbrev F8:List (String × DataW Unit):=[("unicode/utf8.acceptRanges",Go.Proofs.YtkpojedpcabojaaDoor.Rows.laid_unicode_utf8_acceptRanges),("unicode/utf8.first",Go.Proofs.YtkpojedpcabojaaDoor.Rows.laid_unicode_utf8_first)]
theorem Adk{W:World}(hL:laidMetH Tryd.prog F8 W):Amb.p (De W):=by
 rw[MakeChecks.laidMetH_plain _ _ _ (by kernel_rfl)]at hL
 have hT:Lib.Utf8Tabs 0 1 W:=utf8Tabs_of_readsT {t5:=decL.t5,t119:=decL.t119,t138:=decL.t138,t139:=decL.t139} ⟨by kernel_rfl,by kernel_rfl,by kernel_rfl,by kernel_rfl,by kernel_rfl,by kernel_rfl,by kernel_rfl⟩
  (Zt ▸ Lib.laidMet.reads hL (.tail _ (.head _))) (Xk ▸ Lib.laidMet.reads hL (.head _))
 exact fun w hw=>⟨fun c hc=>R8 hw (hT.1 c hc),fun i hi=>⟨R8 hw (hT.2 i hi).1,R8 hw (hT.2 i hi).2⟩⟩

theorem Ajj{x:I}(h:Fits Ajp x):∃c:Chg,x=c.toI:=by
 obtain⟨_,rfl,a,_,rfl,⟨k,rfl⟩,b,_,rfl,⟨v,rfl⟩,c,_,rfl,⟨g,rfl⟩,rfl⟩:=h;exact⟨⟨k,v,g⟩,rfl⟩
theorem Ajk{x:I}(h:Fits shOp x):∃o:Opn,x=o.toI:=by
 obtain⟨_,rfl,x1,_,rfl,⟨v1,rfl,_⟩,x2,_,rfl,⟨v2,rfl⟩,x3,_,rfl,⟨xs,rfl,hxs⟩,x4,_,rfl,h4,x5,_,rfl,⟨v5,rfl,_⟩,x6,_,rfl,⟨v6,rfl,_⟩,rfl⟩:=h;obtain⟨s,rfl⟩:=Aiu h4;obtain⟨cl,rfl⟩:=Ahq (fun x hx=>Ajj hx) xs hxs
 exact⟨⟨v1,v2,cl,s,v5,v6⟩,rfl⟩
theorem Aie{x:I}(h:Fits (.sl 7 shOp) x):∃l:List Opn,x= .list (l.map Opn.toI):=by
 obtain⟨xs,rfl,hxs⟩:=h;obtain⟨l,rfl⟩:=Ahq (fun x hx=>Ajk hx) xs hxs
 exact⟨l,rfl⟩

open Go.Proofs Go.Proofs.YtkpojedpcabojaaDoor
open Go.ChangeShapes Go.WideShapes Go.ChangeAt Go.RowKit
theorem Aki:ownKnob Tryd.prog.godebug=none:=by kernel_rfl
theorem Af6(H:Type)(enc:TypeId × Value→H)(W:World)(base:Nat)(args:Array Value)(ds gs:List (DataW H))(before:List MemPlace)
 (hval:∀(j:Nat) t v,Tryd.f11.params[j]?=some t→args[j]?=some v→Value.okWide Tryd.prog W .any base t v)
 (hW:DataW.Whole enc Tryd.prog Tryd.f11.params.toList Rows.storePlaysSpec.vars false W args.toList ds gs before) (hL:laidMetH Tryd.prog F8 W):
 Calls Tryd.prog 11 args W fun e W'=>∃v,e= .returned v∧Rows.storePlaysSpec.post enc Tryd.prog Tryd.f11 false true false false W args v W':=by
 have hW0:=hW;obtain⟨p,q,hA,_⟩:=hW;have ho:oksT Tryd.prog Tryd.f11.params.toList [.sl 7 shOp]=true:=by kernel_rfl
 obtain⟨xs,h1,h2,h3⟩:=Me ho hA fun j t v a b=>hval j t v (by simpa using a) (by simpa using b)
 obtain⟨x,_,rfl,hx,rfl⟩:=h1;obtain⟨a,rfl⟩:=Aie hx;refine(Ad2 h2 h3 (Am4 a) (Adk hL)).mono ?_;rintro e W' ⟨rfl,hk,hos,hout,_⟩;refine⟨_,rfl,Ad4 (shs:=[.sl 7 shOp]) (tb:=4) rfl ?_ rfl Tryd.underlying4 ho hW0 hk hos hout⟩;intro ds hds
 match ds,hds with
 | [d0],_=>rfl
theorem Aii(os:Os)(started:os.Started)(H:Type)(enc:TypeId × Value→H):
 ReturnsInHanded {} Tryd.checked os 11 .any (fun w args=>(Rows.storePlaysSpec.pre enc Tryd.prog Tryd.f11 [] false w args∧laidMetH Tryd.prog F8 w)∧sizedMet enc Tryd.prog Tryd.f11 (OpenSpec.ofChange Rows.storePlaysSpec) false w args)
  (Rows.storePlaysSpec.post enc Tryd.prog Tryd.f11 false true false false):=by
 refine returnsInHanded_of_change_and (C:=Tryd.checked) (X:=fun w _=>laidMetH Tryd.prog F8 w) (fun _ _ _ hh h=>h.of_heap hh) Aki started (by kernel_rfl) Tryd.func11
  (ChangeSpec.witness_shaped (enc:=enc) (C:=Tryd.checked) (os:=os) (X:=fun w _=>laidMetH Tryd.prog F8 w) false (World.laidAll Tryd.prog os F8) #[.slice none 0 0] 8 (World.laidAll_os _ _ _)
    (World.shaped_of_ZipB (by kernel_rfl) (by kernel_rfl)) (by kernel_rfl) (by kernel_rfl) (by kernel_rfl)
    (by rw[MakeChecks.laidMetH_plain _ _ _ (by kernel_rfl)];exact laidMet_laidAll _ (by kernel_rfl) (by kernel_rfl))) ?_
 intro W base args ds gs before hval0 hW _ hsz hL _;exact Af6 H enc W base args ds gs before hval0 hW hL
theorem Aka:Rows.StorePlaysSaid:=
 OpenClaim.holds_of_wide 11 Tryd.f11 rfl rfl rfl rfl rfl rfl rfl ⟨rfl,rfl,rfl,rfl,rfl⟩ rfl rfl rfl rfl rfl (by kernel_rfl) Tryd.func11 (by kernel_rfl)
  (of_decide_eq_true (by kernel_rfl)) (by unfold Func.isWrapper;first|(rw[if_pos (by decide+kernel)];kernel_rfl)|(rw[if_neg (by decide+kernel)];exact⟨rfl,rfl⟩))
  (fun os started H enc _=>Aii os started H enc)
end Go.Ab
