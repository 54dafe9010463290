/- Lemmas -/
import Derived.Test.YtkpojedpcabojaaDoorAb22
import Derived.SizedLaws
import Derived.Test.YtkpojedpcabojaaDoorRows
import Derived.Lib.LaidU8T
import Derived.PinnedBridge
import Derived.LaidOnce
import Derived.LaidMore
import Derived.Test.YtkpojedpcabojaaDoorCards
import Derived.Test.YtkpojedpcabojaaDoorTie
import Derived.Test.YtkpojedpcabojaaDoorChecked
import Derived.JoinedCond
import Derived.Lay
import Derived.SevenTiedAt
set_option linter.unusedVariables false
set_option linter.unusedSimpArgs false
namespace Go.Ab
open Go.ChangeShapes Go.Deep
theorem Fm{α β:Type}{f g:α→Option β}:∀{l:List α} {xs:List β},l.mapM f=some xs→(∀a∈l,∀y∈xs,f a=some y→g a=some y)→l.mapM g=some xs
 | [],xs,h,_=>by simpa using h
 |a::l,xs,h,hg=>by
  simp only[List.mapM_cons]at h ⊢;obtain⟨y,g1,g2⟩:=Option.bind_eq_some_iff.1 h;obtain⟨z,g3,g4⟩:=Option.bind_eq_some_iff.1 g2;cases g4;rw[hg a (List.mem_cons_self ..) y (List.mem_cons_self ..) g1];have:=Fm (l:=l) g3 fun b hb x hx=>hg b (List.mem_cons_of_mem _ hb) x (List.mem_cons_of_mem _ hx)
  simp[this]
section
variable{H:Type}{enc:TypeId × Value → H}{P:Program}{W W':World}{sp':Nat → Bool}{held:Bool}
theorem Zg(hk:∀(b:Nat) (o:Obj),W.heap[b]?=some o→W'.heap[b]?=some o){a:Addr}{v:Value}(h:W.cell? a=some v):W'.cell? a=some v:=by
 unfold World.cell? at h ⊢;split at h
 ·rename_i bl ty fz hb;rw[hk _ _ hb];exact h
 ·cases h
theorem Xa(hk:∀(b:Nat) (o:Obj),W.heap[b]?=some o→W'.heap[b]?=some o){a:Addr}{n:Nat}{cs:List Value}(h:W.cells? 0 a n=some cs):W'.cells? 0 a n=some cs:=by
 unfold World.cells? at h ⊢;split at h
 ·rename_i h0;rw[if_pos h0];exact Fm h fun i _ y _ hy=>Zg hk hy
 ·cases h
theorem Hc(hk:∀(b:Nat) (o:Obj),W.heap[b]?=some o→W'.heap[b]?=some o):∀(fuel:Nat) (sh:Sh) {t:TypeId} {cs:List Value} {x:DataW H × List MemPlace},sh.ok P t=true→
 DataW.trod enc P W 0 (fun _=>true) held fuel t cs=some x→(∀p∈x.2,sp' p.block=true)→DataW.trod enc P W' 0 sp' held fuel t cs=some x
 |0,sh,t,cs,x,ho,h,hp=>by simp[DataW.trod]at h
 |fuel+1,.int k,t,cs,x,ho,h,hp=>by
  simp only[Sh.ok]at ho;split at ho
  ·rename_i k' ht;obtain⟨n,rfl,rfl,hw⟩:=DataW.trod_int ht h;simp[DataW.trod,ht,hw]
  ·cases ho
 |fuel+1,.bool,t,cs,x,ho,h,hp=>by
  simp only[Sh.ok]at ho;split at ho
  ·rename_i ht;obtain⟨b,rfl,rfl⟩:=DataW.trod_bool ht h;simp[DataW.trod,ht]
  ·cases ho
 |fuel+1,.str,t,cs,x,ho,h,hp=>by
  simp only[Sh.ok]at ho;split at ho
  ·rename_i ht;obtain⟨s,rfl,rfl,hs⟩:=DataW.trod_string ht h;simp[DataW.trod,ht,hs]
  ·cases ho
 |fuel+1,.st l,t,cs,x,ho,h,hp=>by
  simp only[Sh.ok]at ho;split at ho
  ·rename_i fs ht;simp only[DataW.trod,ht]at h ⊢;split at h
   ·rename_i hl;rw[if_pos hl];obtain⟨xs,h1,rfl⟩:=Option.map_eq_some_iff.1 h;have fld:∀(l:List Sh) (fs:List Field) (off tot:Nat) (xs:List (DataW H × List MemPlace)),Sh.oks P off tot fs l=true→
     (fs.mapM fun f=>DataW.trod enc P W 0 (fun _=>true) held fuel f.type ((cs.drop f.offset).take (P.cellsOf f.type)))=some xs→(∀y∈xs,∀p∈y.2,sp' p.block=true)→
     (fs.mapM fun f=>DataW.trod enc P W' 0 sp' held fuel f.type ((cs.drop f.offset).take (P.cellsOf f.type)))=some xs:=by
     intro l;induction l with
     |nil=>
      intro fs off tot xs ho h hp;cases fs with
      |nil=>simpa using h
      |cons f fs=>simp[Sh.oks]at ho
     |cons s l ih=>
      intro fs off tot xs ho h hp;cases fs with
      |nil=>simp[Sh.oks]at ho
      |cons f fs=>
       simp only[Sh.oks,Bool.and_eq_true,beq_iff_eq]at ho;simp only[List.mapM_cons]at h ⊢;obtain⟨y,g1,g2⟩:=Option.bind_eq_some_iff.1 h;obtain⟨z,g3,g4⟩:=Option.bind_eq_some_iff.1 g2;cases g4;rw[Hc hk fuel s ho.1.2 g1 (hp y (List.mem_cons_self ..))];have:=ih fs _ _ z ho.2 g3 fun y hy=>hp y (List.mem_cons_of_mem _ hy)
       simp[this]
    rw[fld l fs.toList 0 _ xs ho h1 fun y hy p hp'=>hp p (List.mem_flatMap.2 ⟨y,hy,hp'⟩)]
    rfl
   ·cases h
  ·cases ho
 |fuel+1,.ar sz n e,t,cs,x,ho,h,hp=>by
  simp only[Sh.ok]at ho;split at ho
  ·rename_i m e' ht;simp only[Bool.and_eq_true,beq_iff_eq]at ho;simp only[DataW.trod,ht]at h ⊢;split at h
   ·rename_i hl;rw[if_pos hl];obtain⟨xs,h1,rfl⟩:=Option.map_eq_some_iff.1 h;rw[Fm h1 fun i _ y hy h2=>Hc hk fuel e ho.2 h2 fun p hp'=>hp p (List.mem_flatMap.2 ⟨y,hy,hp'⟩)]
    rfl
   ·cases h
  ·cases ho
 |fuel+1,.sl sz e,t,cs,x,ho,h,hp=>by
  simp only[Sh.ok]at ho;split at ho
  ·rename_i e' ht;simp only[Bool.and_eq_true,beq_iff_eq,bne_iff_ne,ne_eq]at ho;obtain⟨⟨hsz,hz⟩,he⟩:=ho;have elem:∀{a:Addr} {i:Nat} {y:DataW H × List MemPlace},(∀p∈y.2,sp' p.block=true)→((W.cells? 0 (a.add (i*P.cellsOf e')) (P.cellsOf e')).bind (DataW.trod enc P W 0 (fun _=>true) held fuel e'))=some y→
    ((W'.cells? 0 (a.add (i*P.cellsOf e')) (P.cellsOf e')).bind (DataW.trod enc P W' 0 sp' held fuel e'))=some y:=by
    intro a i y hy h;obtain⟨cs',g1,g2⟩:=Option.bind_eq_some_iff.1 h;rw[Xa hk g1];exact Hc hk fuel e he g2 hy
   have hcs:cs=[.slice none 0 0]∨∃a len cap,cs=[.slice (some a) len cap]:=by
    rcases open_slice ht h with⟨h1,_⟩|⟨a,len,cap,_,_,_,_,h1,_⟩
    ·exact .inl h1
    ·exact .inr ⟨a,len,cap,h1⟩
   rcases hcs with rfl|⟨a,len,cap,rfl⟩
   ·simp only[DataW.trod,ht]at h ⊢;exact h
   ·simp only[DataW.trod,ht]at h ⊢;split at h
    ·rename_i hc;rw[if_pos hc];obtain⟨elems,g1,g2⟩:=Option.bind_eq_some_iff.1 h;obtain⟨rest,g3,rfl⟩:=Option.map_eq_some_iff.1 g2;have hrow:0<elems.length+rest.length→sp' a.block=true:=by
      intro h0;refine hp (.cell a.block (a.off+0)) (List.mem_append_left _ ?_);unfold MemPlace.row;refine List.mem_map.2 ⟨0,List.mem_range.2 (Nat.mul_pos h0 (by omega)),rfl⟩
     have hel:∀y∈elems++rest,∀p∈y.2,sp' p.block=true:=fun y hy p hp'=>hp p (List.mem_append_right _ (List.mem_flatMap.2 ⟨y,hy,hp'⟩))
     have k1:=Fm g1 fun i _ y hy h=>elem (hel y (List.mem_append_left _ hy)) h
     rw[k1];simp only[if_true]at g3;have k2:(if sp' a.block=true then(List.range (cap - len)).mapM fun j=>((W'.cells? 0 (a.add ((len+j)*P.cellsOf e')) (P.cellsOf e')).bind (DataW.trod enc P W' 0 sp' held fuel e'))else some [])=some rest:=by
      have k3:=Fm g3 fun j _ y hy h=>elem (hel y (List.mem_append_right _ hy)) h
      cases hs:sp' a.block with
      |true=>rw[if_pos rfl];exact k3
      |false=>
       rw[if_neg (by decide)]
       have hr0:rest=[]:=by
        cases rest with
        |nil=>rfl
        |cons r rs=>
         have:=hrow (by simp;omega)
         rw[hs]at this;cases this
       rw[hr0]
     simp only[Option.bind_some];rw[k2];rfl
    ·cases h
  ·cases ho
end

open Go.ChangeShapes Go.Deep Go.WideShapes Go.ChangeAt Go.RowKit
def oksT(P:Program):List TypeId→List Sh→Bool
 | [],[]=>true
 |t::ts,s::l=>s.ok P t&&oksT P ts l
 |_,_=>false
section
variable{H:Type}{enc:TypeId × Value → H}{P:Program}{W W':World}
theorem Aeb{sh:Sh}{t:TypeId}{x:I}{v:Value}{G:Mem}{b0:Nat}(ho:sh.ok P t=true)(hv:Value.okWide P W .any b0 t v)(hr:RepI G x v.cells.toList)(hf:Fits sh x):RepV G x v:=by
 unfold RepV;cases sh with
 |st l=>
  simp only[Sh.ok]at ho;split at ho
  ·rename_i fs ht;obtain⟨xs,rfl,_⟩:=hf;rw[if_pos (show(I.agg xs).isAgg=true from rfl)];unfold Value.okWide at hv;rw[ht]at hv;obtain⟨cs,rfl,_⟩:=hv;exact⟨cs,rfl,hr⟩
  ·cases ho
 |ar sz n e=>
  simp only[Sh.ok]at ho;split at ho
  ·rename_i m e' ht;obtain⟨xs,rfl,_⟩:=hf;rw[if_pos (show(I.arr sz xs).isAgg=true from rfl)];unfold Value.okWide at hv;rw[ht]at hv;obtain⟨cs,rfl,_⟩:=hv;exact⟨cs,rfl,hr⟩
  ·cases ho
 |_=>
  simp only[Sh.ok]at ho;split at ho<;>try(cases ho;done)
  rename_i ht;have hx:x.isAgg=false:=by
   obtain⟨_,rfl,_⟩:=hf;rfl
  rw[if_neg (by rw[hx];decide)]
  unfold Value.okWide at hv;rw[ht]at hv;cases v<;>first|exact hr|(exact absurd hv (by simp[Cell.okWide,Cell.ok,ht]))
theorem Me{b0:Nat}:∀{shs:List Sh} {ts:List TypeId} {vs:List Value} {ds:List (DataW H)} {p:List MemPlace},oksT P ts shs=true→DataW.TrodAll enc P W 0 (fun _=>true) true ts vs ds p→
 (∀(j:Nat) t v,ts[j]?=some t→vs[j]?=some v→Value.okWide P W .any b0 t v)→∃xs:List I,FitsL shs xs∧xs.length=vs.length∧∀(i:Nat) x v,xs[i]?=some x→vs[i]?=some v→RepV (De W) x v
 | [],[],[],[],p,_,_,_=>⟨[],rfl,rfl,by simp⟩
 |s::shs,t::ts,v::vs,d::ds,p,ho,h,hv=>by
  simp only[oksT,Bool.and_eq_true]at ho;obtain⟨p1,q,⟨fuel,h1⟩,h2,_⟩:=h;obtain⟨x,g1,g2⟩:=trod_item (sp:=fun _=>true) s ho.1 h1
  obtain⟨xs,g3,g4,g5⟩:=Me ho.2 h2 fun j t' v' a b=>hv (j+1) t' v' a b
  refine⟨x::xs,⟨x,xs,rfl,g2,g3⟩,by simp[g4],?_⟩
  intro i x' v' a b;cases i with
  |zero=>cases a;cases b;exact Aeb ho.1 (hv 0 t v rfl rfl) g1 g2
  |succ i=>exact g5 i x' v' a b
 | [],_::_,_,_,_,ho,_,_=>by cases ho
 |_::_,[],_,_,_,ho,_,_=>by simp[oksT]at ho
 | [],[],_::_,_,_,_,h,_=>by simp[DataW.TrodAll]at h
 | [],[],[],_::_,_,_,h,_=>by simp[DataW.TrodAll]at h
 |_::_,_::_,[],_,_,_,h,_=>by simp[DataW.TrodAll]at h
 |_::_,_::_,_::_,[],_,_,h,_=>by simp[DataW.TrodAll]at h
theorem Md{sp':Nat→Bool}(hk:∀(b:Nat) (o:Obj),W.heap[b]?=some o→W'.heap[b]?=some o):∀{shs:List Sh} {ts:List TypeId} {vs:List Value} {ds:List (DataW H)} {p:List MemPlace},oksT P ts shs=true→
 DataW.TrodAll enc P W 0 (fun _=>true) true ts vs ds p→(∀q∈p,sp' q.block=true)→DataW.TrodAll enc P W' 0 sp' true ts vs ds p
 | [],[],[],[],p,_,h,_=>h
 |s::shs,t::ts,v::vs,d::ds,p,ho,h,hp=>by
  simp only[oksT,Bool.and_eq_true]at ho;obtain⟨p1,q,⟨fuel,h1⟩,h2,rfl⟩:=h;exact⟨p1,q,⟨fuel,Hc hk fuel s ho.1 h1 fun y hy=>hp y (List.mem_append_left _ hy)⟩,Md hk ho.2 h2 fun y hy=>hp y (List.mem_append_right _ hy),rfl⟩
 | [],_::_,_,_,_,ho,_,_=>by cases ho
 |_::_,[],_,_,_,ho,_,_=>by simp[oksT]at ho
 | [],[],_::_,_,_,_,h,_=>by simp[DataW.TrodAll]at h
 | [],[],[],_::_,_,_,h,_=>by simp[DataW.TrodAll]at h
 |_::_,_::_,[],_,_,_,h,_=>by simp[DataW.TrodAll]at h
 |_::_,_::_,_::_,[],_,_,h,_=>by simp[DataW.TrodAll]at h
theorem Ad2{f:FuncId}{xs:List I}{args:Array Value}(hl:xs.length=args.toList.length)(hrep:∀(i:Nat) x v,xs[i]?=some x→args.toList[i]?=some v→RepV (De W) x v){outs:List SV}
 (h:Fn P f (xs.map SV.v) (Is (.v (.bool true)) outs)) (hamb:Amb.p (De W)):
 Calls P f args W fun e W'=>e= .returned (.bool true)∧(∀(b:Nat) (o:Obj),W.heap[b]?=some o→W'.heap[b]?=some o)∧W'.os=W.os∧W'.output=W.output∧W.heap.size≤W'.heap.size:=by
 have:=h (De W) (fun _=>none) (fun _=>none) W args ⟨fun b o hb=>hb,fun b lab hb=>(by cases hb),fun b b' lab hb _=>(by cases hb),fun b o hb=>(by cases hb),rfl,rfl,rfl,Nat.le_refl _,fun b o hb=>(by cases hb),hamb⟩
  (by simp[hl]) (by
    intro i sv hi;rw[List.getElem?_map]at hi;obtain⟨x,h1,rfl⟩:=Option.map_eq_some_iff.1 hi;refine⟨rfl,?_⟩;have hlt:i<args.toList.length:=by rw[←hl];exact(List.getElem?_eq_some_iff.1 h1).1
    have h2:args.toList[i]?=some (args.getD i undef):=by
     rw[List.getElem?_eq_getElem hlt];have hlt':i<args.size:=by simpa using hlt
     simp[Array.getD,hlt']
    exact hrep i x _ h1 h2)
 refine this.mono ?_;rintro e w' ⟨r,zs,c,G',σ',rfl,⟨rfl,_⟩,hG,hok,_,hr,_⟩;refine⟨?_,fun b o hb=>hok.fixed b o (hG b o hb),hok.os,hok.output,hok.size⟩
 have hr':RepV G' (.bool true) c:=hr;rw[RepV.bool]at hr';rw[hr']
theorem Ad4{f:Func}{s:ChangeSpec}{fresh handsOn again:Bool}{args:Array Value}{ds gs:List (DataW H)}{before:List MemPlace}{shs:List Sh}{tb:TypeId}
 (hvars:s.vars=[]) (hsp:∀ds:List (DataW H),ds.length=f.params.toList.length→s.fn H ds= {results:=[.lit (.bool true)],args:=ds}) (hres:f.resultTypes= #[tb]) (hb:P.underlying tb=some .bool)
 (ho:oksT P f.params.toList shs=true) (hW:DataW.Whole enc P f.params.toList s.vars false W args.toList ds gs before)
 (hk:∀(b:Nat) (o:Obj),W.heap[b]?=some o→W'.heap[b]?=some o) (hos:W'.os=W.os) (hout:W'.output=W.output):
 s.post enc P f false fresh handsOn again W args (.bool true) W':=by
 have hW0:=hW;obtain⟨p,q,hA,hV,rfl,hz,hn⟩:=hW;rw[hvars]at hV;have hgs:gs=[]∧q=[]:=by
  cases gs with
  |nil=>exact⟨rfl,hV⟩
  |cons g gs=>exact hV.elim
 obtain⟨rfl,rfl⟩:=hgs;have hlen:ds.length=f.params.toList.length:=by
  have aux:∀(ts:List TypeId) (vs:List Value) (ds:List (DataW H)) (p:List MemPlace),DataW.TrodAll enc P W 0 (fun _=>true) true ts vs ds p→ds.length=ts.length:=by
   intro ts;induction ts with
   |nil=>intro vs ds p h;cases vs<;>cases ds<;>first|rfl|exact h.elim
   |cons t ts ih=>
    intro vs ds p h;cases vs with
    |nil=>cases ds<;>exact h.elim
    |cons v vs=>
     cases ds with
     |nil=>exact h.elim
     |cons d ds=>
      obtain⟨_,_,_,h2,_⟩:=h;simp[ih _ _ _ h2]
  exact aux _ _ _ _ hA
 have hfn:=hsp ds hlen;have hag:∀sp':Nat→Bool,(∀x∈p,sp' x.block=true)→DataW.TrodAll enc P W' 0 sp' true f.params.toList args.toList ds p:=fun sp' h=>Md hk ho hA h
 have hold:∀x∈p,x.block<W.heap.size:=fun x hx=>hW0.lt x (List.mem_append_left _ hx)
 have hat:∀b,b<W.heap.size→∃o,W.heap[b]?=some o∧W'.heap[b]?=some o:=fun b hb'=>⟨_,Array.getElem?_eq_getElem hb',hk b _ (Array.getElem?_eq_getElem hb')⟩
 have hr:∀(b:Nat) (sp':Nat→Bool) (hd:Bool),DataW.TrodAll enc P W' b sp' hd f.resultTypes.toList ((Value.bool true).resultList f.resultTypes.size) [.lit (.bool true)] []:=by
  intro b sp' hd;rw[hres];exact trodAll_cons_mk (shut_bool hb true) trodAll_mk0
 have hkept:W.keptBut W' fun _=>False:=by
  refine⟨hos,hout,fun i hi=>?_⟩
  obtain⟨o,h1,h2⟩:=hat i hi;rw[h1,h2];cases o<;>simp
 refine⟨ds,[],p++[],[],p,[],hW0,?_,?_,?_,World.keptBut_mono (fun _ h=>h.elim) hkept,fun _=>?_⟩
 ·rw[List.append_nil,hfn];exact hr _ _ _
 ·rw[List.append_nil,hfn];exact hag _ fun x hx=>by simpa using hold x hx
 ·rw[List.append_nil,hfn,hvars];rfl
 ·refine⟨?_,_,[],([]++p)++[],⟨[]++p,[],trodAll_append (hag _ (fun _ _=>rfl)) (hr 0 _ _),by rw[hvars];rfl,rfl,?_,?_⟩,?_⟩
  ·intro j t r h1 h2;rw[hres]at h1 h2;cases j with
   |zero=>
    cases h1;have:r= .bool true:=by
     have h3:[Value.bool true][0]?=some r:=h2;simpa using h3.symm
    subst this;exact okWide_bool_mk hb _
   |succ j=>simp at h1
  ·intro b off hp;have hp':MemPlace.cell b off∈p:=by simpa using hp
   have h0:=hz b off (by simpa using hp')
   obtain⟨o,h1,h2⟩:=hat b (hold _ hp');unfold World.frozen? at h0 ⊢;rw[h2];rw[h1]at h0;exact h0
  ·intro ha;cases ha
  ·intro x hx _;simpa using hx
end

open Go.ChangeShapes Go.Deep Go.WideShapes Go.ChangeAt Go.RowKit
section
variable{H:Type}{enc:TypeId × Value → H}{P:Program}{W:World}
theorem mapM_length{α β:Type}{f:α→Option β}:∀{l:List α} {xs:List β},l.mapM f=some xs→xs.length=l.length
 | [],xs,h=>by simp at h;subst h;rfl
 |a::l,xs,h=>by
  rw[List.mapM_cons]at h;cases hf:f a with
  |none=>simp[hf]at h
  |some y=>
   cases hl:l.mapM f with
   |none=>simp[hf,hl]at h
   |some ys=>
    simp[hf,hl]at h;subst h;simp[mapM_length hl]
theorem Zc{b:Nat}{sp:Nat→Bool}{held:Bool}{fuel:Nat}{t e:TypeId}{a:Option Addr}{len cap:Nat}{x:DataW H × List MemPlace}(hu:P.underlying t=some (.slice e))
 (h:DataW.trod enc P W b sp held fuel t [.slice a len cap]=some x):len=0∨∃n∈x.1.weights P t,len*P.bytesOf e≤n:=by
 cases fuel with
 |zero=>simp[DataW.trod]at h
 |succ fuel=>
  cases a with
  |none=>
   cases len with
   |zero=>exact .inl rfl
   |succ n=>simp[DataW.trod,hu]at h
  |some a=>
   right;simp only[DataW.trod,hu]at h;split at h
   ·simp only[Option.bind_eq_some_iff,Option.map_eq_some_iff]at h;obtain⟨es,h1,rest,h2,rfl⟩:=h;refine⟨(es.length+rest.length)*P.bytesOf e,by simp[DataW.weights,hu],Nat.mul_le_mul_right _ ?_⟩
    have:=mapM_length h1;simp at this;omega
   ·cases h
theorem Tq{sp:Nat→Bool}{G:Mem}{e:TypeId}{l:List I}:∀{j:Nat} {ts more:List TypeId} {vs:List Value} {ds gs:List (DataW H)} {p:List MemPlace} {t:TypeId} {v:Value},
 DataW.TrodAll enc P W 0 sp true ts vs ds p→(DataW.weightsEach P (ts++more) (ds++gs)).all (· ≤reachBytes)=true→ts[j]?=some t→P.underlying t=some (.slice e)→vs[j]?=some v→RepV G (.list l) v→
 l.length*P.bytesOf e≤reachBytes
 |j,[],more,vs,ds,gs,p,t,v,hA,hw,ht,hu,hv,hr=>by simp at ht
 |j,t0::ts,more,[],ds,gs,p,t,v,hA,hw,ht,hu,hv,hr=>by simp at hv
 |j,t0::ts,more,v0::vs,[],gs,p,t,v,hA,hw,ht,hu,hv,hr=>by simp[DataW.TrodAll]at hA
 |0,t0::ts,more,v0::vs,d::ds,gs,p,t,v,hA,hw,ht,hu,hv,hr=>by
  simp only[List.getElem?_cons_zero,Option.some.injEq]at ht hv;subst ht hv;obtain⟨q1,q2,⟨fuel,hd⟩,_,_⟩:=hA;obtain⟨ad,cap,rfl,_⟩:=RepV.list.1 hr;rcases Zc hu hd with h0|⟨n,hn,hle⟩
  ·rw[h0,Nat.zero_mul];exact Nat.zero_le _
  ·simp only[List.cons_append,DataW.weightsEach,List.all_append,Bool.and_eq_true,List.all_eq_true,decide_eq_true_eq]at hw;exact Nat.le_trans hle (hw.1 n hn)
 |j+1,t0::ts,more,v0::vs,d::ds,gs,p,t,v,hA,hw,ht,hu,hv,hr=>by
  simp only[List.getElem?_cons_succ]at ht hv;obtain⟨q1,q2,_,hA',_⟩:=hA;simp only[List.cons_append,DataW.weightsEach,List.all_append,Bool.and_eq_true]at hw;exact Tq hA' hw.2 ht hu hv hr
end
set_option maxRecDepth 100000
set_option maxHeartbeats 4000000

open Go.Proofs Go.Lib
abbrev Ajp:Sh:=.st [.str,.str,.bool]
theorem Ahq{α:Type}{sh:Sh}{sz:Nat}{f:α→I}(hf:∀x,Fits sh x→∃a,x=f a):∀xs:List I,(∀y∈xs,Fits sh y∧y.size=sz)→∃l:List α,xs=l.map f
 | [],_=>⟨[],rfl⟩
 |y::ys,h=>by
  obtain⟨l,rfl⟩:=Ahq hf ys fun z hz=>h z (List.mem_cons_of_mem _ hz)
  obtain⟨s,rfl⟩:=hf y (h y (List.mem_cons_self ..)).1;exact⟨s::l,rfl⟩
theorem R8{W w:World}(hw:∀b o,De W b=some o→w.heap[b]?=some o){a:Addr}{v:Value}(h:W.cell? a=some v):w.cell? a=some v:=by
 unfold World.cell? at h ⊢;cases hb:W.heap[a.block]? with
 |none=>rw[hb]at h;cases h
 |some o=>rw[hw a.block o hb, ←hb];exact h
theorem Zt:Go.Proofs.YtkpojedpcabojaaDoor.Rows.laid_unicode_utf8_first=firstData:=Pinned.utf8First_eq
theorem Xk:(Go.Proofs.YtkpojedpcabojaaDoor.Rows.laid_unicode_utf8_acceptRanges:DataW Unit)=acceptData:=by kernel_rfl
abbrev F8:List (String × DataW Unit):=[("unicode/utf8.acceptRanges",Go.Proofs.YtkpojedpcabojaaDoor.Rows.laid_unicode_utf8_acceptRanges),("unicode/utf8.first",Go.Proofs.YtkpojedpcabojaaDoor.Rows.laid_unicode_utf8_first)]
theorem Adk{W:World}(hL:laidMetH Tryd.prog F8 W):Amb.p (De W):=by
 rw[MakeChecks.laidMetH_plain _ _ _ (by kernel_rfl)]at hL
 have hT:Lib.Utf8Tabs 0 1 W:=utf8Tabs_of_readsT {t5:=decL.t5,t119:=decL.t119,t138:=decL.t138,t139:=decL.t139} ⟨by kernel_rfl,by kernel_rfl,by kernel_rfl,by kernel_rfl,by kernel_rfl,by kernel_rfl,by kernel_rfl⟩
  (Zt ▸ Lib.laidMet.reads hL (.tail _ (.head _))) (Xk ▸ Lib.laidMet.reads hL (.head _))
 exact fun w hw=>⟨fun c hc=>R8 hw (hT.1 c hc),fun i hi=>⟨R8 hw (hT.2 i hi).1,R8 hw (hT.2 i hi).2⟩⟩

theorem Ajj{x:I}(h:Fits Ajp x):∃c:Chg,x=c.toI:=by
 obtain⟨_,rfl,a,_,rfl,⟨k,rfl⟩,b,_,rfl,⟨v,rfl⟩,c,_,rfl,⟨g,rfl⟩,rfl⟩:=h;exact⟨⟨k,v,g⟩,rfl⟩

theorem Wi{x:I}(h:Fits (.sl 3 Ajp) x):∃l:List Chg,x= .list (l.map Chg.toI):=by
 obtain⟨xs,rfl,hxs⟩:=h;obtain⟨l,rfl⟩:=Ahq (fun x hx=>Ajj hx) xs hxs
 exact⟨l,rfl⟩
theorem Ym{x:I}(h:Fits (.sl 1 (.sl 3 Ajp)) x):∃w:List (List Chg),x= .list (w.map fun l=>I.list (l.map Chg.toI)):=by
 obtain⟨xs,rfl,hxs⟩:=h;obtain⟨l,rfl⟩:=Ahq (f:=fun l:List Chg=>I.list (l.map Chg.toI)) (fun x hx=>Wi hx) xs hxs
 exact⟨l,rfl⟩

open Go.Proofs Go.Proofs.YtkpojedpcabojaaDoor
open Go.ChangeShapes Go.WideShapes Go.ChangeAt Go.RowKit
theorem Z2:ownKnob Tryd.prog.godebug=none:=by kernel_rfl
theorem Sg(H:Type)(enc:TypeId × Value→H)(W:World)(base:Nat)(args:Array Value)(ds gs:List (DataW H))(before:List MemPlace)
 (hval:∀(j:Nat) t v,Tryd.f5.params[j]?=some t→args[j]?=some v→Value.okWide Tryd.prog W .any base t v)
 (hW:DataW.Whole enc Tryd.prog Tryd.f5.params.toList Rows.quotaAfterSpec.vars false W args.toList ds gs before) (hsz:(DataW.weightsEach Tryd.prog (Tryd.f5.params.toList++Rows.quotaAfterSpec.plain.varTypes Tryd.prog) (ds++gs)).all (· ≤reachBytes)=true) (hL:laidMetH Tryd.prog F8 W):
 Calls Tryd.prog 5 args W fun e W'=>∃v,e= .returned v∧Rows.quotaAfterSpec.post enc Tryd.prog Tryd.f5 false true false false W args v W':=by
 have hW0:=hW;obtain⟨p,q,hA,_⟩:=hW;have ho:oksT Tryd.prog Tryd.f5.params.toList [.sl 1 (.sl 3 Ajp),.sl 3 Ajp]=true:=by kernel_rfl
 obtain⟨xs,h1,h2,h3⟩:=Me ho hA fun j t v a b=>hval j t v (by simpa using a) (by simpa using b)
 obtain⟨x,_,rfl,hx,y,_,rfl,hy,rfl⟩:=h1;obtain⟨a,rfl⟩:=Ym hx;obtain⟨l,rfl⟩:=Wi hy;obtain⟨v0,hv0⟩:∃v,args.toList[0]?=some v:=⟨_,List.getElem?_eq_getElem (by rw[←h2];simp)⟩
 have hb:=Tq (j:=0) hA hsz (t:=22) rfl Tryd.underlying22 hv0 (h3 0 _ _ rfl hv0);rw[List.length_map,show Tryd.prog.bytesOf 31=24 by kernel_rfl]at hb
 have hb2:a.length*24≤140737488351232:=by unfold reachBytes at hb;omega
 refine(Ad2 h2 h3 (Ab0 a l hb2) (Adk hL)).mono ?_;rintro e W' ⟨rfl,hk,hos,hout,_⟩;refine⟨_,rfl,Ad4 (shs:=[.sl 1 (.sl 3 Ajp),.sl 3 Ajp]) (tb:=4) rfl ?_ rfl Tryd.underlying4 ho hW0 hk hos hout⟩;intro ds hds
 match ds,hds with
 | [d0,d1],_=>rfl
theorem Y6(os:Os)(started:os.Started)(H:Type)(enc:TypeId × Value→H):
 ReturnsInHanded {} Tryd.checked os 5 .any (fun w args=>(Rows.quotaAfterSpec.pre enc Tryd.prog Tryd.f5 [] false w args∧laidMetH Tryd.prog F8 w)∧sizedMet enc Tryd.prog Tryd.f5 (OpenSpec.ofChange Rows.quotaAfterSpec) false w args)
  (Rows.quotaAfterSpec.post enc Tryd.prog Tryd.f5 false true false false):=by
 refine returnsInHanded_of_change_and (C:=Tryd.checked) (X:=fun w _=>laidMetH Tryd.prog F8 w) (fun _ _ _ hh h=>h.of_heap hh) Z2 started (by kernel_rfl) Tryd.func5
  (ChangeSpec.witness_shaped (enc:=enc) (C:=Tryd.checked) (os:=os) (X:=fun w _=>laidMetH Tryd.prog F8 w) false (World.laidAll Tryd.prog os F8) #[.slice none 0 0,.slice none 0 0] 8 (World.laidAll_os _ _ _)
    (World.shaped_of_ZipB (by kernel_rfl) (by kernel_rfl)) (by kernel_rfl) (by kernel_rfl) (by kernel_rfl)
    (by rw[MakeChecks.laidMetH_plain _ _ _ (by kernel_rfl)];exact laidMet_laidAll _ (by kernel_rfl) (by kernel_rfl))) ?_
 intro W base args ds gs before hval0 hW _ hsz hL _;exact Sg H enc W base args ds gs before hval0 hW hsz hL
theorem Zh:Rows.QuotaAfterSaid:=
 OpenClaim.holds_of_wide 5 Tryd.f5 rfl rfl rfl rfl rfl rfl rfl ⟨rfl,rfl,rfl,rfl,rfl⟩ rfl rfl rfl rfl rfl (by kernel_rfl) Tryd.func5 (by kernel_rfl)
  (of_decide_eq_true (by kernel_rfl)) (by unfold Func.isWrapper;first|(rw[if_pos (by decide+kernel)];kernel_rfl)|(rw[if_neg (by decide+kernel)];exact⟨rfl,rfl⟩))
  (fun os started H enc _=>Y6 os started H enc)
end Go.Ab
