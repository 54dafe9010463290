/- Lemmas -/
import Derived.Test.YtkpojedpcabojaaDoorAb14
import Derived.Laws.IdiomStrings
import Derived.Laws.BytesString
set_option linter.unusedVariables false
set_option linter.unusedSimpArgs false
namespace Go.Ab
inductive ETy where
 |int (k:IntKind)
 |bool
 |str
 |st (l:List ETy)
 deriving Inhabited
mutual
def ETy.size:ETy→Nat
 | .st l=>ETy.sizes l
 |_=>1
def ETy.sizes:List ETy→Nat
 | []=>0
 |e::l=>e.size+ETy.sizes l
end
def ETy.isSt:ETy→Bool
 | .st _=>true
 |_=>false
mutual
def ETy.ok(P:Program):Nat→ETy→TypeId→Bool
 |0,_,_=>false
 |_+1,.int k,t=>match P.underlying t with
  |some (.int k')=>k==k'
  |_=>false
 |_+1,.bool,t=>match P.underlying t with
  |some .bool=>true
  |_=>false
 |_+1,.str,t=>match P.underlying t with
  |some .string=>true
  |_=>false
 |n+1,.st l,t=> !P.stoodInHeld t&&ETy.oks P n l (P.fieldsOf t).toList 0&&(match P.underlying t with
  |some (.struct _)=>true
  |_=>false)
def ETy.oks(P:Program):Nat→List ETy→List Field→Nat→Bool
 |_,[],[],_=>true
 |n,e::l,f::fs,o=>f.name != "_" &&f.offset==o&&e.ok P n f.type&&tyOk P f.type e.isSt e.size&&ETy.oks P n l fs (o+e.size)
 |_,_,_,_=>false
end
mutual
def eqI:ETy→I→I→Option Bool
 | .int k,.int k1 a,.int k2 b=>if k1=k∧k2=k then some (decide (a=b))else none
 | .bool,.bool a,.bool b=>some (decide (a=b))
 | .str,.str a,.str b=>some (decide (a=b))
 | .st es,.agg l,.agg m=>eqIs es l m
 |_,_,_=>none
def eqIs:List ETy→List I→List I→Option Bool
 | [],[],[]=>some true
 |e::es,x::l,y::m=>match eqI e x y with
  |some r=>match eqIs es l m with
   |some r'=>some (r&&r')
   |none=>none
  |none=>none
 |_,_,_=>none
end
section
variable{P:Program}{N:Nat}{G:Mem}{σ:Lab}{Fr:Mem}{w0:Base}{w:World}{st:St}{a:Act}
theorem Yw{arr:Array Value}{pre cs post:List Value}{y:I}{t:TypeId}(h:arr.toList=pre++cs++post)(hy:RepI G y cs)(ht:tyOk P t y.isAgg y.size=true):
 ∃v,(part t arr pre.length).run P w= .ok v w∧RepV G y v:=by
 obtain⟨g1,g2⟩:=Q6 ht w;have hl:=RepI.length _ _ hy;cases hagg:y.isAgg with
 |true=>
  rw[hagg]at g1;refine⟨.agg (arr.extract pre.length (pre.length+y.size)),by simp[part,g1,g2],?_⟩
  unfold RepV;rw[if_pos hagg];refine⟨_,rfl,?_⟩;have:(arr.extract pre.length (pre.length+y.size)).toList=cs:=by
   rw[Array.toList_extract,h,List.extract_eq_take_drop, ←hl,Nat.add_sub_cancel_left,List.append_assoc,List.drop_left,List.take_left]
  rw[this];exact hy
 |false=>
  rw[hagg]at g1;have hone:y.size=1:=by cases y<;>simp_all [I.isAgg,I.size]
  rw[hone]at hl
  match cs,hl with
  | [v],_=>
    have hv:arr[pre.length]?=some v:=by
     have:arr[pre.length]?=arr.toList[pre.length]?:=by simp
     rw[this,h];simp
    refine⟨v,by simp[part,g1,hv],?_⟩
    unfold RepV;rw[if_neg (by simp[hagg])]
    exact hy
mutual
theorem eqI_shape:∀(e:ETy) (x y:I) (r:Bool),eqI e x y=some r→x.size=e.size∧y.size=e.size∧x.isAgg=e.isSt∧y.isAgg=e.isSt
 | .int k,x,y,r,h=>by
   cases x<;>cases y<;>simp[eqI]at h;simp[I.size,ETy.size,I.isAgg,ETy.isSt]
 | .bool,x,y,r,h=>by
   cases x<;>cases y<;>simp[eqI]at h;simp[I.size,ETy.size,I.isAgg,ETy.isSt]
 | .str,x,y,r,h=>by
   cases x<;>cases y<;>simp[eqI]at h;simp[I.size,ETy.size,I.isAgg,ETy.isSt]
 | .st es,x,y,r,h=>by
   cases x<;>cases y<;>simp only[eqI,reduceCtorEq]at h;obtain⟨h1,h2⟩:=eqIs_shape es _ _ r h;simp[I.size,ETy.size,I.isAgg,ETy.isSt,h1,h2]
theorem eqIs_shape:∀(es:List ETy) (l m:List I) (r:Bool),eqIs es l m=some r→sizes l=ETy.sizes es∧sizes m=ETy.sizes es
 | [],l,m,r,h=>by
   cases l<;>cases m<;>simp[eqIs]at h;simp[sizes,ETy.sizes]
 |e::es,l,m,r,h=>by
  cases l with
  |nil=>cases m<;>simp[eqIs]at h
  |cons x l=>
   cases m with
   |nil=>simp[eqIs]at h
   |cons y m=>
    simp only[eqIs]at h;cases h1:eqI e x y with
    |none=>simp[h1]at h
    |some r1=>
     cases h2:eqIs es l m with
     |none=>simp[h1,h2]at h
     |some r2=>
      obtain⟨k1,k2,_,_⟩:=eqI_shape e x y r1 h1;obtain⟨k3,k4⟩:=eqIs_shape es l m r2 h2;simp[sizes,ETy.sizes,k1,k2,k3,k4]
end
mutual
theorem eqI_run(G:Mem):∀(n d:Nat) (e:ETy) (t:TypeId) (x y:I) (u v:Value) (r:Bool),n≤d→e.ok P n t=true→eqI e x y=some r→RepV G x u→RepV G y v→(Op.equalIn d t u v).run P w= .ok r w
 |0,_,_,_,_,_,_,_,_,_,ho,_,_,_=>by simp[ETy.ok]at ho
 |n+1,0,_,_,_,_,_,_,_,hd,_,_,_,_=>by omega
 |n+1,d+1,.int k,t,x,y,u,v,r,_,ho,h,hx,hy=>by
  cases x<;>cases y<;>simp only[eqI,reduceCtorEq]at h;split at h
  ·rename_i hk;cases h;rw[RepV.int]at hx hy;simp only[ETy.ok]at ho;split at ho
   ·rename_i hu;rw[hx,hy,hk.1,hk.2,run_equalIn_int w d t _ _ _ _ hu,beq_eq]
   ·cases ho
  ·cases h
 |n+1,d+1,.bool,t,x,y,u,v,r,_,ho,h,hx,hy=>by
  cases x<;>cases y<;>simp only[eqI,Option.some.injEq,reduceCtorEq]at h;rename_i p q;subst h;rw[RepV.bool]at hx hy;simp only[ETy.ok]at ho;split at ho
  ·rename_i hu;have e:(p==q)=decide (p=q):=by cases p<;>cases q<;>rfl
   rw[hx,hy,run_equalIn_bool' w d t p q hu,e]
  ·cases ho
 |n+1,d+1,.str,t,x,y,u,v,r,_,ho,h,hx,hy=>by
  cases x<;>cases y<;>simp only[eqI,Option.some.injEq,reduceCtorEq]at h;rename_i p q;subst h;rw[RepV.str]at hx hy;simp only[ETy.ok]at ho;split at ho
  ·rename_i hu;have e:((⟨⟨p⟩⟩:ByteArray).toList==(⟨⟨q⟩⟩:ByteArray).toList)=decide (p=q):=by
    rw[Bool.eq_iff_iff];simp
   rw[hx.1,hy.1,run_equalIn_string w d t _ _ hu,e]
  ·cases ho
 |n+1,d+1,.st es,t,x,y,u,v,r,hd,ho,h,hx,hy=>by
  cases x<;>cases y<;>simp only[eqI,reduceCtorEq]at h;rename_i l m;unfold RepV at hx hy;rw[if_pos (show(I.agg l).isAgg=true from rfl)]at hx;rw[if_pos (show(I.agg m).isAgg=true from rfl)]at hy;obtain⟨xs,rfl,hx⟩:=hx;obtain⟨ys,rfl,hy⟩:=hy;simp only[ETy.ok,Bool.and_eq_true,Bool.not_eq_true']at ho;obtain⟨⟨h1,h2⟩,h3⟩:=ho;split at h3
  ·rename_i fs hu;have hfs:P.fieldsOf t=fs:=by simp[Program.fieldsOf,hu]
   rw[run_equalIn_struct w d t xs ys (by rw[hfs];exact hu) h1]
   exact eqIs_run G n d es _ 0 l m xs ys [] [] xs.toList ys.toList r (by omega) h2 h (by simp) (by simp) rfl rfl hx hy
  ·cases h3
theorem eqIs_run(G:Mem):∀(n d:Nat) (es:List ETy) (fs:List Field) (o:Nat) (l m:List I) (xs ys:Array Value) (p q cs ds:List Value) (r:Bool),n≤d→ETy.oks P n es fs o=true→eqIs es l m=some r→
 xs.toList=p++cs→ys.toList=q++ds→p.length=o→q.length=o→RepIs G l cs→RepIs G m ds→(Op.eqFields d xs ys fs).run P w= .ok r w
 |n,d,[],fs,o,l,m,xs,ys,p,q,cs,ds,r,hd,ho,h,_,_,_,_,_,_=>by
  cases fs with
  |cons f fs=>simp[ETy.oks]at ho
  |nil=>
   cases l<;>cases m<;>simp[eqIs]at h;subst h;simp[Op.eqFields]
 |n,d,e::es,fs,o,l,m,xs,ys,p,q,cs,ds,r,hd,ho,h,hp,hq,hpl,hql,hl,hm=>by
  cases fs with
  |nil=>simp[ETy.oks]at ho
  |cons f fs=>
   cases l with
   |nil=>cases m<;>simp[eqIs]at h
   |cons x l=>
    cases m with
    |nil=>simp[eqIs]at h
    |cons y m=>
     simp only[eqIs]at h;cases h1:eqI e x y with
     |none=>simp[h1]at h
     |some r1=>
      cases h2:eqIs es l m with
      |none=>simp[h1,h2]at h
      |some r2=>
       simp only[h1,h2,Option.some.injEq]at h;subst h;simp only[ETy.oks,Bool.and_eq_true,beq_iff_eq,bne_iff_ne,ne_eq]at ho;obtain⟨⟨⟨⟨k1,k2⟩,k3⟩,k4⟩,k5⟩:=ho;obtain⟨s1,s2,s3,s4⟩:=eqI_shape e x y r1 h1;obtain⟨c1,d1,e1,e2,e3⟩:=hl;obtain⟨c2,d2,e4,e5,e6⟩:=hm;obtain⟨u,hu1,hu2⟩:=Yw (P:=P) (w:=w) (pre:=p) (post:=d1) (by rw[hp,e1,List.append_assoc]) e2 (by rw[s3,s1];exact k4)
       obtain⟨v,hv1,hv2⟩:=Yw (P:=P) (w:=w) (pre:=q) (post:=d2) (by rw[hq,e4,List.append_assoc]) e5 (by rw[s4,s2];exact k4)
       have hr1:=eqI_run G n d e f.type x y u v r1 hd k3 h1 hu2 hv2;have hl1:=RepI.length _ _ e2;have hl2:=RepI.length _ _ e5;have ih:=eqIs_run G n d es fs (o+e.size) l m xs ys (p++c1) (q++c2) d1 d2 r2 hd k5 h2 (by rw[hp,e1,List.append_assoc]) (by rw[hq,e4,List.append_assoc]) (by simp[hpl,hl1,s1]) (by simp[hql,hl2,s2]) e3 e6
       rw[hpl]at hu1;rw[hql]at hv1;simp only[Op.eqFields];rw[if_pos k1];simp only[Sem.run_bind,k2,hu1,hv1,hr1,Result.andThen];cases r1 with
       |true=>simpa using ih
       |false=>simp
end
def Ahf(d:Option Nat)(neg:Bool)(e:ETy)(x y:Opd):M:=rdI x fun i=>rdI y fun j=>match eqI e i j with
 |some r=>selI neg (.bool (!r)) (.bool r) fun r=>setD d (.v r) .done
 |none=>.fail
def eqOk(P:Program)(e:ETy)(t:TypeId):Bool:=e.ok P 20 t&&(match e with
 | .st _=> !P.eqGuardType P.depth t
 | .bool=>true
 |_=>false)
theorem Zy{o:Oper}{neg:Bool}{t u:TypeId}{x y:Operand}{x' y':Opd}{e:ETy}(ho:o.op= .binOp (if neg then .neq else .eql) t x y u)(hx:Jj N x x'=true)(hy:Jj N y y'=true)(he:eqOk P e t=true):
 Sound P N o (Ahf o.dst neg e x' y'):=by
 intro G σ Fr w0 st a w Q next E hN hr hw hn hdst
 subst hN;obtain⟨i,h1,hi⟩:=J8 hr hx hw;clear hw;obtain⟨j,hw,hj⟩:=J8 hr hy h1;clear h1;split at hw
 ·rename_i r hr';unfold eqOk at he;simp only[Bool.and_eq_true]at he;have hrun:=eqI_run (P:=P) (w:=w) G 20 10000 e t i j _ _ r (by omega) he.1 hr' hi hj
  have hw:(setD o.dst (.v (.bool (if neg then !r else r))) .done).wp P Q st:=by cases neg<;>exact hw
  refine J1 hr hn hdst (RepV.bool.2 rfl) hw ?_;cases e with
  |st es=>
   cases i<;>cases j<;>simp only[eqI,reduceCtorEq]at hr';unfold RepV at hi hj;rw[if_pos (show(I.agg _).isAgg=true from rfl)]at hi hj;obtain⟨xs,hxs,_⟩:=hi;obtain⟨ys,hys,_⟩:=hj;have hg:P.eqGuardType P.depth t=false:=by simpa using he.2
   rw[hxs,hys]at hrun;cases neg with
   |true=>simp[execOp,ho,hxs,hys,run_eqGuard_agg w .neq t x y xs ys hg,run_neq_struct,hrun]
   |false=>simp[execOp,ho,hxs,hys,run_eqGuard_agg w .eql t x y xs ys hg,run_eql_struct,hrun]
  |bool=>
   cases i<;>cases j<;>simp only[eqI,reduceCtorEq]at hr';rw[RepV.bool]at hi hj;rw[hi,hj]at hrun;have hrun':(Op.equal t (.bool _) (.bool _)).run P w=_:=hrun;cases neg with
   |true=>simp[execOp,ho,hi,hj,eqGuard,binOp,hrun']
   |false=>simp[execOp,ho,hi,hj,eqGuard,binOp,hrun']
  |_=>simp at he
 ·exact hw.elim
theorem Ae0{o:Oper}{t:TypeId}{x i:Operand}{x' i':Opd}(ho:o.op= .index t x i)(hx:Jj N x x'=true)(hi:Jj N i i'=true)(ht:P.underlying t=some .string):Sound P N o (Agx o.dst x' i'):=by
 intro G σ Fr w0 st a w Q next E hN hr hw hn hdst
 subst hN;obtain⟨u,h1,hu⟩:=J8 hr hx hw;clear hw;obtain⟨v,hw,hv⟩:=J8 hr hi h1;clear h1;split at hw
 ·rename_i s k n;split at hw
  ·rename_i b hb;obtain⟨h0,hw⟩:=hw;rw[RepV.str]at hu;rw[RepV.int]at hv;have hlt:n.toNat<s.length:=(List.getElem?_eq_some_iff.1 hb).1;have hget:(⟨⟨s⟩⟩:ByteArray)[n.toNat]?=some b:=by
    have hsz:n.toNat<(⟨⟨s⟩⟩:ByteArray).size:=hlt;have:(⟨⟨s⟩⟩:ByteArray)[n.toNat]=b:=by
     have:=(List.getElem?_eq_some_iff.1 hb).2;exact this
    rw[getElem?_pos (⟨⟨s⟩⟩:ByteArray) n.toNat hsz,this]
   refine J1 hr hn hdst (RepV.int.2 rfl) hw ?_;simp[execOp,ho,hu.1,hv,Instr.index,asIntOf,run_underlying ht,h0,hget]
  ·exact hw.elim
 ·exact hw.elim
end

section
variable{P:Program}{N:Nat}{G:Mem}{σ:Lab}{Fr:Mem}{w0:Base}{w:World}{st:St}{a:Act}
end

section
variable{P:Program}{N:Nat}{G:Mem}{σ:Lab}{Fr:Mem}{w0:Base}{w:World}{st:St}{a:Act}
end

def bytesOf:List I→Option (List UInt8)
 | []=>some []
 | .int .u8 n::l=>match bytesOf l with
   |some r=>some (UInt8.ofNat n.toNat::r)
   |none=>none
 |_::_=>none
def Y4(d:Nat)(x:Opd):M:=match x with
 | .t n=>.get n fun _ sv=>match sv with
   | .vec _ sz l=>match bytesOf l with
     |some r=>.need (sz=1∧r.length≤maxLen) fun _=>Jz d (.v (.str r))
     |none=>.fail
   | .bor s k v=>.get s fun cur sv'=>.need (v=cur) fun _=>match sv'.vecAt k with
     |some (_,sz,l)=>match bytesOf l with
      |some r=>.need (sz=1∧r.length≤maxLen) fun _=>Jz d (.v (.str r))
      |none=>.fail
     |none=>.fail
   |_=>.fail
 |_=>.fail
def Acu(P:Program)(src dst:TypeId):Bool:=match P.underlying src,P.underlying dst with
 |some (.slice e),some .string=>match P.underlying e with
  |some (.int .u8)=>true
  |_=>false
 |_,_=>false
section
variable{P:Program}{N:Nat}{G:Mem}{σ:Lab}{Fr:Mem}{w0:Base}{w:World}{st:St}{a:Act}
theorem Tb{G:Mem}:∀{l:List I} {cs:List Value} {r:List UInt8},bytesOf l=some r→RepIs G l cs→r.length=l.length∧∃ns:List Int,cs=ns.map (Value.int .u8)∧r=ns.map fun n=>UInt8.ofNat n.toNat
 | [],cs,r,h,hr=>by
   cases h;simp only[RepIs]at hr;exact⟨rfl,[],by simp[hr],rfl⟩
 | .int .u8 n::l,cs,r,h,hr=>by
   simp only[bytesOf]at h;cases hb:bytesOf l with
   |none=>simp[hb]at h
   |some r'=>
    simp only[hb,Option.some.injEq]at h;subst h;simp only[RepIs]at hr;obtain⟨c,d,rfl,h1,h2⟩:=hr;simp only[RepI]at h1;subst h1;obtain⟨hl,ns,rfl,rfl⟩:=Tb hb h2;exact⟨by simp[hl],n::ns,by simp,by simp⟩
theorem Yy:∀(ns:List Int) (s:ByteArray),(ns.foldl (fun r n=>r.push (UInt8.ofNat n.toNat)) s)=⟨⟨s.data.toList++ns.map fun n=>UInt8.ofNat n.toNat⟩⟩
 | [],s=>by simp
 |n::ns,s=>by
  rw[List.foldl_cons,Yy ns];simp[ByteArray.push]
theorem Age{o:Oper}{d:Nat}{src dst:TypeId}{x:Operand}{x':Opd}(hd:o.dst=some d)(ho:o.op= .convert src dst x)(hx:Jj N x x'=true)(ht:Acu P src dst=true):
 Sound P N o (Y4 d x'):=by
 intro G σ Fr w0 st a w Q next E hN hr hw hn hdst
 subst hN;unfold Acu at ht;split at ht
 case h_2=>cases ht
 rename_i e hsrc hdt;split at ht
 case h_2=>cases ht
 rename_i he;have run:∀{c:Value} {s:List UInt8},a.eval x=c→(Conv.bytesToString c).run P w= .ok (.string ⟨⟨s⟩⟩) w→(∃ad l cap,c= .slice ad l cap)→(execOp a.eval o).run P w= .ok (.value (.string ⟨⟨s⟩⟩)) w:=by
  rintro c s hc hrun ⟨ad,l,cap,rfl⟩;have:=run_convert_bytes_string (P:=P) w src dst e ad l cap hsrc he hdt;rw[hrun]at this;simp[execOp,ho,hc,this]
 have row:∀{b off cap n:Nat} {bl:Array Value} {ty:TypeId} {fz:Nat × Nat} {l:List I} {cs:List Value} {r:List UInt8},w.heap[b]?=some (.cells bl ty fz)→cs=(bl.toList.drop off).take n→n=l.length→RepIs G l cs→bytesOf l=some r→
  (Conv.bytesToString (.slice (some ⟨b,off,none⟩) n cap)).run P w= .ok (.string ⟨⟨r⟩⟩) w:=by
  intro b off cap n bl ty fz l cs r hb hcs hn hrep hr;obtain⟨hl,ns,hns,hrs⟩:=Tb hr hrep;have hcl:cs.length=n:=by rw[hns,List.length_map,hn, ←hl,hrs,List.length_map]
  have hload:=run_loadCells_list (P:=P) w ⟨b,off,none⟩ cs (fun j v hj=>by
   rw[add_lit,cell_of_row w b (off+j) bl ty fz hb];have:bl[off+j]?=bl.toList[off+j]?:=by simp
   rw[this, ←List.getElem?_drop];rw[hcs,List.getElem?_take]at hj;split at hj
   ·exact hj
   ·cases hj)
  rw[hcl]at hload;have:=run_bytesToString (P:=P) w ⟨b,off,none⟩ n cap ns (by rw[hload,hns])
  rw[this,Yy];simp[hrs]
 cases x' with
 |t n=>
  obtain⟨rfl,hnlt⟩:=J0 hx;simp only[Y4,M.wp]at hw;cases hs:st[n]? with
  |none=>simp[hs]at hw
  |some cur0=>
   obtain⟨ver,sv⟩:=cur0;simp only[hs]at hw;have hrep:=hr.slot hnlt hs;have fin:∀{lab:Nat × Nat} {e':TypeId} {sz':Nat} {l:List I} {r:List UInt8},VecAt G σ w lab e' sz' l (a.eval (.tmp n))→bytesOf l=some r→sz'=1∧r.length≤maxLen→(Jz d (.v (.str r))).wp P Q st→o.wp P a w next E:=by
    rintro lab e' sz' l r ⟨xs,h1,h2,h3,h4⟩ hr' ⟨rfl,hmax⟩ hw;have hrun:(Conv.bytesToString (a.eval (.tmp n))).run P w= .ok (.string ⟨⟨r⟩⟩) w∧∃ad l cap,a.eval (.tmp n)= .slice ad l cap:=by
     rcases h1.2 with⟨hc,h0⟩|⟨g,cap,cur',hc,_,⟨ty,fz,hg,_⟩,hn',hm,hsz,htk⟩
     ·have hl0:l=[]:=List.eq_nil_of_length_eq_zero h0;subst hl0;cases hr';rw[hc];exact⟨by simp[Conv.bytesToString];rfl,_,_,_,rfl⟩
     ·rw[hc];refine⟨row (l:=l) (cs:=xs) hg ?_ rfl h2 hr',_,_,_,rfl⟩;rw[List.drop_zero, ←htk,Nat.mul_one]
    obtain⟨σ',st',r1,r2⟩:=hr.setNV (hdst d hd) (RepV.str.2 ⟨rfl,hmax⟩) hw;exact Jt (run rfl hrun.1 hrun.2) (by rw[hd];exact hn G σ' st' _ w (Mem.le.refl G) r1 r2)
   split at hw
   ·split at hw
    ·rename_i r hr';obtain⟨hm,hw⟩:=hw;exact fin hrep hr' hm hw
    ·exact hw.elim
   ·rename_i s k v;obtain⟨cur,g1,g2,g3⟩:=hrep;simp only[M.wp,g1]at hw;obtain⟨hv,hw⟩:=hw;obtain⟨e',sz',l,g4,g5⟩:=g3 hv;simp only[g4]at hw;split at hw
    ·rename_i r hr';obtain⟨hm,hw⟩:=hw;exact fin g5 hr' hm hw
    ·exact hw.elim
   ·exact hw.elim
 |_=>exact hw.elim
end

section
variable{P:Program}{N:Nat}{G:Mem}{σ:Lab}{Fr:Mem}{w0:Base}{w:World}{st:St}{a:Act}
theorem RepPs.cons{G:Mem}{x:I}{p:Value}{l:List I}{r:List Value}(h:RepRp G x p)(hl:RepPs G l r):RepPs G (x::l) (p::r):=by
 obtain⟨b,off,bl,ty,fz,pre,cs,post,h1,h2,h3,h4,h5⟩:=h;simp only[RepPs];exact⟨p,r,b,off,bl,ty,fz,pre,cs,post,rfl,h1,h2,h3,h4,h5,hl⟩
end

section
variable{P:Program}{N:Nat}{G:Mem}{σ:Lab}{Fr:Mem}{w0:Base}{w:World}{st:St}{a:Act}
theorem WOk.room(h:WOk G σ Fr w0 w)(s:Nat):∃K,∀b k,σ b=some (s,k)→k<K:=by
 have aux:∀n,∃K,∀b,b<n→∀k,σ b=some (s,k)→k<K:=by
  intro n;induction n with
  |zero=>exact⟨0,fun b hb=>by omega⟩
  |succ n ih=>
   obtain⟨K,hK⟩:=ih;cases hn:σ n with
   |none=>exact⟨K,fun b hb k hk=>by
    rcases Nat.lt_succ_iff_lt_or_eq.1 hb with h|rfl
    ·exact hK b h k hk
    ·rw[hn]at hk;cases hk⟩
   |some p=>exact⟨max K (p.2+1),fun b hb k hk=>by
    rcases Nat.lt_succ_iff_lt_or_eq.1 hb with h|rfl
    ·have:=hK b h k hk;omega
    ·rw[hn]at hk;cases hk;simp only;omega⟩
 obtain⟨K,hK⟩:=aux w.heap.size;exact⟨K,fun b k hb=>hK b (h.own b _ hb).2.2 k hb⟩
def Lab.adopt(σ:Lab)(s K:Nat)(bs:List Nat):Lab:=fun b=>if b∈bs then some (s,K+bs.idxOf b)else σ b
theorem Lab.adopt_new{s K:Nat}{bs:List Nat}{b:Nat}(h:b∈bs):σ.adopt s K bs b=some (s,K+bs.idxOf b):=by simp[Lab.adopt,h]
theorem Lab.adopt_old{s K:Nat}{bs:List Nat}{b:Nat}(h:b ∉ bs):σ.adopt s K bs b=σ b:=by simp[Lab.adopt,h]
theorem Wu{bs:List Nat}{b b':Nat}(h:b∈bs)(h':b'∈bs)(e:bs.idxOf b=bs.idxOf b'):b=b':=by
 have h1:=List.getElem_idxOf (List.idxOf_lt_length_of_mem h);have h2:=List.getElem_idxOf (List.idxOf_lt_length_of_mem h');rw[←h1, ←h2];simp only[e]
theorem WOk.adopt{s K:Nat}{bs:List Nat}(h:WOk G σ Fr w0 w)(hK:∀b k,σ b=some (s,k)→k<K)(hf:∀b∈bs,G b=none∧Fr b=none∧b<w.heap.size):WOk G (σ.adopt s K bs) Fr w0 w:=by
 refine⟨h.fixed,?_,?_,h.frame,h.os,h.tape,h.output,h.size,h.apart,h.amb⟩
 ·intro b lab hb;by_cases hm:b∈bs
  ·exact hf b hm
  ·rw[Lab.adopt_old hm]at hb;exact h.own b lab hb
 ·intro b b' lab hb hb';by_cases hm:b∈bs<;>by_cases hm':b'∈bs
  ·rw[Lab.adopt_new hm]at hb;rw[Lab.adopt_new hm']at hb';rw[←hb']at hb;simp only[Option.some.injEq,Prod.mk.injEq,true_and]at hb;exact Wu hm hm' (by omega)
  ·rw[Lab.adopt_new hm]at hb;rw[Lab.adopt_old hm', ←hb]at hb';have:=hK _ _ hb';omega
  ·rw[Lab.adopt_old hm]at hb;rw[Lab.adopt_new hm']at hb';obtain rfl:=Option.some.inj hb';have:=hK _ _ hb;omega
  ·rw[Lab.adopt_old hm]at hb;rw[Lab.adopt_old hm']at hb';exact h.inj b b' lab hb hb'
def FreeD(G:Mem)(σ:Lab)(Fr:Mem)(w:World)(u:D)(c:Value):Prop:=
 ∃bs,RepD G w u c.cells.toList bs∧valOf u.isAgg c=true∧bs.Nodup∧∀b∈bs,G b=none∧Fr b=none∧σ b=none∧b<w.heap.size
theorem FreeD.item{u:I}{c:Value}(h:RepV G u c):FreeD G σ Fr w (.it u) c:=by
 refine⟨[],?_,?_,List.nodup_nil,by simp⟩
 ·simp only[RepD,and_true];exact h.cells
 ·unfold RepV at h;simp only[D.isAgg];split at h
  ·rename_i hx;obtain⟨cs,rfl,_⟩:=h;rw[hx];rfl
  ·rename_i hx;rw[show u.isAgg=false by simpa using hx]
   have:=RepI.one _ _ h c (by simp)
   cases c<;>first|rfl|(simp[Value.oneCell']at this)
end

section
variable{P:Program}{N:Nat}{G:Mem}{σ:Lab}{Fr:Mem}{w0:Base}{w:World}{st:St}{a:Act}
theorem Pm{fz:Nat × Nat}{t:TypeId}{agg:Bool}{b off:Nat}{bl:Array Value}{ty:TypeId}{pre cs post:List Value}{v:Value}(h:tyOk P t agg cs.length=true)
 (hh:w.heap[b]?=some (.cells bl ty fz)) (hfz:fz=(0,0)∨bl.size≤fz.1) (hs:bl.toList=pre++cs++post) (hp:pre.length=off) (h1:∀c∈v.cells.toList,c.oneCell'=true) (hlen:v.cells.toList.length=cs.length):
 (storeVar t ⟨b,off,none⟩ v).run P w= .ok () (w.setRow b (pre++v.cells.toList++post).toArray):=by
 obtain⟨_,h2⟩:=Q6 h w;have hblen:bl.size=pre.length+cs.length+post.length:=by
  have:bl.size=bl.toList.length:=by simp
  rw[this,hs];simp;omega
 have hst:=Pk P b off ty fz v.cells.toList 0 bl w hh hfz (by rw[hlen,hblen,hp];omega) h1
 have e1:bl.toList.take (off+0)=pre:=by rw[hs,List.append_assoc,Nat.add_zero, ←hp,List.take_left]
 have e2:bl.toList.drop (off+0+v.cells.toList.length)=post:=by
  rw[hs,hlen,Nat.add_zero, ←hp, ←List.length_append,List.drop_left]
 rw[e1,e2]at hst;have hsz:v.cells.size=cs.length:=by rw[←hlen];simp
 simp[storeVar,h2,hsz,hst]
theorem Rel.setPlace{s cur:Nat}{inv:Inv}{p:List Nat}{t t' u u':D}{tt:TypeId}{agg:Bool}{c cv:Value}(h:Rel G σ Fr w0 st a w)(hs:st[s]?=some (cur,.own inv t))(hat:t.at p=some u)(hput:t.put p u'=some t')
 (hfree:FreeD G σ Fr w u' cv) (hag:u'.isAgg=u.isAgg) (hsz:u'.size=u.size) (hpt:PtD w t (val a w0 s) p c) (ht:tyOk P tt agg u.size=true):
 ∃b o w' σ',c= .pointer (some ⟨b,o,none⟩)∧(storeVar tt ⟨b,o,none⟩ cv).run P w= .ok () w'∧
  Rel G σ' Fr w0 (st.set s (cur+1,.own (if u.leaf then inv else bump inv p (cur+1)) t')) a w':=by
 obtain⟨bs,hrep,hva,hnd,hlab⟩:=show OwnD G σ w s t (val a w0 s)from h.slots s cur _ hs;obtain⟨m,s',ubs,f1,f2,f3,f4,f5,f6⟩:=focus (here:=none) hrep hnd hat
 obtain⟨u0,b,o,cs,p1,p2,rfl⟩:=hpt;rw[f1]at p2;obtain rfl:=Option.some.inj p2;have hp0:p≠[]:=by
  rintro rfl;simp only[spot,Option.some.injEq,Prod.mk.injEq]at f1;cases f1.1
 obtain⟨ubs',g1,g2,g3,g4⟩:=hfree;have hcl:cs.length=u.size:=RepD.length f2;have hvl:cv.cells.toList.length=cs.length:=by rw[RepD.length g1,hsz,hcl]
 cases m with
 |inl pre post=>obtain⟨_,e⟩:=f5;cases e
 |val=>cases f5
 |blk g pre post ty fz=>
  obtain⟨q1,q2,⟨row,q3,q4,q5⟩,q6⟩:=f5;simp only[Option.some.injEq,Prod.mk.injEq]at q6;obtain⟨rfl,rfl⟩:=q6;simp only at q5;have hrun:=Pm (P:=P) (cs:=cs) (v:=cv) (t:=tt) (agg:=agg) (by rw[hcl];exact ht) q3 q4 q5 rfl (RepD.one g1) hvl
  obtain⟨kb,hkb⟩:=hlab b q1;have hbu:b ∉ ubs':=fun hb=>by
   have:=(g4 b hb).2.2.1;rw[hkb]at this;cases this
  have hub:∀x∈ubs',x ∉ bs:=fun x hx hb=>by
   obtain⟨k,hk⟩:=hlab x hb;have:=(g4 x hx).2.2.1;rw[hk]at this;cases this
  have hset:(w.setRow b (pre++cv.cells.toList++post).toArray).heap[b]?=some (.cells (pre++cv.cells.toList++post).toArray ty fz):=setRow_heap w b row _ ty fz q3;have hoth:∀x,x≠b→(w.setRow b (pre++cv.cells.toList++post).toArray).heap[x]?=w.heap[x]?:=fun x hx=>setRow_other w b x _ hx
  obtain⟨bs',r1,r2,r3,r4,r5⟩:=f6 G (w.setRow b (pre++cv.cells.toList++post).toArray) u' cv.cells.toList ubs' t' (Mem.le.refl G) hvl hag
   (g1.tr (Mem.le.refl G) fun x hx=>hoth x fun e=>hbu (e ▸ hx)) g3 (fun x hx=>.inr (hub x hx)) ⟨hset,fun x _ _ hxb=>hoth x hxb⟩ hput
  rw[if_neg hp0]at r4;obtain⟨K,hK⟩:=h.wok.room s;have hold:∀x k,σ x=some k→σ.adopt s K ubs' x=some k:=fun x k hx=>by
   rw[Lab.adopt_old]
   ·exact hx
   ·intro hm;have:=(g4 x hm).2.2.1;rw[hx]at this;cases this
  refine⟨b,pre.length,_,σ.adopt s K ubs',rfl,hrun,?_⟩;have hwok:=(h.wok.setRow hkb (pre++cv.cells.toList++post).toArray).adopt (s:=s) (K:=K) (bs:=ubs') hK fun x hx=>by
   obtain⟨k1,k2,_,k4⟩:=g4 x hx;exact⟨k1,k2,by simpa[World.setRow]using k4⟩
  obtain⟨hpd,hbd⟩:=Focus.refs (G:=G) (inv:=inv) (cur:=cur) r5;refine h.tree hwok (Mem.le.refl G) hs (Nat.lt_succ_self _) ?_ (fun _ x k hx=>hold x _ hx) ?_ hpd hbd
  ·intro s1 hs1 x k hx;exact⟨hold x _ hx,hoth x fun e=>by rw[e,hkb]at hx;cases hx;exact hs1 rfl⟩
  ·refine⟨bs',r1,by rw[r4];exact hva,r2,fun x hx=>?_⟩
   rcases(r3 x).1 hx with⟨h1,_⟩|h1
   ·obtain⟨k,hk⟩:=hlab x h1;exact⟨k,hold x _ hk⟩
   ·exact⟨_,Lab.adopt_new h1⟩
end

def rdD(x:Opd)(k:(s cur:Nat)→(inv:Inv)→D→List Nat→M):M:=match x with
 | .t n=>.get n fun ver sv=>match sv with
   | .own inv t=>match t with
     | .ptr t=>k n ver inv (.ptr t) [0]
     |_=>.fail
   | .pd s v p=>.get s fun cur sv'=>match sv' with
     | .own inv t=>.need (p≠[]∧alive v inv p=true) fun _=>k s cur inv t p
     |_=>.fail
   | .par h=>.get h fun cur sv'=>match sv' with
     | .own inv t=>match t with
       | .ptr t=>k h cur inv (.ptr t) [0]
       |_=>.fail
     |_=>.fail
   |_=>.fail
 |_=>.fail
def rdH(x:Opd)(k:(s cur:Nat)→(inv:Inv)→D→List Nat→M):M:=match x with
 | .t n=>.get n fun ver sv=>match sv with
   | .own inv t=>.need (t.head=true) fun _=>k n ver inv t []
   | .bd s v p=>.get s fun cur sv'=>match sv' with
     | .own inv t=>.need (J7 v inv p=true) fun _=>k s cur inv t p
     |_=>.fail
   | .par h=>.get h fun cur sv'=>match sv' with
     | .own inv t=>.need (t.head=true) fun _=>k h cur inv t []
     |_=>.fail
   |_=>.fail
 |_=>.fail
section
variable{P:Program}{N:Nat}{G:Mem}{σ:Lab}{Fr:Mem}{w0:Base}{w:World}{st:St}{a:Act}
theorem Ub{x:Operand}{y:Opd}{k:(s cur:Nat)→(inv:Inv)→D→List Nat→M}{Q:St→Prop}(h:Rel G σ Fr w0 st a w)(ho:Jj w0.n x y=true)(hq:(rdD y k).wp P Q st):
 ∃s cur inv t p,(k s cur inv t p).wp P Q st∧st[s]?=some (cur,.own inv t)∧p≠[]∧PtD w t (val a w0 s) p (a.eval x):=by
 cases y with
 |c _=>exact hq.elim
 |nils _ _=>exact hq.elim
 |t n=>
  obtain⟨rfl,hnlt⟩:=J0 ho;simp only[rdD,M.wp]at hq;cases hs:st[n]? with
  |none=>simp[hs]at hq
  |some cur=>
   obtain⟨ver,sv⟩:=cur;simp only[hs]at hq;have hrep:=h.slot hnlt hs;have hv:val a w0 n=a.eval (.tmp n):=J2 (by rw[h.n];exact hnlt)
   cases sv with
   |own inv t=>
    cases t with
    |ptr t=>exact⟨n,ver,inv,_,[0],hq,hs,by simp,by rw[hv];exact OwnD.pt hrep⟩
    |_=>exact hq.elim
   |pd s v p=>
    obtain⟨cur,h1,h2,h3⟩:=hrep;simp only[M.wp,h1]at hq;obtain⟨cv,csv⟩:=cur;cases csv with
    |own inv t=>
     obtain⟨⟨hp,ha⟩,hq⟩:=hq;exact⟨s,cv,inv,t,p,hq,h1,hp,h3 inv t rfl hp ha⟩
    |_=>exact hq.elim
   |par hh=>
    obtain⟨hv',hle⟩:=h.pars n ver hh hs;rw[hv]at hv';simp only[M.wp]at hq;cases h1:st[hh]? with
    |none=>simp[h1]at hq
    |some cur=>
     obtain⟨cv,csv⟩:=cur;simp only[h1]at hq;have hrep':=h.slots hh cv csv h1;cases csv with
     |own inv t=>
      cases t with
      |ptr t=>exact⟨hh,cv,inv,_,[0],hq,h1,by simp,by rw[hv'];exact OwnD.pt hrep'⟩
      |_=>exact hq.elim
     |_=>exact hq.elim
   |_=>exact hq.elim
theorem Ue{x:Operand}{y:Opd}{k:(s cur:Nat)→(inv:Inv)→D→List Nat→M}{Q:St→Prop}(h:Rel G σ Fr w0 st a w)(ho:Jj w0.n x y=true)(hq:(rdH y k).wp P Q st):
 ∃s cur inv t p,(k s cur inv t p).wp P Q st∧st[s]?=some (cur,.own inv t)∧HdD w t (val a w0 s) p (a.eval x):=by
 cases y with
 |c _=>exact hq.elim
 |nils _ _=>exact hq.elim
 |t n=>
  obtain⟨rfl,hnlt⟩:=J0 ho;simp only[rdH,M.wp]at hq;cases hs:st[n]? with
  |none=>simp[hs]at hq
  |some cur=>
   obtain⟨ver,sv⟩:=cur;simp only[hs]at hq;have hrep:=h.slot hnlt hs;have hv:val a w0 n=a.eval (.tmp n):=J2 (by rw[h.n];exact hnlt)
   cases sv with
   |own inv t=>
    obtain⟨hh,hq⟩:=hq;exact⟨n,ver,inv,_,[],hq,hs,by rw[hv];exact OwnD.hd hrep hh⟩
   |bd s v p=>
    obtain⟨cur,h1,h2,h3⟩:=hrep;simp only[M.wp,h1]at hq;obtain⟨cv,csv⟩:=cur;cases csv with
    |own inv t=>
     obtain⟨ha,hq⟩:=hq;exact⟨s,cv,inv,t,p,hq,h1,h3 inv t rfl ha⟩
    |_=>exact hq.elim
   |par hh=>
    obtain⟨hv',hle⟩:=h.pars n ver hh hs;rw[hv]at hv';simp only[M.wp]at hq;cases h1:st[hh]? with
    |none=>simp[h1]at hq
    |some cur=>
     obtain⟨cv,csv⟩:=cur;simp only[h1]at hq;have hrep':=h.slots hh cv csv h1;cases csv with
     |own inv t=>
      obtain⟨hh',hq⟩:=hq;exact⟨hh,cv,inv,_,[],hq,h1,by rw[hv'];exact OwnD.hd hrep' hh'⟩
     |_=>exact hq.elim
   |_=>exact hq.elim
theorem PtD.block{s:Nat}{t u:D}{cr c:Value}{p:List Nat}(ho:OwnD G σ w s t cr)(hat:t.at p=some u)(h:PtD w t cr p c):
 ∃b off bl ty fz pre cs post ubs,c= .pointer (some ⟨b,off,none⟩)∧w.heap[b]?=some (.cells bl ty fz)∧bl.toList=pre++cs++post∧pre.length=off∧RepD G w u cs ubs∧ubs.Nodup∧
  spot w p t (none,cr.cells.toList)=some (some (b,off),cs):=by
 obtain⟨bs,hrep,hva,hnd,hlab⟩:=ho;obtain⟨m,s',ubs,f1,f2,f3,f4,f5,f6⟩:=focus (here:=none) hrep hnd hat
 obtain⟨u0,b,o,cs,p1,p2,rfl⟩:=h;have p2':=p2;rw[f1]at p2;obtain rfl:=Option.some.inj p2;cases m with
 |inl pre post=>obtain⟨_,e⟩:=f5;cases e
 |val=>cases f5
 |blk g pre post ty fz=>
  obtain⟨q1,q2,⟨row,q3,q4,q5⟩,q6⟩:=f5;simp only[Option.some.injEq,Prod.mk.injEq]at q6;obtain⟨rfl,rfl⟩:=q6;exact⟨b,_,row,ty,fz,pre,cs,post,ubs,rfl,q3,q5,rfl,f2,f3,p2'⟩
theorem HdD.read{s:Nat}{t u:D}{cr c:Value}{p:List Nat}(ho:OwnD G σ w s t cr)(hat:t.at p=some u)(h:HdD w t cr p c):∃hh ubs,RepD G w u [c] ubs∧ubs.Nodup∧spot w p t (none,cr.cells.toList)=some (hh,[c]):=by
 obtain⟨bs,hrep,hva,hnd,hlab⟩:=ho;obtain⟨m,s',ubs,f1,f2,f3,f4,f5,f6⟩:=focus (here:=none) hrep hnd hat
 obtain⟨u0,hh,p1,p0,p2⟩:=h;have p2':=p2;rw[f1]at p2;obtain rfl:=Option.some.inj p2;exact⟨hh,ubs,f2,f3,p2'⟩
theorem Nf:∀{p:List Nat} {t u:D} {i:Nat},t.at p=some u→t.at (p++[i])=u.kid i
 | [],t,u,i,h=>by
   simp only[D.at,Option.some.injEq]at h;subst h;simp only[List.nil_append,D.at];cases t.kid i<;>rfl
 |j::p,t,u,i,h=>by
  simp only[D.at]at h;simp only[List.cons_append,D.at];cases hk:t.kid j with
  |none=>simp[hk]at h
  |some y=>simp only[hk]at h;exact Nf h
theorem L5:∀{p:List Nat} {t u y:D} {i:Nat} {z z':Spot},t.at p=some u→spot w p t z=some z'→u.kid i=some y→spot w (p++[i]) t z=Jx w u z' i
 | [],t,u,y,i,z,z',h,hz,hy=>by
   simp only[D.at,Option.some.injEq]at h;simp only[spot,Option.some.injEq]at hz;subst h hz;simp only[List.nil_append,spot,hy];cases Jx w t z i<;>rfl
 |j::p,t,u,y,i,z,z',h,hz,hy=>by
  simp only[D.at]at h;simp only[spot]at hz;simp only[List.cons_append,spot];cases hk:t.kid j with
  |none=>simp[hk]at h
  |some y0=>
   simp only[hk]at h hz ⊢;cases hks:Jx w t z j with
   |none=>simp[hks]at hz
   |some z0=>
    simp only[hks]at hz ⊢;exact L5 h hz hy
end

open Go.Op
def D.husk:D→D
 | .st l=>.it (.agg (List.replicate (dsizes l) .und))
 |_=>.it .und
theorem Xs:∀n,sizes (List.replicate n I.und)=n
 |0=>rfl
 |n+1=>by simp[List.replicate_succ,sizes,I.size,Xs n];omega
theorem Acn{G:Mem}:∀{cs:List Value} {n:Nat},cs.length=n→(∀c∈cs,c.oneCell'=true)→RepIs G (List.replicate n .und) cs
 | [],n,h,_=>by subst h;simp[RepIs]
 |c::cs,n,h,h1=>by
  subst h;simp only[List.length_cons,List.replicate_succ,RepIs];exact⟨[c],cs,rfl,by simp only[RepI];exact⟨c,rfl,h1 c (by simp)⟩,Acn rfl fun x hx=>h1 x (by simp[hx])⟩
def D.whole:D→Bool
 | .it _=>false
 |_=>true
theorem Vp{u:D}(h:u.whole=true):u.husk.isAgg=u.isAgg∧u.husk.size=u.size∧u.leaf=false:=by
 cases u with
 |it x=>cases h
 |st l=>exact⟨rfl,Xs _,rfl⟩
 |_=>exact⟨rfl,rfl,rfl⟩
theorem Ys{G:Mem}{w:World}{u:D}{cs:List Value}{bs:List Nat}(hw:u.whole=true)(h:RepD G w u cs bs)(G':Mem)(w':World):RepD G' w' u.husk cs []:=by
 have hl:=RepD.length h;have h1:=RepD.one h;cases u with
 |it x=>cases hw
 |st l=>simp only[D.husk,RepD,RepI,and_true];exact Acn hl h1
 |_=>
  simp only[D.husk,RepD,RepI,and_true];simp only[D.size]at hl;obtain⟨c,rfl⟩:=List.length_eq_one_iff.1 hl;exact⟨c,rfl,h1 c (by simp)⟩
def Vo:D→Nat→Option Nat
 | .it x,i=>match x with
   | .agg l=>match l[i]? with
     |some _=>some (sizes (l.take i))
     |none=>none
   |_=>none
 | .st l,i=>match l[i]? with
   |some _=>some (dsizes (l.take i))
   |none=>none
 |_,_=>none
def Mv(d:Option Nat)(s cur:Nat)(inv:Inv)(t:D)(p:List Nat)(u:D):M:=match D.put p t u.husk with
 |some t'=>.set s (cur+1) (.own (bump inv p (cur+1)) t') (match d with
  |some d=>.need (d≠s) fun _=>Jz d (.own [] u)
  |none=>.done)
 |none=>.fail
def Zd(d:Option Nat)(agg:Bool)(sz:Nat)(x:Opd):M:=rdD x fun s cur inv t p=>match D.at p t with
 |some u=>match u with
  | .it y=>.need (y.isAgg=agg∧y.size=sz) fun _=>setD d (.v y) .done
  | .vec _ _ _=>.need (agg=false∧sz=1∧d≠some s) fun _=>setD d (.bd s cur p) .done
  | .map _ _=>.need (agg=false∧sz=1∧d≠some s) fun _=>setD d (.bd s cur p) .done
  | .ptr _=>.need (agg=false∧sz=1∧d≠some s) fun _=>setD d (.pd s cur (p++[0])) .done
  | .st l=>.need (agg=true∧dsizes l=sz) fun _=>Mv d s cur inv t p (.st l)
 |none=>.fail
def M6(x:Opd)(k:D→M):M:=match x with
 | .c x=>k (.it x)
 | .nils e sz=>k (.vec e sz [])
 | .t n=>.get n fun ver sv=>match sv with
   | .vec e sz l=>.set n (ver+1) .no (k (.vec e sz (l.map D.it)))
   | .own _ t=>.set n (ver+1) .no (k t)
   | .bd s v p=>.get s fun cur sv'=>match sv' with
     | .own inv t=>.need (J7 v inv p=true) fun _=>match D.at p t with
       |some u=>match D.put p t u.husk with
        |some t'=>.need (u.whole=true) fun _=>.set s (cur+1) (.own (bump inv p (cur+1)) t') (k u)
        |none=>.fail
       |none=>.fail
     |_=>.fail
   | .par h=>.get h fun cur sv'=>match sv' with
     | .own _ t=>.set h (cur+1) .no (k t)
     |_=>.fail
   |_=>Lw (.t n) fun u=>k (.it u)
def Xm(sz:Nat)(ax vx:Opd):M:=M6 vx fun u=>rdD ax fun s cur inv t p=>match D.at p t with
 |some u0=>match D.put p t u with
  |some t'=>.need (u.isAgg=u0.isAgg∧u.size=u0.size∧u.size=sz) fun _=>match u0.leaf with
   |true=>.set s (cur+1) (.own inv t') .done
   |false=>.set s (cur+1) (.own (bump inv p (cur+1)) t') .done
  |none=>.fail
 |none=>.fail
section
variable{P:Program}{N:Nat}{G:Mem}{σ:Lab}{Fr:Mem}{w0:Base}{w:World}{st:St}{a:Act}
theorem Rel.moveOut{s cur:Nat}{inv:Inv}{p:List Nat}{t t' u:D}{cs:List Value}{hh:Option (Nat × Nat)}(h:Rel G σ Fr w0 st a w)(hs:st[s]?=some (cur,.own inv t))(hat:t.at p=some u)(hw:u.whole=true)(hput:t.put p u.husk=some t')
 (hsp:spot w p t (none,(val a w0 s).cells.toList)=some (hh,cs)):
 ∃σ' ubs,Rel G σ' Fr w0 (st.set s (cur+1,.own (bump inv p (cur+1)) t')) a w∧RepD G w u cs ubs∧ubs.Nodup∧(∀b∈ubs,G b=none∧Fr b=none∧σ' b=none∧b<w.heap.size)∧(∀b∈ubs,σ b≠none)∧∀b,σ b=none→σ' b=none:=by
 obtain⟨bs,hrep,hva,hnd,hlab⟩:=show OwnD G σ w s t (val a w0 s)from h.slots s cur _ hs;obtain⟨m,s',ubs,f1,f2,f3,f4,f5,f6⟩:=focus (here:=none) hrep hnd hat
 rw[f1]at hsp;obtain rfl:=Option.some.inj hsp;obtain⟨hag,hsz,hul⟩:=Vp hw;obtain⟨hnew,hcell⟩:=Lie.same f5;obtain⟨bs',r1,r2,r3,r4,r5⟩:=f6 G w u.husk cs [] t' (Mem.le.refl G) rfl hag (Ys hw f2 G w) List.nodup_nil (by simp) hnew hput
 simp only at hcell r1 r5;rw[hcell]at r1 r5;refine⟨σ.shed ubs,ubs,?_,f2,f3,fun b hb=>?_,fun b hb hn=>?_,fun b hb=>by unfold Lab.shed;split<;>first|rfl|exact hb⟩
 rotate_left 2
 ·obtain⟨k,hk⟩:=hlab b (f4 b hb);rw[hn]at hk;cases hk
 ·obtain⟨hpd,hbd⟩:=Focus.refs (G:=G) (inv:=inv) (cur:=cur) r5;rw[hul]at hpd hbd;refine h.tree h.wok.shed (Mem.le.refl G) hs (Nat.lt_succ_self _) ?_ (fun e=>by omega) ?_ hpd hbd
  ·intro s1 hs1 x k hx;refine⟨Lab.shed_some.2 ⟨fun hm=>?_,hx⟩,rfl⟩
   obtain⟨k',hk'⟩:=hlab x (f4 x hm);rw[hx]at hk';cases hk';exact hs1 rfl
  ·refine⟨bs',r1,?_,r2,fun x hx=>?_⟩
   ·rw[r4];split
    ·rename_i hp;subst hp;simp only[D.at,Option.some.injEq]at hat;subst hat;rw[hag];exact hva
    ·exact hva
   ·rcases(r3 x).1 hx with⟨h1,h2⟩|h1
    ·obtain⟨k,hk⟩:=hlab x h1;exact⟨k,Lab.shed_some.2 ⟨h2,hk⟩⟩
    ·cases h1
 ·obtain⟨k,hk⟩:=hlab b (f4 b hb);obtain⟨k1,k2,k3⟩:=h.wok.own b _ hk;exact⟨k1,k2,by simp[Lab.shed,hb],k3⟩
theorem Rel.adopt{Q:St→Prop}{d:Nat}{u:D}{c:Value}(h:Rel G σ Fr w0 st a w)(hdn:d<w0.n)(hf:FreeD G σ Fr w u c)(hq:(Jz d (.own [] u)).wp P Q st):
 ∃σ' st',Rel G σ' Fr w0 st' (a.put (some d) c) w∧Q st':=by
 obtain⟨bs,g1,g2,g3,g4⟩:=hf;simp only[Jz,M.wp]at hq;cases hd:st[d]? with
 |none=>simp[hd]at hq
 |some cur=>
  simp only[hd]at hq;have hK:∀b k,σ.drop d b=some (d,k)→k<0:=fun b k hb=>absurd rfl (Lab.drop_some.1 hb).1
  have hok:WOk G ((σ.drop d).adopt d 0 bs) Fr w0 w:=(h.wok.drop d).adopt hK fun b hb=>⟨(g4 b hb).1,(g4 b hb).2.1,(g4 b hb).2.2.2⟩
  refine⟨_,_,h.put hdn hok (Mem.le.refl G) hd (Nat.lt_succ_self _) ?_ ?_ (fun h e=>by cases e) Nx,hq⟩
  ·intro s' hs' b k hb;refine⟨?_,rfl⟩;rw[Lab.adopt_old]
   ·exact Lab.drop_some.2 ⟨hs',hb⟩
   ·intro hm;rw[(g4 b hm).2.2.1]at hb;cases hb
  ·exact⟨bs,g1,g2,g3,fun b hb=>⟨_,Lab.adopt_new hb⟩⟩
theorem VecAt.freeD{lab:Nat × Nat}{e:TypeId}{sz:Nat}{l:List I}{c:Value}(h:VecAt G σ w lab e sz l c)(hok:WOk G σ Fr w0 w){σ':Lab}(hσ:∀b,σ b=some lab→σ' b=none):FreeD G σ' Fr w (.vec e sz (l.map D.it)) c:=by
 obtain⟨xs,⟨hl,h1⟩,h2,h3,h4⟩:=h;rcases h1 with⟨rfl,h0⟩|⟨g,cap,cur,rfl,_,hg,hn,hm,hs,ht⟩
 ·obtain rfl:=List.eq_nil_of_length_eq_zero h0;exact⟨[],by simp[RepD,Value.cells],rfl,List.nodup_nil,by simp⟩
 ·refine⟨[g],?_,rfl,by simp,?_⟩
  ·simp only[RepD,Value.cells];refine .inr ⟨g,0,cap,cur,xs,[],by simp,hg,fun _=>⟨rfl,hs⟩,by simpa using hn,hm,by rw[Nat.zero_add,hs];exact Nat.le_refl _,by simpa using ht,RepDs.its.2 ⟨h2,rfl⟩,?_,rfl⟩
   intro x hx;obtain⟨y,hy,rfl⟩:=List.mem_map.1 hx;exact h3 y hy
  ·intro b hb;obtain rfl:=List.mem_singleton.1 hb;have hlab:=h4 b rfl;obtain⟨k1,k2,k3⟩:=hok.own b _ hlab;exact⟨k1,k2,hσ b hlab,k3⟩
def FreeB(G:Mem)(σ:Lab)(Fr:Mem)(w:World)(u:D)(c:Value)(bs:List Nat):Prop:=
 RepD G w u c.cells.toList bs∧valOf u.isAgg c=true∧bs.Nodup∧∀b∈bs,G b=none∧Fr b=none∧σ b=none∧b<w.heap.size
theorem FreeB.free{u:D}{c:Value}{bs:List Nat}(h:FreeB G σ Fr w u c bs):FreeD G σ Fr w u c:=⟨bs,h⟩
theorem FreeB.item{u:I}{c:Value}(h:RepV G u c):FreeB G σ Fr w (.it u) c []:=by
 obtain⟨bs,h1,h2,h3,h4⟩:=FreeD.item (σ:=σ) (Fr:=Fr) (w:=w) h;have:bs=[]:=by simp only[RepD]at h1;exact h1.2
 subst this;exact⟨h1,h2,h3,h4⟩
theorem FreeB.later{G':Mem}{σ':Lab}{u:D}{c:Value}{bs:List Nat}(h:FreeB G σ Fr w u c bs)(hG:G.le G')(hk:∀b,σ b=none→G b=none→σ' b=none∧G' b=none):FreeB G' σ' Fr w u c bs:=by
 obtain⟨h1,h2,h3,h4⟩:=h;refine⟨h1.tr hG fun _ _=>rfl,h2,h3,fun b hb=>?_⟩
 obtain⟨k1,k2,k3,k4⟩:=h4 b hb;obtain⟨q1,q2⟩:=hk b k3 k1;exact⟨q2,k2,q1,k4⟩
theorem Lv{x:Operand}{y:Opd}{k:D→M}{Q:St→Prop}(h:Rel G σ Fr w0 st a w)(ho:Jj w0.n x y=true)(hq:(M6 y k).wp P Q st):
 ∃u bs G' σ' st',G.le G'∧Rel G' σ' Fr w0 st' a w∧(k u).wp P Q st'∧FreeB G' σ' Fr w u (a.eval x) bs∧(∀b∈bs,σ b≠none)∧∀b,σ b=none→G b=none→σ' b=none∧G' b=none:=by
 cases y with
 |c i=>exact⟨_,[],G,σ,st,Mem.le.refl G,h,hq,FreeB.item (Nn ho G),by simp,fun _ h1 h2=>⟨h1,h2⟩⟩
 |nils e sz=>
  refine⟨_,[],G,σ,st,Mem.le.refl G,h,hq,?_,by simp,fun _ h1 h2=>⟨h1,h2⟩⟩
  rw[Le ho];exact⟨by simp[RepD,Value.cells],rfl,List.nodup_nil,by simp⟩
 |t n=>
  obtain⟨rfl,hnlt⟩:=J0 ho;have hv:val a w0 n=a.eval (.tmp n):=J2 (by rw[h.n];exact hnlt)
  simp only[M6,M.wp]at hq;cases hs:st[n]? with
  |none=>simp[hs]at hq
  |some cur=>
   obtain⟨ver,sv⟩:=cur;simp only[hs]at hq;have hrep:=h.slot hnlt hs;have viaV:(Lw (.t n) fun u=>k (.it u)).wp P Q st→∃u bs G' σ' st',G.le G'∧Rel G' σ' Fr w0 st' a w∧(k u).wp P Q st'∧FreeB G' σ' Fr w u (a.eval (.tmp n)) bs∧(∀b∈bs,σ b≠none)∧∀b,σ b=none→G b=none→σ' b=none∧G' b=none:=by
    intro hq;obtain⟨i,G',σ',st',h1,h2,h3,h4,h5⟩:=Wg h ho hq;exact⟨_,[],G',σ',st',h1,h2,h3,FreeB.item h4,by simp,h5⟩
   cases sv with
   |vec e sz l=>
    have hdrop:∀b,σ b=some (n,0)→σ.drop n b=none:=fun b hb=>by simp[Lab.drop,hb]
    obtain⟨bs,hf⟩:=VecAt.freeD hrep h.wok hdrop;refine⟨_,bs,G,σ.drop n,_,Mem.le.refl G,h.drop hs (Nat.lt_succ_self _),hq,hf,fun b hb hn=>?_,fun b h1 h2=>⟨by simp[Lab.drop,h1],h2⟩⟩
    obtain⟨xs,h1,_,_,h4⟩:=hrep;have hrd:=hf.1;simp only[RepD]at hrd;rcases hrd with⟨_,_,rfl⟩|⟨g,off,cap,cur,xs',bs',e1,_,_,_,_,_,_,e2,_,rfl⟩
    ·cases hb
    ·obtain⟨_,rfl⟩:=RepDs.its.1 e2;obtain rfl:=List.mem_singleton.1 hb;rcases h1.2 with⟨h0,_⟩|⟨g',cap',cur',h0,_⟩
     ·rw[h0]at e1;simp[Value.cells]at e1
     ·have:=h4 g' (by rw[h0];rfl)
      rw[h0]at e1;simp[Value.cells]at e1;rw[e1.1.1]at this;rw[hn]at this;cases this
   |own inv t=>
    obtain⟨bs,g1,g2,g3,g4⟩:=hrep;refine⟨_,bs,G,σ.drop n,_,Mem.le.refl G,h.drop hs (Nat.lt_succ_self _),hq,⟨g1,g2,g3,fun b hb=>?_⟩,fun b hb hn=>?_,fun b h1 h2=>⟨by simp[Lab.drop,h1],h2⟩⟩
    rotate_left 1
    ·obtain⟨kk,hk⟩:=g4 b hb;rw[hn]at hk;cases hk
    obtain⟨kk,hk⟩:=g4 b hb;obtain⟨k1,k2,k3⟩:=h.wok.own b _ hk;refine⟨k1,k2,?_,k3⟩;simp[Lab.drop,hk]
   |bd s v p=>
    obtain⟨cur,h1,h2,h3⟩:=hrep;simp only[M.wp,h1]at hq;obtain⟨cv,csv⟩:=cur;cases csv with
    |own inv t=>
     obtain⟨ha,hq⟩:=hq;split at hq
     ·rename_i u hat;split at hq
      ·rename_i t' hput;obtain⟨hw,hq⟩:=hq;have hhd:=h3 inv t rfl ha;obtain⟨hh,ubs0,_,_,hsp⟩:=HdD.read (h.slots s cv _ h1) hat hhd;obtain⟨u1,_,e1,e0,_⟩:=hhd;rw[hat]at e1;obtain rfl:=Option.some.inj e1;obtain⟨σ',ubs,r1,r2,r3,r4,r5,r6⟩:=h.moveOut h1 hat hw hput hsp;refine⟨u,ubs,G,σ',_,Mem.le.refl G,r1,hq,⟨?_,?_,r3,r4⟩,r5,fun b h1 h2=>⟨r6 b h1,h2⟩⟩
       ·have hc1:=RepD.one r2 (a.eval (.tmp n)) (by simp)
        have:(a.eval (.tmp n)).cells.toList=[a.eval (.tmp n)]:=by
         generalize a.eval (.tmp n)=c at hc1 ⊢;cases c<;>first|rfl|(simp[Value.oneCell']at hc1)
        rw[this];exact r2
       ·have:u.isAgg=false:=by cases u<;>first|rfl|cases e0
        rw[this];have hc1:=RepD.one r2 (a.eval (.tmp n)) (by simp)
        generalize a.eval (.tmp n)=c at hc1 ⊢;cases c<;>first|rfl|(simp[Value.oneCell']at hc1)
      ·exact hq.elim
     ·exact hq.elim
    |_=>exact hq.elim
   |par hh=>
    obtain⟨hv',hle⟩:=h.pars n ver hh hs;rw[hv]at hv';simp only[M.wp]at hq;cases h1:st[hh]? with
    |none=>simp[h1]at hq
    |some cur=>
     obtain⟨cv,csv⟩:=cur;simp only[h1]at hq;cases csv with
     |own inv t=>
      obtain⟨bs,g1,g2,g3,g4⟩:=show OwnD G σ w hh t (val a w0 hh)from h.slots hh cv _ h1;rw[←hv']at g1 g2;refine⟨_,bs,G,σ.drop hh,_,Mem.le.refl G,h.drop h1 (Nat.lt_succ_self _),hq,⟨g1,g2,g3,fun b hb=>?_⟩,fun b hb hn=>?_,fun b h1 h2=>⟨by simp[Lab.drop,h1],h2⟩⟩
      rotate_left 1
      ·obtain⟨kk,hk⟩:=g4 b hb;rw[hn]at hk;cases hk
      obtain⟨kk,hk⟩:=g4 b hb;obtain⟨k1,k2,k3⟩:=h.wok.own b _ hk;refine⟨k1,k2,?_,k3⟩;simp[Lab.drop,hk]
     |_=>exact hq.elim
   |_=>exact viaV hq
theorem Tp{x:Operand}{y:Opd}{k:D→M}{Q:St→Prop}(h:Rel G σ Fr w0 st a w)(ho:Jj w0.n x y=true)(hq:(M6 y k).wp P Q st):
 ∃u G' σ' st',G.le G'∧Rel G' σ' Fr w0 st' a w∧(k u).wp P Q st'∧FreeD G' σ' Fr w u (a.eval x):=by
 obtain⟨u,bs,G',σ',st',h1,h2,h3,h4,_⟩:=Lv h ho hq;exact⟨u,G',σ',st',h1,h2,h3,h4.free⟩
theorem Acj{o:Oper}{Q:St→Prop}{next:Act→World→Prop}{E:Exit→Act→World→Prop}{s cur:Nat}{inv:Inv}{t:D}{q:List Nat}{c:Value}(hr:Rel G σ Fr w0 st a w)(hdst:∀d,o.dst=some d→d<w0.n)(hs:st[s]?=some (cur,.own inv t))
 (hn:∀G' σ' st' a' w',G.le G'→Rel G' σ' Fr w0 st' a' w'→Q st'→next a' w') (hne:o.dst≠some s) (hp:PtD w t (val a w0 s) q c) (hrun:(execOp a.eval o).run P w= .ok (.value c) w)
 (hq:(setD o.dst (.pd s cur q) .done).wp P Q st):o.wp P a w next E:=by
 obtain⟨σ',st',r1,r2⟩:=hr.setD hdst (sv:=.pd s cur q) (c:=c) (fun d' hd ver _=>by
  refine⟨_,by rw[List.getElem?_set_ne (by rintro rfl;exact hne hd)];exact hs,Nat.le_refl _,fun inv' t' e _ _=>?_⟩
  cases e;rw[Jr (by rintro rfl;exact hne hd)]
  exact hp) hq
 exact Jt hrun (hn G σ' st' _ w (Mem.le.refl G) r1 r2)
theorem Aci{o:Oper}{Q:St→Prop}{next:Act→World→Prop}{E:Exit→Act→World→Prop}{s cur:Nat}{inv:Inv}{t:D}{q:List Nat}{c:Value}(hr:Rel G σ Fr w0 st a w)(hdst:∀d,o.dst=some d→d<w0.n)(hs:st[s]?=some (cur,.own inv t))
 (hn:∀G' σ' st' a' w',G.le G'→Rel G' σ' Fr w0 st' a' w'→Q st'→next a' w') (hne:o.dst≠some s) (hp:HdD w t (val a w0 s) q c) (hrun:(execOp a.eval o).run P w= .ok (.value c) w)
 (hq:(setD o.dst (.bd s cur q) .done).wp P Q st):o.wp P a w next E:=by
 obtain⟨σ',st',r1,r2⟩:=hr.setD hdst (sv:=.bd s cur q) (c:=c) (fun d' hd ver _=>by
  refine⟨_,by rw[List.getElem?_set_ne (by rintro rfl;exact hne hd)];exact hs,Nat.le_refl _,fun inv' t' e _=>?_⟩
  cases e;rw[Jr (by rintro rfl;exact hne hd)]
  exact hp) hq
 exact Jt hrun (hn G σ' st' _ w (Mem.le.refl G) r1 r2)
theorem Sv{t:TypeId}{agg:Bool}{b off:Nat}{bl:Array Value}{ty:TypeId}{fz:Nat × Nat}{pre cs post:List Value}(h:tyOk P t agg cs.length=true)(hc:agg=false→cs.length=1)
 (hh:w.heap[b]?=some (.cells bl ty fz)) (hs:bl.toList=pre++cs++post) (hp:pre.length=off) (h1:∀c∈cs,c.oneCell'=true):
 ∃v,(loadVar t ⟨b,off,none⟩).run P w= .ok v w∧v.cells.toList=cs∧valOf agg v=true:=by
 obtain⟨k1,k2⟩:=Kd (P:=P) h hh hs hp;cases agg with
 |true=>exact⟨_,k1 rfl,rfl,rfl⟩
 |false=>
  obtain⟨c,rfl⟩:=List.length_eq_one_iff.1 (hc rfl);refine⟨c,k2 c rfl rfl,?_,?_⟩;all_goals
   have:=h1 c (by simp)
   cases c<;>first|rfl|(simp[Value.oneCell']at this)
theorem Aat{o:Oper}{t:TypeId}{x:Operand}{x':Opd}{agg:Bool}{sz:Nat}(ho:o.op= .load t x)(hx:Jj N x x'=true)(ht:tyOk P t agg sz=true):Sound P N o (Zd o.dst agg sz x'):=by
 intro G σ Fr w0 st a w Q next E hN hr hw hn hdst
 subst hN;have run:∀{b off:Nat} {v:Value},a.eval x= .pointer (some ⟨b,off,none⟩)→(loadVar t ⟨b,off,none⟩).run P w= .ok v w→(execOp a.eval o).run P w= .ok (.value v) w:=by
  intro b off v hp hl;simp[execOp,ho,hp,Instr.loadAt,Instr.sureAddr,hl]
 obtain⟨s,cur,inv,tr,p,h1,hs,hp0,hpt⟩:=Ub hr hx hw;have hown:=hr.slots s cur _ hs;split at h1
 ·rename_i u hat;obtain⟨b,off,bl,ty,fz,pre,cs,post,ubs,e1,e2,e3,e4,e5,e6,e7⟩:=PtD.block hown hat hpt;have hone:=RepD.one e5;have hlen:=RepD.length e5;cases u with
  |it y=>
   obtain⟨⟨rfl,rfl⟩,h1⟩:=h1;simp only[RepD]at e5;obtain⟨v,hl,hv⟩:=Nk (P:=P) ht e2 e3 e4 e5.1;exact J1 hr hn hdst hv h1 (run e1 hl)
  |vec e sz' l=>
   obtain⟨⟨rfl,rfl,hne⟩,h1⟩:=h1;obtain⟨c,rfl⟩:=List.length_eq_one_iff.1 hlen;have hl:=(Kd (P:=P) (cs:=[c]) ht e2 e3 e4).2 c rfl rfl;exact Aci hr hdst hs hn hne ⟨_,_,hat,rfl,e7⟩ (run e1 hl) h1
  |map ks vs=>
   obtain⟨⟨rfl,rfl,hne⟩,h1⟩:=h1;obtain⟨c,rfl⟩:=List.length_eq_one_iff.1 hlen;have hl:=(Kd (P:=P) (cs:=[c]) ht e2 e3 e4).2 c rfl rfl;exact Aci hr hdst hs hn hne ⟨_,_,hat,rfl,e7⟩ (run e1 hl) h1
  |ptr d=>
   obtain⟨⟨rfl,rfl,hne⟩,h1⟩:=h1;obtain⟨c,rfl⟩:=List.length_eq_one_iff.1 hlen;have hl:=(Kd (P:=P) (cs:=[c]) ht e2 e3 e4).2 c rfl rfl;simp only[RepD]at e5;obtain⟨g,cells,ty',bs',q1,q2,_⟩:=e5;injection q1 with q1
   subst q1;refine Acj hr hdst hs hn hne ⟨d,g,0,cells.toList,by rw[Nf hat];rfl,?_,rfl⟩ (run e1 hl) h1
   rw[L5 hat e7 (y:=d) rfl];simp[Jx,q2]
  |st l=>
   obtain⟨⟨rfl,hsz⟩,h1⟩:=h1;unfold Mv at h1;split at h1
   ·rename_i t' hput;obtain⟨v,hl,hvc,hva⟩:=Sv (P:=P) (cs:=cs) (agg:=true) (by rw[hlen];show tyOk P t true (dsizes l)=true;rw[hsz];exact ht) (by intro e;cases e) e2 e3 e4 hone
    obtain⟨σ',ubs',r1,r2,r3,r4,_⟩:=hr.moveOut hs hat rfl hput e7;simp only[M.wp]at h1;cases hd:o.dst with
    |none=>
     rw[hd]at h1;exact Jt (run e1 hl) (by rw[hd];exact hn G σ' _ _ w (Mem.le.refl G) r1 h1)
    |some d=>
     rw[hd]at h1;obtain⟨hne,h1⟩:=h1;obtain⟨σ2,st2,k1,k2⟩:=r1.adopt (hdst d hd) (u:=.st l) (c:=v) ⟨ubs',by rw[hvc];exact r2,hva,r3,r4⟩ h1
     exact Jt (run e1 hl) (by rw[hd];exact hn G σ2 st2 _ w (Mem.le.refl G) k1 k2)
   ·exact h1.elim
 ·exact h1.elim
theorem Aai{u:D}{i off:Nat}{b o:Nat}{cs:List Value}(h:Vo u i=some off):∃y cs',u.kid i=some y∧Jx w u (some (b,o),cs) i=some (some (b,o+off),cs'):=by
 cases u with
 |it x=>
  cases x with
  |agg l=>
   simp only[Vo]at h;split at h
   ·rename_i y hy;cases h;exact⟨_,_,by simp only[D.kid,hy];rfl,by simp only[Jx,hy,hop];rfl⟩
   ·cases h
  |_=>cases h
 |st l=>
  simp only[Vo]at h;split at h
  ·rename_i y hy;cases h;exact⟨_,_,hy,by simp only[Jx,hy,hop];rfl⟩
  ·cases h
 |_=>cases h
theorem Z6{o:Oper}{t:TypeId}{x y:Operand}{x' y':Opd}{agg:Bool}{sz:Nat}(hd:o.dst=none)(ho:o.op= .store t x y)(hx:Jj N x x'=true)(hy:Jj N y y'=true)(ht:tyOk P t agg sz=true):
 Sound P N o (Xm sz x' y'):=by
 intro G σ Fr w0 st a w Q next E hN hr hw hn hdst
 subst hN;obtain⟨u,G',σ',st',hG,hr',h1,hf⟩:=Tp hr hy hw;obtain⟨s,cur,inv,tr,p,h1,hs,hp0,hpt⟩:=Ub hr' hx h1;split at h1
 ·rename_i u0 hat;split at h1
  ·rename_i t' hput;obtain⟨⟨hag,hsz,hsz2⟩,h1⟩:=h1;obtain⟨b,of,w',σ2,e1,e2,e3⟩:=hr'.setPlace (P:=P) (tt:=t) (agg:=agg) hs hat hput hf hag hsz hpt (by rw[←hsz,hsz2];exact ht)
   refine Pz (w':=w') ?_ ?_
   ·simp[execOp,ho,e1,Instr.storeAt,Instr.sureAddr,e2]
   ·rw[hd];refine hn G' σ2 _ _ w' hG e3 ?_;cases hl:u0.leaf<;>rw[hl]at h1<;>simp only[M.wp]at h1<;>simpa using h1
  ·exact h1.elim
 ·exact h1.elim
end
end Go.Ab
