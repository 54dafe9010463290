/- Lemmas -/
import Derived.Test.YtkpojedpcabojaaGreatDoorAb14
import Derived.Laws.IdiomStrings
import Derived.Laws.BytesString
set_option linter.unusedVariables false
set_option linter.unusedSimpArgs false
namespace Go.Ab
inductive ETy where
 |int (k:IntKind)
 |bool
 |str
 |st (l:List ETy)
 deriving Inhabited
mutual
def ETy.size:ETy→Nat
 | .st l=>ETy.sizes l
 |_=>1
def ETy.sizes:List ETy→Nat
 | []=>0
 |e::l=>e.size+ETy.sizes l
end
def ETy.A6j:ETy→Bool
 | .st _=>true
 |_=>false
mutual
def ETy.ok(P:Program):Nat→ETy→TypeId→Bool
 |0,_,_=>false
 |_+1,.int k,t=>match P.underlying t with
  |some (.int k')=>k==k'
  |_=>false
 |_+1,.bool,t=>match P.underlying t with
  |some .bool=>true
  |_=>false
 |_+1,.str,t=>match P.underlying t with
  |some .string=>true
  |_=>false
 |n+1,.st l,t=> !P.stoodInHeld t&&ETy.oks P n l (P.fieldsOf t).toList 0&&(match P.underlying t with
  |some (.struct _)=>true
  |_=>false)
def ETy.oks(P:Program):Nat→List ETy→List Field→Nat→Bool
 |_,[],[],_=>true
 |n,e::l,f::fs,o=>f.name != "_" &&f.offset==o&&e.ok P n f.type&&Asu P f.type e.A6j e.size&&ETy.oks P n l fs (o+e.size)
 |_,_,_,_=>false
end
mutual
def eqI:ETy→I→I→Option Bool
 | .int k,.int k1 a,.int k2 b=>if k1=k∧k2=k then some (decide (a=b))else none
 | .bool,.bool a,.bool b=>some (decide (a=b))
 | .str,.str a,.str b=>some (decide (a=b))
 | .st es,.agg l,.agg m=>Axn es l m
 |_,_,_=>none
def Axn:List ETy→List I→List I→Option Bool
 | [],[],[]=>some true
 |e::es,x::l,y::m=>match eqI e x y with
  |some r=>match Axn es l m with
   |some r'=>some (r&&r')
   |none=>none
  |none=>none
 |_,_,_=>none
end
section
variable{P:Program}{N:Nat}{G:Mem}{σ:Lab}{Fr:Mem}{w0:Base}{w:World}{st:St}{a:Act}
theorem Yw{arr:Array Value}{pre cs post:List Value}{y:I}{t:TypeId}(h:arr.toList=pre++cs++post)(hy:D8 G y cs)(ht:Asu P t y.isAgg y.size=true):
 ∃v,(part t arr pre.length).run P w= .ok v w∧C7 G y v:=by
 obtain⟨g1,g2⟩:=Q6 ht w;have hl:=D8.length _ _ hy;cases Bd8:y.isAgg with
 |true=>
  rw[Bd8]at g1;refine⟨.agg (arr.extract pre.length (pre.length+y.size)),by simp[part,g1,g2],?_⟩
  unfold C7;rw[if_pos Bd8];refine⟨_,rfl,?_⟩;have:(arr.extract pre.length (pre.length+y.size)).toList=cs:=by
   rw[Array.toList_extract,h,List.extract_eq_take_drop, ←hl,Nat.add_sub_cancel_left,Df,Aog,Amq]
  rw[this];exact hy
 |false=>
  rw[Bd8]at g1;have A0o:y.size=1:=by cases y<;>simp_all [I.isAgg,I.size]
  rw[A0o]at hl
  match cs,hl with
  | [v],_=>
    have hv:arr[pre.length]?=some v:=by
     have:arr[pre.length]?=arr.toList[pre.length]?:=by simp
     rw[this,h];simp
    refine⟨v,by simp[part,g1,hv],?_⟩
    unfold C7;rw[if_neg (by simp[Bd8])]
    exact hy
mutual
theorem A8s:∀(e:ETy) (x y:I) (r:Bool),eqI e x y=some r→x.size=e.size∧y.size=e.size∧x.isAgg=e.A6j∧y.isAgg=e.A6j
 | .int k,x,y,r,h=>by
   cases x<;>cases y<;>simp[eqI]at h;simp[I.size,ETy.size,I.isAgg,ETy.A6j]
 | .bool,x,y,r,h=>by
   cases x<;>cases y<;>simp[eqI]at h;simp[I.size,ETy.size,I.isAgg,ETy.A6j]
 | .str,x,y,r,h=>by
   cases x<;>cases y<;>simp[eqI]at h;simp[I.size,ETy.size,I.isAgg,ETy.A6j]
 | .st es,x,y,r,h=>by
   cases x<;>cases y<;>simp only[eqI,reduceCtorEq]at h;obtain⟨h1,h2⟩:=A6w es _ _ r h;simp[I.size,ETy.size,I.isAgg,ETy.A6j,h1,h2]
theorem A6w:∀(es:List ETy) (l m:List I) (r:Bool),Axn es l m=some r→sizes l=ETy.sizes es∧sizes m=ETy.sizes es
 | [],l,m,r,h=>by
   cases l<;>cases m<;>simp[Axn]at h;simp[sizes,ETy.sizes]
 |e::es,l,m,r,h=>by
  cases l with
  |nil=>cases m<;>simp[Axn]at h
  |cons x l=>
   cases m with
   |nil=>simp[Axn]at h
   |cons y m=>
    simp only[Axn]at h;cases h1:eqI e x y with
    |none=>simp[h1]at h
    |some r1=>
     cases h2:Axn es l m with
     |none=>simp[h1,h2]at h
     |some r2=>
      obtain⟨k1,k2,_,_⟩:=A8s e x y r1 h1;obtain⟨k3,k4⟩:=A6w es l m r2 h2;simp[sizes,ETy.sizes,k1,k2,k3,k4]
end
mutual
theorem Bc4(G:Mem):∀(n d:Nat) (e:ETy) (t:TypeId) (x y:I) (u v:Value) (r:Bool),n≤d→e.ok P n t=true→eqI e x y=some r→C7 G x u→C7 G y v→(Op.equalIn d t u v).run P w= .ok r w
 |0,_,_,_,_,_,_,_,_,_,ho,_,_,_=>by simp[ETy.ok]at ho
 |n+1,0,_,_,_,_,_,_,_,hd,_,_,_,_=>by omega
 |n+1,d+1,.int k,t,x,y,u,v,r,_,ho,h,hx,hy=>by
  cases x<;>cases y<;>simp only[eqI,reduceCtorEq]at h;split at h
  ·rename_i hk;cases h;rw[C7.int]at hx hy;simp only[ETy.ok]at ho;split at ho
   ·rename_i hu;rw[hx,hy,hk.1,hk.2,run_equalIn_int w d t _ _ _ _ hu,beq_eq]
   ·cases ho
  ·cases h
 |n+1,d+1,.bool,t,x,y,u,v,r,_,ho,h,hx,hy=>by
  cases x<;>cases y<;>simp only[eqI,A0,reduceCtorEq]at h;rename_i p q;subst h;rw[C7.bool]at hx hy;simp only[ETy.ok]at ho;split at ho
  ·rename_i hu;have e:(p==q)=decide (p=q):=by cases p<;>cases q<;>rfl
   rw[hx,hy,run_equalIn_bool' w d t p q hu,e]
  ·cases ho
 |n+1,d+1,.str,t,x,y,u,v,r,_,ho,h,hx,hy=>by
  cases x<;>cases y<;>simp only[eqI,A0,reduceCtorEq]at h;rename_i p q;subst h;rw[C7.str]at hx hy;simp only[ETy.ok]at ho;split at ho
  ·rename_i hu;have e:((⟨⟨p⟩⟩:ByteArray).toList==(⟨⟨q⟩⟩:ByteArray).toList)=decide (p=q):=by
    rw[Bool.eq_iff_iff];simp
   rw[hx.1,hy.1,run_equalIn_string w d t _ _ hu,e]
  ·cases ho
 |n+1,d+1,.st es,t,x,y,u,v,r,hd,ho,h,hx,hy=>by
  cases x<;>cases y<;>simp only[eqI,reduceCtorEq]at h;rename_i l m;unfold C7 at hx hy;rw[if_pos (show(I.agg l).isAgg=true from rfl)]at hx;rw[if_pos (show(I.agg m).isAgg=true from rfl)]at hy;obtain⟨xs,rfl,hx⟩:=hx;obtain⟨ys,rfl,hy⟩:=hy;simp only[ETy.ok,Ap,Ad8]at ho;obtain⟨⟨h1,h2⟩,h3⟩:=ho;split at h3
  ·rename_i fs hu;have hfs:P.fieldsOf t=fs:=by simp[Program.fieldsOf,hu]
   rw[run_equalIn_struct w d t xs ys (by rw[hfs];exact hu) h1]
   exact Bao G n d es _ 0 l m xs ys [] [] xs.toList ys.toList r (by omega) h2 h (by simp) (by simp) rfl rfl hx hy
  ·cases h3
theorem Bao(G:Mem):∀(n d:Nat) (es:List ETy) (fs:List Field) (o:Nat) (l m:List I) (xs ys:Array Value) (p q cs ds:List Value) (r:Bool),n≤d→ETy.oks P n es fs o=true→Axn es l m=some r→
 xs.toList=p++cs→ys.toList=q++ds→p.length=o→q.length=o→F9 G l cs→F9 G m ds→(Op.eqFields d xs ys fs).run P w= .ok r w
 |n,d,[],fs,o,l,m,xs,ys,p,q,cs,ds,r,hd,ho,h,_,_,_,_,_,_=>by
  cases fs with
  |cons f fs=>simp[ETy.oks]at ho
  |nil=>
   cases l<;>cases m<;>simp[Axn]at h;subst h;simp[Op.eqFields]
 |n,d,e::es,fs,o,l,m,xs,ys,p,q,cs,ds,r,hd,ho,h,hp,hq,hpl,hql,hl,hm=>by
  cases fs with
  |nil=>simp[ETy.oks]at ho
  |cons f fs=>
   cases l with
   |nil=>cases m<;>simp[Axn]at h
   |cons x l=>
    cases m with
    |nil=>simp[Axn]at h
    |cons y m=>
     simp only[Axn]at h;cases h1:eqI e x y with
     |none=>simp[h1]at h
     |some r1=>
      cases h2:Axn es l m with
      |none=>simp[h1,h2]at h
      |some r2=>
       simp only[h1,h2,A0]at h;subst h;simp only[ETy.oks,Ap,beq_iff_eq,bne_iff_ne,ne_eq]at ho;obtain⟨⟨⟨⟨k1,k2⟩,k3⟩,k4⟩,k5⟩:=ho;obtain⟨s1,s2,s3,s4⟩:=A8s e x y r1 h1;obtain⟨c1,d1,e1,e2,e3⟩:=hl;obtain⟨c2,d2,e4,e5,e6⟩:=hm;obtain⟨u,hu1,hu2⟩:=Yw (P:=P) (w:=w) (pre:=p) (post:=d1) (by rw[hp,e1,Df]) e2 (by rw[s3,s1];exact k4)
       obtain⟨v,hv1,hv2⟩:=Yw (P:=P) (w:=w) (pre:=q) (post:=d2) (by rw[hq,e4,Df]) e5 (by rw[s4,s2];exact k4)
       have hr1:=Bc4 G n d e f.type x y u v r1 hd k3 h1 hu2 hv2;have hl1:=D8.length _ _ e2;have hl2:=D8.length _ _ e5;have ih:=Bao G n d es fs (o+e.size) l m xs ys (p++c1) (q++c2) d1 d2 r2 hd k5 h2 (by rw[hp,e1,Df]) (by rw[hq,e4,Df]) (by simp[hpl,hl1,s1]) (by simp[hql,hl2,s2]) e3 e6
       rw[hpl]at hu1;rw[hql]at hv1;simp only[Op.eqFields];rw[if_pos k1];simp only[Sem.run_bind,k2,hu1,hv1,hr1,Result.andThen];cases r1 with
       |true=>simpa using ih
       |false=>simp
end
def Ahf(d:Option Nat)(neg:Bool)(e:ETy)(x y:D6):M:=rdI x fun i=>rdI y fun j=>match eqI e i j with
 |some r=>Bca neg (.bool (!r)) (.bool r) fun r=>Gj d (.v r) .done
 |none=>.fail
def Bd4(P:Program)(e:ETy)(t:TypeId):Bool:=e.ok P 20 t&&(match e with
 | .st _=> !P.eqGuardType P.depth t
 | .bool=>true
 |_=>false)
theorem Zy{o:Oper}{neg:Bool}{t u:TypeId}{x y:Operand}{x' y':D6}{e:ETy}(ho:o.op= .binOp (if neg then .neq else .eql) t x y u)(hx:Jj N x x'=true)(hy:Jj N y y'=true)(he:Bd4 P e t=true):
 Sound P N o (Ahf o.dst neg e x' y'):=by
 intro G σ Fr w0 st a w Q next E hN hr hw hn C2
 subst hN;obtain⟨i,h1,hi⟩:=J8 hr hx hw;clear hw;obtain⟨j,hw,hj⟩:=J8 hr hy h1;clear h1;split at hw
 ·rename_i r Hm;unfold Bd4 at he;simp only[Ap]at he;have Aih:=Bc4 (P:=P) (w:=w) G 20 10000 e t i j _ _ r (by omega) he.1 Hm hi hj
  have hw:(Gj o.dst (.v (.bool (if neg then !r else r))) .done).wp P Q st:=by cases neg<;>exact hw
  refine J1 hr hn C2 (C7.bool.2 rfl) hw ?_;cases e with
  |st es=>
   cases i<;>cases j<;>simp only[eqI,reduceCtorEq]at Hm;unfold C7 at hi hj;rw[if_pos (show(I.agg _).isAgg=true from rfl)]at hi hj;obtain⟨xs,hxs,_⟩:=hi;obtain⟨ys,hys,_⟩:=hj;have hg:P.eqGuardType P.depth t=false:=by simpa using he.2
   rw[hxs,hys]at Aih;cases neg with
   |true=>simp[execOp,ho,hxs,hys,run_eqGuard_agg w .neq t x y xs ys hg,run_neq_struct,Aih]
   |false=>simp[execOp,ho,hxs,hys,run_eqGuard_agg w .eql t x y xs ys hg,run_eql_struct,Aih]
  |bool=>
   cases i<;>cases j<;>simp only[eqI,reduceCtorEq]at Hm;rw[C7.bool]at hi hj;rw[hi,hj]at Aih;have A90:(Op.equal t (.bool _) (.bool _)).run P w=_:=Aih;cases neg with
   |true=>simp[execOp,ho,hi,hj,eqGuard,binOp,A90]
   |false=>simp[execOp,ho,hi,hj,eqGuard,binOp,A90]
  |_=>simp at he
 ·exact hw.elim
theorem Bcs{d:Nat}{t e:TypeId}(hu:P.underlying t=some (.slice e))(ad:Option Addr)(n cap nn cc:Nat)(w:World):
 (Op.equalIn (d+1) t (.slice ad n cap) (.slice none nn cc)).run P w= .ok ad.isNone w:=by
 cases ad<;>simp[Op.equalIn,run_underlying hu]
theorem Bfx{t e:TypeId}(hu:P.underlying t=some (.slice e))(ad:Option Addr)(n cap nn cc:Nat)(w:World):
 (Op.equal t (.slice ad n cap) (.slice none nn cc)).run P w= .ok ad.isNone w:=Bcs (d:=9999) hu ad n cap nn cc w
def Bcc(d:Option Nat)(neg:Bool)(x:D6):M:=match x with
 | .t n=>.get n fun _ sv=>match sv with
   | .v (.list l)=>.all (fun b=>b=true→l=[]) fun b=>Bca neg (.bool (!b)) (.bool b) fun r=>Gj d (.v r) .done
   | .vec _ _ l=>.all (fun b=>b=true→l=[]) fun b=>Bca neg (.bool (!b)) (.bool b) fun r=>Gj d (.v r) .done
   | .bor s k v=>.get s fun cur sv'=>.Hh (v=cur) fun _=>match sv'.Aka k with
     |some (_,_,l)=>.all (fun b=>b=true→l=[]) fun b=>Bca neg (.bool (!b)) (.bool b) fun r=>Gj d (.v r) .done
     |none=>.fail
   |_=>.fail
 |_=>.fail
def A95(P:Program)(t:TypeId)(y:Operand):Bool:=(match P.underlying t with
 |some (.slice _)=>true
 |_=>false)&&(match y with
 | .const (.slice none _ _)=>true
 |_=>false)
theorem A9h{o:Oper}{neg:Bool}{t u:TypeId}{x y:Operand}{x':D6}(ho:o.op= .binOp (if neg then .neq else .eql) t x y u)(hx:Jj N x x'=true)(hy:A95 P t y=true):Sound P N o (Bcc o.dst neg x'):=by
 intro G σ Fr w0 st a w Q next E hN hr hw hn C2
 subst hN;unfold A95 at hy;simp only[Ap]at hy;obtain⟨hu,hy⟩:=hy;split at hu
 ·rename_i e hu';split at hy
  ·rename_i nn cc;have run:∀{ad:Option Addr} {n cap:Nat},a.eval x= .slice ad n cap→(execOp a.eval o).run P w= .ok (.value (.bool (if neg then !ad.isNone else ad.isNone))) w:=by
    intro ad n cap he;have hq:=Bfx hu' ad n cap nn cc w;have hy':a.eval (.const (.slice none nn cc))= .slice none nn cc:=rfl;cases neg<;>simp[execOp,ho,he,hy',eqGuard,binOp,hq]
   have fin:∀{ad:Option Addr} {cap:Nat} {l:List I},a.eval x= .slice ad l.length cap→(ad=none→l=[])→
    (M.all (fun b=>b=true→l=[]) fun b=>Bca neg (.bool (!b)) (.bool b) fun r=>Gj o.dst (.v r) .done).wp P Q st→o.wp P a w next E:=by
    intro ad cap l he hl hq;have hq':=hq ad.isNone (fun h=>hl (by simpa using h))
    have hq':(Gj o.dst (.v (.bool (if neg then !ad.isNone else ad.isNone))) .done).wp P Q st:=by cases neg<;>exact hq'
    exact J1 hr hn C2 (C7.bool.2 rfl) hq' (run he)
   have Bpx:∀{Gf:Nat × Nat} {e:TypeId} {sz:Nat} {l:List I} {c:Value},Aiu G σ w Gf e sz l c→∃ad cap,c= .slice ad l.length cap∧(ad=none→l=[]):=by
    intro Gf e sz l c h;obtain⟨xs,h1,_⟩:=h;rcases h1.2 with⟨rfl,h0⟩|⟨g,cap,cur,rfl,_⟩
    ·exact⟨none,0,by rw[h0],fun _=>Aby h0⟩
    ·exact⟨_,cap,rfl,fun h=>by cases h⟩
   cases x' with
   |c _=>exact hw.elim
   |Ahc _ _=>exact hw.elim
   |t n=>
    obtain⟨rfl,Agv⟩:=J0 hx;simp only[Bcc,M.wp]at hw;cases hs:st[n]? with
    |none=>simp[hs]at hw
    |some cur=>
     obtain⟨ver,sv⟩:=cur;simp only[hs]at hw;have Dh:=hr.slot Agv hs;split at hw
     ·rename_i l;have Ak4:C7 G (.list l) (a.eval (.tmp n)):=Dh;obtain⟨ad,cap,hc,_,_,h4⟩:=C7.list.1 Ak4;refine fin hc (fun e=>?_) hw
      rcases h4 with h4|⟨b,off,bl,ty,fz,sz,h5,_⟩
      ·exact h4
      ·rw[e]at h5;cases h5
     ·obtain⟨ad,cap,hc,hl⟩:=Bpx Dh;exact fin hc hl hw
     ·rename_i s k v;obtain⟨cur,g1,g2,g3⟩:=Dh;simp only[M.wp,g1]at hw;obtain⟨hv,hw⟩:=hw;obtain⟨e,sz,l,g4,g5⟩:=g3 hv;simp only[g4]at hw;obtain⟨ad,cap,hc,hl⟩:=Bpx g5;exact fin hc hl hw
     ·exact hw.elim
  ·cases hy
 ·cases hu
theorem Ae0{o:Oper}{t:TypeId}{x i:Operand}{x' i':D6}(ho:o.op= .index t x i)(hx:Jj N x x'=true)(hi:Jj N i i'=true)(ht:P.underlying t=some .string):Sound P N o (Agx o.dst x' i'):=by
 intro G σ Fr w0 st a w Q next E hN hr hw hn C2
 subst hN;obtain⟨u,h1,hu⟩:=J8 hr hx hw;clear hw;obtain⟨v,hw,hv⟩:=J8 hr hi h1;clear h1;split at hw
 ·rename_i s k n;split at hw
  ·rename_i b hb;obtain⟨h0,hw⟩:=hw;rw[C7.str]at hu;rw[C7.int]at hv;have Ze:n.toNat<s.length:=(A7.1 hb).1;have Avj:(⟨⟨s⟩⟩:ByteArray)[n.toNat]?=some b:=by
    have Hr:n.toNat<(⟨⟨s⟩⟩:ByteArray).size:=Ze;have:(⟨⟨s⟩⟩:ByteArray)[n.toNat]=b:=by
     have:=(A7.1 hb).2;exact this
    rw[getElem?_pos (⟨⟨s⟩⟩:ByteArray) n.toNat Hr,this]
   refine J1 hr hn C2 (C7.int.2 rfl) hw ?_;simp[execOp,ho,hu.1,hv,Instr.index,asIntOf,run_underlying ht,h0,Avj]
  ·exact hw.elim
 ·exact hw.elim
end

section
variable{P:Program}{N:Nat}{G:Mem}{σ:Lab}{Fr:Mem}{w0:Base}{w:World}{st:St}{a:Act}
end

section
variable{P:Program}{N:Nat}{G:Mem}{σ:Lab}{Fr:Mem}{w0:Base}{w:World}{st:St}{a:Act}
end

def bytesOf:List I→Option (List UInt8)
 | []=>some []
 | .int .u8 n::l=>match bytesOf l with
   |some r=>some (UInt8.ofNat n.toNat::r)
   |none=>none
 |_::_=>none
def Y4(d:Nat)(x:D6):M:=match x with
 | .t n=>.get n fun _ sv=>match sv with
   | .vec _ sz l=>match bytesOf l with
     |some r=>.Hh (sz=1∧r.length≤maxLen) fun _=>Jz d (.v (.str r))
     |none=>.fail
   | .bor s k v=>.get s fun cur sv'=>.Hh (v=cur) fun _=>match sv'.Aka k with
     |some (_,sz,l)=>match bytesOf l with
      |some r=>.Hh (sz=1∧r.length≤maxLen) fun _=>Jz d (.v (.str r))
      |none=>.fail
     |none=>.fail
   |_=>.fail
 |_=>.fail
def Acu(P:Program)(src dst:TypeId):Bool:=match P.underlying src,P.underlying dst with
 |some (.slice e),some .string=>match P.underlying e with
  |some (.int .u8)=>true
  |_=>false
 |_,_=>false
section
variable{P:Program}{N:Nat}{G:Mem}{σ:Lab}{Fr:Mem}{w0:Base}{w:World}{st:St}{a:Act}
theorem Tb{G:Mem}:∀{l:List I} {cs:List Value} {r:List UInt8},bytesOf l=some r→F9 G l cs→r.length=l.length∧∃ns:List Int,cs=ns.map (Value.int .u8)∧r=ns.map fun n=>UInt8.ofNat n.toNat
 | [],cs,r,h,hr=>by
   cases h;simp only[F9]at hr;exact⟨rfl,[],by simp[hr],rfl⟩
 | .int .u8 n::l,cs,r,h,hr=>by
   simp only[bytesOf]at h;cases hb:bytesOf l with
   |none=>simp[hb]at h
   |some r'=>
    simp only[hb,A0]at h;subst h;simp only[F9]at hr;obtain⟨c,d,rfl,h1,h2⟩:=hr;simp only[D8]at h1;subst h1;obtain⟨hl,ns,rfl,rfl⟩:=Tb hb h2;exact⟨by simp[hl],n::ns,by simp,by simp⟩
theorem Yy:∀(ns:List Int) (s:ByteArray),(ns.foldl (fun r n=>r.push (UInt8.ofNat n.toNat)) s)=⟨⟨s.data.toList++ns.map fun n=>UInt8.ofNat n.toNat⟩⟩
 | [],s=>by simp
 |n::ns,s=>by
  rw[List.foldl_cons,Yy ns];simp[ByteArray.push]
theorem Age{o:Oper}{d:Nat}{src dst:TypeId}{x:Operand}{x':D6}(hd:o.dst=some d)(ho:o.op= .convert src dst x)(hx:Jj N x x'=true)(ht:Acu P src dst=true):
 Sound P N o (Y4 d x'):=by
 intro G σ Fr w0 st a w Q next E hN hr hw hn C2
 subst hN;unfold Acu at ht;split at ht
 case h_2=>cases ht
 rename_i e Bir hdt;split at ht
 case h_2=>cases ht
 rename_i he;have run:∀{c:Value} {s:List UInt8},a.eval x=c→(Conv.bytesToString c).run P w= .ok (.string ⟨⟨s⟩⟩) w→(∃ad l cap,c= .slice ad l cap)→(execOp a.eval o).run P w= .ok (.value (.string ⟨⟨s⟩⟩)) w:=by
  rintro c s hc Aih ⟨ad,l,cap,rfl⟩;have:=run_convert_bytes_string (P:=P) w src dst e ad l cap Bir he hdt;rw[Aih]at this;simp[execOp,ho,hc,this]
 have row:∀{b off cap n:Nat} {bl:Array Value} {ty:TypeId} {fz:Nat × Nat} {l:List I} {cs:List Value} {r:List UInt8},w.heap[b]?=some (.cells bl ty fz)→cs=(bl.toList.drop off).take n→n=l.length→F9 G l cs→bytesOf l=some r→
  (Conv.bytesToString (.slice (some ⟨b,off,none⟩) n cap)).run P w= .ok (.string ⟨⟨r⟩⟩) w:=by
  intro b off cap n bl ty fz l cs r hb hcs hn Dh hr;obtain⟨hl,ns,hns,hrs⟩:=Tb hr Dh;have hcl:cs.length=n:=by rw[hns,Bh,hn, ←hl,hrs,Bh]
  have Bki:=run_loadCells_list (P:=P) w ⟨b,off,none⟩ cs (fun j v hj=>by
   rw[add_lit,cell_of_row w b (off+j) bl ty fz hb];have:bl[off+j]?=bl.toList[off+j]?:=by simp
   rw[this, ←Ae3];rw[hcs,Am5]at hj;split at hj
   ·exact hj
   ·cases hj)
  rw[hcl]at Bki;have:=run_bytesToString (P:=P) w ⟨b,off,none⟩ n cap ns (by rw[Bki,hns])
  rw[this,Yy];simp[hrs]
 cases x' with
 |t n=>
  obtain⟨rfl,Agv⟩:=J0 hx;simp only[Y4,M.wp]at hw;cases hs:st[n]? with
  |none=>simp[hs]at hw
  |some A77=>
   obtain⟨ver,sv⟩:=A77;simp only[hs]at hw;have Dh:=hr.slot Agv hs;have fin:∀{Gf:Nat × Nat} {e':TypeId} {sz':Nat} {l:List I} {r:List UInt8},Aiu G σ w Gf e' sz' l (a.eval (.tmp n))→bytesOf l=some r→sz'=1∧r.length≤maxLen→(Jz d (.v (.str r))).wp P Q st→o.wp P a w next E:=by
    rintro Gf e' sz' l r ⟨xs,h1,h2,h3,h4⟩ Hm ⟨rfl,A1r⟩ hw;have Aih:(Conv.bytesToString (a.eval (.tmp n))).run P w= .ok (.string ⟨⟨r⟩⟩) w∧∃ad l cap,a.eval (.tmp n)= .slice ad l cap:=by
     rcases h1.2 with⟨hc,h0⟩|⟨g,cap,Amr,hc,_,⟨ty,fz,hg,_⟩,hn',hm,Hr,htk⟩
     ·have hl0:l=[]:=Aby h0;subst hl0;cases Hm;rw[hc];exact⟨by simp[Conv.bytesToString];rfl,_,_,_,rfl⟩
     ·rw[hc];refine⟨row (l:=l) (cs:=xs) hg ?_ rfl h2 Hm,_,_,_,rfl⟩;rw[List.drop_zero, ←htk,Nat.mul_one]
    obtain⟨σ',st',r1,r2⟩:=hr.Ax2 (C2 d hd) (C7.str.2 ⟨rfl,A1r⟩) hw;exact Jt (run rfl Aih.1 Aih.2) (by rw[hd];exact hn G σ' st' _ w (Mem.le.refl G) r1 r2)
   split at hw
   ·split at hw
    ·rename_i r Hm;obtain⟨hm,hw⟩:=hw;exact fin Dh Hm hm hw
    ·exact hw.elim
   ·rename_i s k v;obtain⟨cur,g1,g2,g3⟩:=Dh;simp only[M.wp,g1]at hw;obtain⟨hv,hw⟩:=hw;obtain⟨e',sz',l,g4,g5⟩:=g3 hv;simp only[g4]at hw;split at hw
    ·rename_i r Hm;obtain⟨hm,hw⟩:=hw;exact fin g5 Hm hm hw
    ·exact hw.elim
   ·exact hw.elim
 |_=>exact hw.elim
end

section
variable{P:Program}{N:Nat}{G:Mem}{σ:Lab}{Fr:Mem}{w0:Base}{w:World}{st:St}{a:Act}
theorem Aq8.cons{G:Mem}{x:I}{p:Value}{l:List I}{r:List Value}(h:Azz G x p)(hl:Aq8 G l r):Aq8 G (x::l) (p::r):=by
 obtain⟨b,off,bl,ty,fz,pre,cs,post,h1,h2,h3,h4,h5⟩:=h;simp only[Aq8];exact⟨p,r,b,off,bl,ty,fz,pre,cs,post,rfl,h1,h2,h3,h4,h5,hl⟩
end

section
variable{P:Program}{N:Nat}{G:Mem}{σ:Lab}{Fr:Mem}{w0:Base}{w:World}{st:St}{a:Act}
theorem WOk.room(h:WOk G σ Fr w0 w)(s:Nat):∃K,∀b k,σ b=some (s,k)→k<K:=by
 have aux:∀n,∃K,∀b,b<n→∀k,σ b=some (s,k)→k<K:=by
  intro n;induction n with
  |zero=>exact⟨0,fun b hb=>by omega⟩
  |succ n ih=>
   obtain⟨K,hK⟩:=ih;cases hn:σ n with
   |none=>exact⟨K,fun b hb k hk=>by
    rcases Nat.lt_succ_iff_lt_or_eq.1 hb with h|rfl
    ·exact hK b h k hk
    ·rw[hn]at hk;cases hk⟩
   |some p=>exact⟨max K (p.2+1),fun b hb k hk=>by
    rcases Nat.lt_succ_iff_lt_or_eq.1 hb with h|rfl
    ·have:=hK b h k hk;omega
    ·rw[hn]at hk;cases hk;simp only;omega⟩
 obtain⟨K,hK⟩:=aux w.heap.size;exact⟨K,fun b k hb=>hK b (h.own b _ hb).2.2 k hb⟩
def Lab.Anp(σ:Lab)(s K:Nat)(bs:List Nat):Lab:=fun b=>if b∈bs then some (s,K+bs.idxOf b)else σ b
theorem Lab.Asm{s K:Nat}{bs:List Nat}{b:Nat}(h:b∈bs):σ.Anp s K bs b=some (s,K+bs.idxOf b):=by simp[Lab.Anp,h]
theorem Lab.Asn{s K:Nat}{bs:List Nat}{b:Nat}(h:b ∉ bs):σ.Anp s K bs b=σ b:=by simp[Lab.Anp,h]
theorem Wu{bs:List Nat}{b b':Nat}(h:b∈bs)(h':b'∈bs)(e:bs.idxOf b=bs.idxOf b'):b=b':=by
 have h1:=List.getElem_idxOf (List.idxOf_lt_length_of_mem h);have h2:=List.getElem_idxOf (List.idxOf_lt_length_of_mem h');rw[←h1, ←h2];simp only[e]
theorem WOk.Anp{s K:Nat}{bs:List Nat}(h:WOk G σ Fr w0 w)(hK:∀b k,σ b=some (s,k)→k<K)(hf:∀b∈bs,G b=none∧Fr b=none∧b<w.heap.size):WOk G (σ.Anp s K bs) Fr w0 w:=by
 refine⟨h.fixed,?_,?_,h.frame,h.os,h.tape,h.output,h.size,h.apart,h.amb⟩
 ·intro b Gf hb;by_cases hm:b∈bs
  ·exact hf b hm
  ·rw[Lab.Asn hm]at hb;exact h.own b Gf hb
 ·intro b b' Gf hb Sy;by_cases hm:b∈bs<;>by_cases hm':b'∈bs
  ·rw[Lab.Asm hm]at hb;rw[Lab.Asm hm']at Sy;rw[←Sy]at hb;simp only[A0,He,true_and]at hb;exact Wu hm hm' (by omega)
  ·rw[Lab.Asm hm]at hb;rw[Lab.Asn hm', ←hb]at Sy;have:=hK _ _ Sy;omega
  ·rw[Lab.Asn hm]at hb;rw[Lab.Asm hm']at Sy;obtain rfl:=Aag Sy;have:=hK _ _ hb;omega
  ·rw[Lab.Asn hm]at hb;rw[Lab.Asn hm']at Sy;exact h.inj b b' Gf hb Sy
def Awb(G:Mem)(σ:Lab)(Fr:Mem)(w:World)(u:D)(c:Value):Prop:=
 ∃bs,Fe G w u c.cells.toList bs∧valOf u.isAgg c=true∧bs.Nodup∧∀b∈bs,G b=none∧Fr b=none∧σ b=none∧b<w.heap.size
theorem Awb.item{u:I}{c:Value}(h:C7 G u c):Awb G σ Fr w (.it u) c:=by
 refine⟨[],?_,?_,Ach,by simp⟩
 ·simp only[Fe,and_true];exact h.cells
 ·unfold C7 at h;simp only[D.isAgg];split at h
  ·rename_i hx;obtain⟨cs,rfl,_⟩:=h;rw[hx];rfl
  ·rename_i hx;rw[show u.isAgg=false by simpa using hx]
   have:=D8.one _ _ h c (by simp)
   cases c<;>first|rfl|(simp[Value.oneCell']at this)
end

section
variable{P:Program}{N:Nat}{G:Mem}{σ:Lab}{Fr:Mem}{w0:Base}{w:World}{st:St}{a:Act}
theorem Pm{fz:Nat × Nat}{t:TypeId}{agg:Bool}{b off:Nat}{bl:Array Value}{ty:TypeId}{pre cs post:List Value}{v:Value}(h:Asu P t agg cs.length=true)
 (hh:w.heap[b]?=some (.cells bl ty fz)) (hfz:fz=(0,0)∨bl.size≤fz.1) (hs:bl.toList=pre++cs++post) (hp:pre.length=off) (h1:∀c∈v.cells.toList,c.oneCell'=true) (hlen:v.cells.toList.length=cs.length):
 (storeVar t ⟨b,off,none⟩ v).run P w= .ok () (w.setRow b (pre++v.cells.toList++post).toArray):=by
 obtain⟨_,h2⟩:=Q6 h w;have Beb:bl.size=pre.length+cs.length+post.length:=by
  have:bl.size=bl.toList.length:=by simp
  rw[this,hs];simp;omega
 have hst:=Pk P b off ty fz v.cells.toList 0 bl w hh hfz (by rw[hlen,Beb,hp];omega) h1
 have e1:bl.toList.take (off+0)=pre:=by rw[hs,Df,Amf, ←hp,Amq]
 have e2:bl.toList.drop (off+0+v.cells.toList.length)=post:=by
  rw[hs,hlen,Amf, ←hp, ←Hq,Aog]
 rw[e1,e2]at hst;have Hr:v.cells.size=cs.length:=by rw[←hlen];simp
 simp[storeVar,h2,Hr,hst]
theorem Rel.Bje{s cur:Nat}{inv:Inv}{p:List Nat}{t t' u u':D}{tt:TypeId}{agg:Bool}{c cv:Value}(h:Rel G σ Fr w0 st a w)(hs:st[s]?=some (cur,.own inv t))(C3:t.at p=some u)(Aof:t.put p u'=some t')
 (Atb:Awb G σ Fr w u' cv) (hag:u'.isAgg=u.isAgg) (Hr:u'.size=u.size) (hpt:PtD w t (val a w0 s) p c) (ht:Asu P tt agg u.size=true):
 ∃b o w' σ',c= .pointer (some ⟨b,o,none⟩)∧(storeVar tt ⟨b,o,none⟩ cv).run P w= .ok () w'∧
  Rel G σ' Fr w0 (st.set s (cur+1,.own (if u.leaf then inv else bump inv p (cur+1)) t')) a w':=by
 obtain⟨bs,Dh,hva,hnd,Aoe⟩:=show Ac5 G σ w s t (val a w0 s)from h.Eb s cur _ hs;obtain⟨m,s',ubs,f1,f2,f3,f4,f5,f6⟩:=focus (here:=none) Dh hnd C3
 obtain⟨u0,b,o,cs,p1,p2,rfl⟩:=hpt;rw[f1]at p2;obtain rfl:=Aag p2;have hp0:p≠[]:=by
  rintro rfl;simp only[spot,A0,He]at f1;cases f1.1
 obtain⟨Asv,g1,g2,g3,g4⟩:=Atb;have hcl:cs.length=u.size:=Fe.length f2;have hvl:cv.cells.toList.length=cs.length:=by rw[Fe.length g1,Hr,hcl]
 cases m with
 |inl pre post=>obtain⟨_,e⟩:=f5;cases e
 |val=>cases f5
 |blk g pre post ty fz=>
  obtain⟨q1,q2,⟨row,q3,q4,q5⟩,q6⟩:=f5;simp only[A0,He]at q6;obtain⟨rfl,rfl⟩:=q6;simp only at q5;have Aih:=Pm (P:=P) (cs:=cs) (v:=cv) (t:=tt) (agg:=agg) (by rw[hcl];exact ht) q3 q4 q5 rfl (Fe.one g1) hvl
  obtain⟨kb,hkb⟩:=Aoe b q1;have hbu:b ∉ Asv:=fun hb=>by
   have:=(g4 b hb).2.2.1;rw[hkb]at this;cases this
  have hub:∀x∈Asv,x ∉ bs:=fun x hx hb=>by
   obtain⟨k,hk⟩:=Aoe x hb;have:=(g4 x hx).2.2.1;rw[hk]at this;cases this
  have Akv:(w.setRow b (pre++cv.cells.toList++post).toArray).heap[b]?=some (.cells (pre++cv.cells.toList++post).toArray ty fz):=setRow_heap w b row _ ty fz q3;have Av2:∀x,x≠b→(w.setRow b (pre++cv.cells.toList++post).toArray).heap[x]?=w.heap[x]?:=fun x hx=>setRow_other w b x _ hx
  obtain⟨bs',r1,r2,r3,r4,r5⟩:=f6 G (w.setRow b (pre++cv.cells.toList++post).toArray) u' cv.cells.toList Asv t' (Mem.le.refl G) hvl hag
   (g1.tr (Mem.le.refl G) fun x hx=>Av2 x fun e=>hbu (e ▸ hx)) g3 (fun x hx=>.inr (hub x hx)) ⟨Akv,fun x _ _ hxb=>Av2 x hxb⟩ Aof
  rw[if_neg hp0]at r4;obtain⟨K,hK⟩:=h.Fc.room s;have hold:∀x k,σ x=some k→σ.Anp s K Asv x=some k:=fun x k hx=>by
   rw[Lab.Asn]
   ·exact hx
   ·intro hm;have:=(g4 x hm).2.2.1;rw[hx]at this;cases this
  refine⟨b,pre.length,_,σ.Anp s K Asv,rfl,Aih,?_⟩;have Biu:=(h.Fc.setRow hkb (pre++cv.cells.toList++post).toArray).Anp (s:=s) (K:=K) (bs:=Asv) hK fun x hx=>by
   obtain⟨k1,k2,_,k4⟩:=g4 x hx;exact⟨k1,k2,by simpa[World.setRow]using k4⟩
  obtain⟨hpd,hbd⟩:=Focus.refs (G:=G) (inv:=inv) (cur:=cur) r5;refine h.tree Biu (Mem.le.refl G) hs (Ej _) ?_ (fun _ x k hx=>hold x _ hx) ?_ hpd hbd
  ·intro s1 hs1 x k hx;exact⟨hold x _ hx,Av2 x fun e=>by rw[e,hkb]at hx;cases hx;exact hs1 rfl⟩
  ·refine⟨bs',r1,by rw[r4];exact hva,r2,fun x hx=>?_⟩
   rcases(r3 x).1 hx with⟨h1,_⟩|h1
   ·obtain⟨k,hk⟩:=Aoe x h1;exact⟨k,hold x _ hk⟩
   ·exact⟨_,Lab.Asm h1⟩
end

def rdD(x:D6)(k:(s cur:Nat)→(inv:Inv)→D→List Nat→M):M:=match x with
 | .t n=>.get n fun ver sv=>match sv with
   | .own inv t=>match t with
     | .ptr t=>k n ver inv (.ptr t) [0]
     |_=>.fail
   | .pd s v p=>.get s fun cur sv'=>match sv' with
     | .own inv t=>.Hh (p≠[]∧alive v inv p=true) fun _=>k s cur inv t p
     |_=>.fail
   | .par h=>.get h fun cur sv'=>match sv' with
     | .own inv t=>match t with
       | .ptr t=>k h cur inv (.ptr t) [0]
       |_=>.fail
     |_=>.fail
   |_=>.fail
 |_=>.fail
def rdH(x:D6)(k:(s cur:Nat)→(inv:Inv)→D→List Nat→M):M:=match x with
 | .t n=>.get n fun ver sv=>match sv with
   | .own inv t=>.Hh (t.head=true) fun _=>k n ver inv t []
   | .bd s v p=>.get s fun cur sv'=>match sv' with
     | .own inv t=>.Hh (J7 v inv p=true) fun _=>k s cur inv t p
     |_=>.fail
   | .par h=>.get h fun cur sv'=>match sv' with
     | .own inv t=>.Hh (t.head=true) fun _=>k h cur inv t []
     |_=>.fail
   |_=>.fail
 |_=>.fail
section
variable{P:Program}{N:Nat}{G:Mem}{σ:Lab}{Fr:Mem}{w0:Base}{w:World}{st:St}{a:Act}
theorem Ub{x:Operand}{y:D6}{k:(s cur:Nat)→(inv:Inv)→D→List Nat→M}{Q:St→Prop}(h:Rel G σ Fr w0 st a w)(ho:Jj w0.n x y=true)(hq:(rdD y k).wp P Q st):
 ∃s cur inv t p,(k s cur inv t p).wp P Q st∧st[s]?=some (cur,.own inv t)∧p≠[]∧PtD w t (val a w0 s) p (a.eval x):=by
 cases y with
 |c _=>exact hq.elim
 |Ahc _ _=>exact hq.elim
 |t n=>
  obtain⟨rfl,Agv⟩:=J0 ho;simp only[rdD,M.wp]at hq;cases hs:st[n]? with
  |none=>simp[hs]at hq
  |some cur=>
   obtain⟨ver,sv⟩:=cur;simp only[hs]at hq;have Dh:=h.slot Agv hs;have hv:val a w0 n=a.eval (.tmp n):=J2 (by rw[h.n];exact Agv)
   cases sv with
   |own inv t=>
    cases t with
    |ptr t=>exact⟨n,ver,inv,_,[0],hq,hs,by simp,by rw[hv];exact Ac5.pt Dh⟩
    |_=>exact hq.elim
   |pd s v p=>
    obtain⟨cur,h1,h2,h3⟩:=Dh;simp only[M.wp,h1]at hq;obtain⟨cv,csv⟩:=cur;cases csv with
    |own inv t=>
     obtain⟨⟨hp,ha⟩,hq⟩:=hq;exact⟨s,cv,inv,t,p,hq,h1,hp,h3 inv t rfl hp ha⟩
    |_=>exact hq.elim
   |par hh=>
    obtain⟨hv',hle⟩:=h.As8 n ver hh hs;rw[hv]at hv';simp only[M.wp]at hq;cases h1:st[hh]? with
    |none=>simp[h1]at hq
    |some cur=>
     obtain⟨cv,csv⟩:=cur;simp only[h1]at hq;have Ak4:=h.Eb hh cv csv h1;cases csv with
     |own inv t=>
      cases t with
      |ptr t=>exact⟨hh,cv,inv,_,[0],hq,h1,by simp,by rw[hv'];exact Ac5.pt Ak4⟩
      |_=>exact hq.elim
     |_=>exact hq.elim
   |_=>exact hq.elim
theorem Ue{x:Operand}{y:D6}{k:(s cur:Nat)→(inv:Inv)→D→List Nat→M}{Q:St→Prop}(h:Rel G σ Fr w0 st a w)(ho:Jj w0.n x y=true)(hq:(rdH y k).wp P Q st):
 ∃s cur inv t p,(k s cur inv t p).wp P Q st∧st[s]?=some (cur,.own inv t)∧HdD w t (val a w0 s) p (a.eval x):=by
 cases y with
 |c _=>exact hq.elim
 |Ahc _ _=>exact hq.elim
 |t n=>
  obtain⟨rfl,Agv⟩:=J0 ho;simp only[rdH,M.wp]at hq;cases hs:st[n]? with
  |none=>simp[hs]at hq
  |some cur=>
   obtain⟨ver,sv⟩:=cur;simp only[hs]at hq;have Dh:=h.slot Agv hs;have hv:val a w0 n=a.eval (.tmp n):=J2 (by rw[h.n];exact Agv)
   cases sv with
   |own inv t=>
    obtain⟨hh,hq⟩:=hq;exact⟨n,ver,inv,_,[],hq,hs,by rw[hv];exact Ac5.hd Dh hh⟩
   |bd s v p=>
    obtain⟨cur,h1,h2,h3⟩:=Dh;simp only[M.wp,h1]at hq;obtain⟨cv,csv⟩:=cur;cases csv with
    |own inv t=>
     obtain⟨ha,hq⟩:=hq;exact⟨s,cv,inv,t,p,hq,h1,h3 inv t rfl ha⟩
    |_=>exact hq.elim
   |par hh=>
    obtain⟨hv',hle⟩:=h.As8 n ver hh hs;rw[hv]at hv';simp only[M.wp]at hq;cases h1:st[hh]? with
    |none=>simp[h1]at hq
    |some cur=>
     obtain⟨cv,csv⟩:=cur;simp only[h1]at hq;have Ak4:=h.Eb hh cv csv h1;cases csv with
     |own inv t=>
      obtain⟨hh',hq⟩:=hq;exact⟨hh,cv,inv,_,[],hq,h1,by rw[hv'];exact Ac5.hd Ak4 hh'⟩
     |_=>exact hq.elim
   |_=>exact hq.elim
theorem PtD.block{s:Nat}{t u:D}{cr c:Value}{p:List Nat}(ho:Ac5 G σ w s t cr)(C3:t.at p=some u)(h:PtD w t cr p c):
 ∃b off bl ty fz pre cs post ubs,c= .pointer (some ⟨b,off,none⟩)∧w.heap[b]?=some (.cells bl ty fz)∧bl.toList=pre++cs++post∧pre.length=off∧Fe G w u cs ubs∧ubs.Nodup∧
  spot w p t (none,cr.cells.toList)=some (some (b,off),cs):=by
 obtain⟨bs,Dh,hva,hnd,Aoe⟩:=ho;obtain⟨m,s',ubs,f1,f2,f3,f4,f5,f6⟩:=focus (here:=none) Dh hnd C3
 obtain⟨u0,b,o,cs,p1,p2,rfl⟩:=h;have p2':=p2;rw[f1]at p2;obtain rfl:=Aag p2;cases m with
 |inl pre post=>obtain⟨_,e⟩:=f5;cases e
 |val=>cases f5
 |blk g pre post ty fz=>
  obtain⟨q1,q2,⟨row,q3,q4,q5⟩,q6⟩:=f5;simp only[A0,He]at q6;obtain⟨rfl,rfl⟩:=q6;exact⟨b,_,row,ty,fz,pre,cs,post,ubs,rfl,q3,q5,rfl,f2,f3,p2'⟩
theorem HdD.read{s:Nat}{t u:D}{cr c:Value}{p:List Nat}(ho:Ac5 G σ w s t cr)(C3:t.at p=some u)(h:HdD w t cr p c):∃hh ubs,Fe G w u [c] ubs∧ubs.Nodup∧spot w p t (none,cr.cells.toList)=some (hh,[c]):=by
 obtain⟨bs,Dh,hva,hnd,Aoe⟩:=ho;obtain⟨m,s',ubs,f1,f2,f3,f4,f5,f6⟩:=focus (here:=none) Dh hnd C3
 obtain⟨u0,hh,p1,p0,p2⟩:=h;have p2':=p2;rw[f1]at p2;obtain rfl:=Aag p2;exact⟨hh,ubs,f2,f3,p2'⟩
theorem Nf:∀{p:List Nat} {t u:D} {i:Nat},t.at p=some u→t.at (p++[i])=u.Xw i
 | [],t,u,i,h=>by
   simp only[D.at,A0]at h;subst h;simp only[H4,D.at];cases t.Xw i<;>rfl
 |j::p,t,u,i,h=>by
  simp only[D.at]at h;simp only[H3,D.at];cases hk:t.Xw j with
  |none=>simp[hk]at h
  |some y=>simp only[hk]at h;exact Nf h
theorem L5:∀{p:List Nat} {t u y:D} {i:Nat} {z z':Avv},t.at p=some u→spot w p t z=some z'→u.Xw i=some y→spot w (p++[i]) t z=Jx w u z' i
 | [],t,u,y,i,z,z',h,hz,hy=>by
   simp only[D.at,A0]at h;simp only[spot,A0]at hz;subst h hz;simp only[H4,spot,hy];cases Jx w t z i<;>rfl
 |j::p,t,u,y,i,z,z',h,hz,hy=>by
  simp only[D.at]at h;simp only[spot]at hz;simp only[H3,spot];cases hk:t.Xw j with
  |none=>simp[hk]at h
  |some y0=>
   simp only[hk]at h hz ⊢;cases hks:Jx w t z j with
   |none=>simp[hks]at hz
   |some z0=>
    simp only[hks]at hz ⊢;exact L5 h hz hy
end
end Go.Ab
