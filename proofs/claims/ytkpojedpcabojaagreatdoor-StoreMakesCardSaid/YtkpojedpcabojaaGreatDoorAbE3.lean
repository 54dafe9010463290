/- Lemmas -/
import Derived.Test.YtkpojedpcabojaaGreatDoorAb14
import Derived.Laws.IdiomStrings
import Derived.Laws.BytesString
set_option linter.unusedVariables false
set_option linter.unusedSimpArgs false
namespace Go.Ab
inductive Kt where
 |int (k:IntKind)
 |bool
 |str
 |st (l:List Kt)
 deriving Inhabited
mutual
def Kt.size:Kt→Nat
 | .st l=>Kt.sizes l
 |_=>1
def Kt.sizes:List Kt→Nat
 | []=>0
 |e::l=>e.size+Kt.sizes l
end
def Kt.Arn:Kt→Bool
 | .st _=>true
 |_=>false
mutual
def Kt.ok(P:Program):Nat→Kt→TypeId→Bool
 |0,_,_=>false
 |_+1,.int k,t=>match P.underlying t with
  |some (.int k')=>k==k'
  |_=>false
 |_+1,.bool,t=>match P.underlying t with
  |some .bool=>true
  |_=>false
 |_+1,.str,t=>match P.underlying t with
  |some .string=>true
  |_=>false
 |n+1,.st l,t=> !P.stoodInHeld t&&Kt.Ri P n l (P.fieldsOf t).toList 0&&(match P.underlying t with
  |some (.struct _)=>true
  |_=>false)
def Kt.Ri(P:Program):Nat→List Kt→List Field→Nat→Bool
 |_,[],[],_=>true
 |n,e::l,f::fs,o=>f.name != "_" &&f.offset==o&&e.ok P n f.type&&Mq P f.type e.Arn e.size&&Kt.Ri P n l fs (o+e.size)
 |_,_,_,_=>false
end
mutual
def Qd:Kt→I→I→Option Bool
 | .int k,.int k1 a,.int k2 b=>if k1=k∧k2=k then some (decide (a=b))else none
 | .bool,.bool a,.bool b=>some (decide (a=b))
 | .str,.str a,.str b=>some (decide (a=b))
 | .st es,.agg l,.agg m=>Wz es l m
 |_,_,_=>none
def Wz:List Kt→List I→List I→Option Bool
 | [],[],[]=>some true
 |e::es,x::l,y::m=>match Qd e x y with
  |some r=>match Wz es l m with
   |some r'=>some (r&&r')
   |none=>none
  |none=>none
 |_,_,_=>none
end
section
variable{P:Program}{N:Nat}{G:Mem}{σ:Lab}{Fr:Mem}{w0:Base}{w:World}{st:St}{a:Act}
theorem A3q{arr:Array Value}{pre cs post:List Value}{y:I}{t:TypeId}(h:arr.toList=pre++cs++post)(hy:Bi G y cs)(ht:Mq P t y.isAgg y.size=true):
 ∃v,(part t arr pre.length).run P w= .ok v w∧Bb G y v:=by
 obtain⟨g1,g2⟩:=Aem ht w;have hl:=Bi.length _ _ hy;cases A90:y.isAgg with
 |true=>
  rw[A90]at g1;refine⟨.agg (arr.extract pre.length (pre.length+y.size)),by simp[part,g1,g2],?_⟩
  unfold Bb;rw[if_pos A90];refine⟨_,rfl,?_⟩;have:(arr.extract pre.length (pre.length+y.size)).toList=cs:=by
   rw[Array.toList_extract,h,List.extract_eq_take_drop, ←hl,Nat.add_sub_cancel_left,A8,Jy,Gt]
  rw[this];exact hy
 |false=>
  rw[A90]at g1;have Acj:y.size=1:=by cases y<;>simp_all [I.isAgg,I.size]
  rw[Acj]at hl
  match cs,hl with
  | [v],_=>
    have hv:arr[pre.length]?=some v:=by
     have:arr[pre.length]?=arr.toList[pre.length]?:=by simp
     rw[this,h];simp
    refine⟨v,by simp[part,g1,hv],?_⟩
    unfold Bb;rw[if_neg (by simp[A90])]
    exact hy
mutual
theorem Axc:∀(e:Kt) (x y:I) (r:Bool),Qd e x y=some r→x.size=e.size∧y.size=e.size∧x.isAgg=e.Arn∧y.isAgg=e.Arn
 | .int k,x,y,r,h=>by
   cases x<;>cases y<;>simp[Qd]at h;simp[I.size,Kt.size,I.isAgg,Kt.Arn]
 | .bool,x,y,r,h=>by
   cases x<;>cases y<;>simp[Qd]at h;simp[I.size,Kt.size,I.isAgg,Kt.Arn]
 | .str,x,y,r,h=>by
   cases x<;>cases y<;>simp[Qd]at h;simp[I.size,Kt.size,I.isAgg,Kt.Arn]
 | .st es,x,y,r,h=>by
   cases x<;>cases y<;>simp only[Qd,reduceCtorEq]at h;obtain⟨h1,h2⟩:=Asy es _ _ r h;simp[I.size,Kt.size,I.isAgg,Kt.Arn,h1,h2]
theorem Asy:∀(es:List Kt) (l m:List I) (r:Bool),Wz es l m=some r→sizes l=Kt.sizes es∧sizes m=Kt.sizes es
 | [],l,m,r,h=>by
   cases l<;>cases m<;>simp[Wz]at h;simp[sizes,Kt.sizes]
 |e::es,l,m,r,h=>by
  cases l with
  |nil=>cases m<;>simp[Wz]at h
  |cons x l=>
   cases m with
   |nil=>simp[Wz]at h
   |cons y m=>
    simp only[Wz]at h;cases h1:Qd e x y with
    |none=>simp[h1]at h
    |some r1=>
     cases h2:Wz es l m with
     |none=>simp[h1,h2]at h
     |some r2=>
      obtain⟨k1,k2,_,_⟩:=Axc e x y r1 h1;obtain⟨k3,k4⟩:=Asy es l m r2 h2;simp[sizes,Kt.sizes,k1,k2,k3,k4]
end
mutual
theorem A7h(G:Mem):∀(n d:Nat) (e:Kt) (t:TypeId) (x y:I) (u v:Value) (r:Bool),n≤d→e.ok P n t=true→Qd e x y=some r→Bb G x u→Bb G y v→(Op.equalIn d t u v).run P w= .ok r w
 |0,_,_,_,_,_,_,_,_,_,ho,_,_,_=>by simp[Kt.ok]at ho
 |n+1,0,_,_,_,_,_,_,_,hd,_,_,_,_=>by omega
 |n+1,d+1,.int k,t,x,y,u,v,r,_,ho,h,hx,hy=>by
  cases x<;>cases y<;>simp only[Qd,reduceCtorEq]at h;split at h
  ·rename_i hk;cases h;rw[Bb.int]at hx hy;simp only[Kt.ok]at ho;split at ho
   ·rename_i hu;rw[hx,hy,hk.1,hk.2,run_equalIn_int w d t _ _ _ _ hu,beq_eq]
   ·cases ho
  ·cases h
 |n+1,d+1,.bool,t,x,y,u,v,r,_,ho,h,hx,hy=>by
  cases x<;>cases y<;>simp only[Qd,Af,reduceCtorEq]at h;rename_i p q;subst h;rw[Bb.bool]at hx hy;simp only[Kt.ok]at ho;split at ho
  ·rename_i hu;have e:(p==q)=decide (p=q):=by cases p<;>cases q<;>rfl
   rw[hx,hy,run_equalIn_bool' w d t p q hu,e]
  ·cases ho
 |n+1,d+1,.str,t,x,y,u,v,r,_,ho,h,hx,hy=>by
  cases x<;>cases y<;>simp only[Qd,Af,reduceCtorEq]at h;rename_i p q;subst h;rw[Bb.str]at hx hy;simp only[Kt.ok]at ho;split at ho
  ·rename_i hu;have e:((⟨⟨p⟩⟩:ByteArray).toList==(⟨⟨q⟩⟩:ByteArray).toList)=decide (p=q):=by
    rw[Bool.eq_iff_iff];simp
   rw[hx.1,hy.1,run_equalIn_string w d t _ _ hu,e]
  ·cases ho
 |n+1,d+1,.st es,t,x,y,u,v,r,hd,ho,h,hx,hy=>by
  cases x<;>cases y<;>simp only[Qd,reduceCtorEq]at h;rename_i l m;unfold Bb at hx hy;rw[if_pos (show(I.agg l).isAgg=true from rfl)]at hx;rw[if_pos (show(I.agg m).isAgg=true from rfl)]at hy;obtain⟨xs,rfl,hx⟩:=hx;obtain⟨ys,rfl,hy⟩:=hy;simp only[Kt.ok,Ad,Ds]at ho;obtain⟨⟨h1,h2⟩,h3⟩:=ho;split at h3
  ·rename_i fs hu;have hfs:P.fieldsOf t=fs:=by simp[Program.fieldsOf,hu]
   rw[run_equalIn_struct w d t xs ys (by rw[hfs];exact hu) h1]
   exact A1f G n d es _ 0 l m xs ys [] [] xs.toList ys.toList r (by omega) h2 h (by simp) (by simp) rfl rfl hx hy
  ·cases h3
theorem A1f(G:Mem):∀(n d:Nat) (es:List Kt) (fs:List Field) (o:Nat) (l m:List I) (xs ys:Array Value) (p q cs ds:List Value) (r:Bool),n≤d→Kt.Ri P n es fs o=true→Wz es l m=some r→
 xs.toList=p++cs→ys.toList=q++ds→p.length=o→q.length=o→B4 G l cs→B4 G m ds→(Op.eqFields d xs ys fs).run P w= .ok r w
 |n,d,[],fs,o,l,m,xs,ys,p,q,cs,ds,r,hd,ho,h,_,_,_,_,_,_=>by
  cases fs with
  |cons f fs=>simp[Kt.Ri]at ho
  |nil=>
   cases l<;>cases m<;>simp[Wz]at h;subst h;simp[Op.eqFields]
 |n,d,e::es,fs,o,l,m,xs,ys,p,q,cs,ds,r,hd,ho,h,hp,hq,Ju,Sv,hl,hm=>by
  cases fs with
  |nil=>simp[Kt.Ri]at ho
  |cons f fs=>
   cases l with
   |nil=>cases m<;>simp[Wz]at h
   |cons x l=>
    cases m with
    |nil=>simp[Wz]at h
    |cons y m=>
     simp only[Wz]at h;cases h1:Qd e x y with
     |none=>simp[h1]at h
     |some r1=>
      cases h2:Wz es l m with
      |none=>simp[h1,h2]at h
      |some r2=>
       simp only[h1,h2,Af]at h;subst h;simp only[Kt.Ri,Ad,beq_iff_eq,bne_iff_ne,ne_eq]at ho;obtain⟨⟨⟨⟨k1,k2⟩,k3⟩,k4⟩,k5⟩:=ho;obtain⟨s1,s2,s3,s4⟩:=Axc e x y r1 h1;obtain⟨c1,d1,e1,e2,e3⟩:=hl;obtain⟨c2,d2,e4,e5,e6⟩:=hm;obtain⟨u,hu1,hu2⟩:=A3q (P:=P) (w:=w) (pre:=p) (post:=d1) (by rw[hp,e1,A8]) e2 (by rw[s3,s1];exact k4)
       obtain⟨v,Mi,hv2⟩:=A3q (P:=P) (w:=w) (pre:=q) (post:=d2) (by rw[hq,e4,A8]) e5 (by rw[s4,s2];exact k4)
       have Hr:=A7h G n d e f.type x y u v r1 hd k3 h1 hu2 hv2;have hl1:=Bi.length _ _ e2;have Tf:=Bi.length _ _ e5;have ih:=A1f G n d es fs (o+e.size) l m xs ys (p++c1) (q++c2) d1 d2 r2 hd k5 h2 (by rw[hp,e1,A8]) (by rw[hq,e4,A8]) (by simp[Ju,hl1,s1]) (by simp[Sv,Tf,s2]) e3 e6
       rw[Ju]at hu1;rw[Sv]at Mi;simp only[Op.eqFields];rw[if_pos k1];simp only[Sem.run_bind,k2,hu1,Mi,Hr,Result.andThen];cases r1 with
       |true=>simpa using ih
       |false=>simp
end
def Bnq(d:Option Nat)(neg:Bool)(e:Kt)(x y:Bh):M:=Qi x fun i=>Qi y fun j=>match Qd e i j with
 |some r=>A39 neg (.bool (!r)) (.bool r) fun r=>Ci d (.v r) .done
 |none=>.fail
def A9u(P:Program)(e:Kt)(t:TypeId):Bool:=e.ok P 20 t&&(match e with
 | .st _=> !P.eqGuardType P.depth t
 | .bool=>true
 |_=>false)
theorem A4w{o:Oper}{neg:Bool}{t u:TypeId}{x y:Operand}{x' y':Bh}{e:Kt}(ho:o.op= .binOp (if neg then .neq else .eql) t x y u)(hx:Bu N x x'=true)(hy:Bu N y y'=true)(he:A9u P e t=true):
 Sound P N o (Bnq o.dst neg e x' y'):=by
 intro G σ Fr w0 st a w Q next E hN hr hw hn A9
 subst hN;obtain⟨i,h1,hi⟩:=Hs hr hx hw;clear hw;obtain⟨j,hw,hj⟩:=Hs hr hy h1;clear h1;split at hw
 ·rename_i r D2;unfold A9u at he;simp only[Ad]at he;have Ez:=A7h (P:=P) (w:=w) G 20 10000 e t i j _ _ r (by omega) he.1 D2 hi hj
  have hw:(Ci o.dst (.v (.bool (if neg then !r else r))) .done).wp P Q st:=by cases neg<;>exact hw
  refine Gn hr hn A9 (Bb.bool.2 rfl) hw ?_;cases e with
  |st es=>
   cases i<;>cases j<;>simp only[Qd,reduceCtorEq]at D2;unfold Bb at hi hj;rw[if_pos (show(I.agg _).isAgg=true from rfl)]at hi hj;obtain⟨xs,Sc,_⟩:=hi;obtain⟨ys,hys,_⟩:=hj;have hg:P.eqGuardType P.depth t=false:=by simpa using he.2
   rw[Sc,hys]at Ez;cases neg with
   |true=>simp[execOp,ho,Sc,hys,run_eqGuard_agg w .neq t x y xs ys hg,run_neq_struct,Ez]
   |false=>simp[execOp,ho,Sc,hys,run_eqGuard_agg w .eql t x y xs ys hg,run_eql_struct,Ez]
  |bool=>
   cases i<;>cases j<;>simp only[Qd,reduceCtorEq]at D2;rw[Bb.bool]at hi hj;rw[hi,hj]at Ez;have Az9:(Op.equal t (.bool _) (.bool _)).run P w=_:=Ez;cases neg with
   |true=>simp[execOp,ho,hi,hj,eqGuard,binOp,Az9]
   |false=>simp[execOp,ho,hi,hj,eqGuard,binOp,Az9]
  |_=>simp at he
 ·exact hw.elim
theorem A50{d:Nat}{t e:TypeId}(hu:P.underlying t=some (.slice e))(ad:Option Addr)(n cap nn cc:Nat)(w:World):
 (Op.equalIn (d+1) t (.slice ad n cap) (.slice none nn cc)).run P w= .ok ad.isNone w:=by
 cases ad<;>simp[Op.equalIn,run_underlying hu]
theorem Bdt{t e:TypeId}(hu:P.underlying t=some (.slice e))(ad:Option Addr)(n cap nn cc:Nat)(w:World):
 (Op.equal t (.slice ad n cap) (.slice none nn cc)).run P w= .ok ad.isNone w:=A50 (d:=9999) hu ad n cap nn cc w
def A4n(d:Option Nat)(neg:Bool)(x:Bh):M:=match x with
 | .t n=>.get n fun _ sv=>match sv with
   | .v (.list l)=>.all (fun b=>b=true→l=[]) fun b=>A39 neg (.bool (!b)) (.bool b) fun r=>Ci d (.v r) .done
   | .vec _ _ l=>.all (fun b=>b=true→l=[]) fun b=>A39 neg (.bool (!b)) (.bool b) fun r=>Ci d (.v r) .done
   | .Km s k v=>.get s fun cur Ek=>.Co (v=cur) fun _=>match Ek.Fu k with
     |some (_,_,l)=>.all (fun b=>b=true→l=[]) fun b=>A39 neg (.bool (!b)) (.bool b) fun r=>Ci d (.v r) .done
     |none=>.fail
   |_=>.fail
 |_=>.fail
def A0h(P:Program)(t:TypeId)(y:Operand):Bool:=(match P.underlying t with
 |some (.slice _)=>true
 |_=>false)&&(match y with
 | .const (.slice none _ _)=>true
 |_=>false)
theorem Ayy{o:Oper}{neg:Bool}{t u:TypeId}{x y:Operand}{x':Bh}(ho:o.op= .binOp (if neg then .neq else .eql) t x y u)(hx:Bu N x x'=true)(hy:A0h P t y=true):Sound P N o (A4n o.dst neg x'):=by
 intro G σ Fr w0 st a w Q next E hN hr hw hn A9
 subst hN;unfold A0h at hy;simp only[Ad]at hy;obtain⟨hu,hy⟩:=hy;split at hu
 ·rename_i e hu';split at hy
  ·rename_i nn cc;have run:∀{ad:Option Addr} {n cap:Nat},a.eval x= .slice ad n cap→(execOp a.eval o).run P w= .ok (.value (.bool (if neg then !ad.isNone else ad.isNone))) w:=by
    intro ad n cap he;have hq:=Bdt hu' ad n cap nn cc w;have L9:a.eval (.const (.slice none nn cc))= .slice none nn cc:=rfl;cases neg<;>simp[execOp,ho,he,L9,eqGuard,binOp,hq]
   have fin:∀{ad:Option Addr} {cap:Nat} {l:List I},a.eval x= .slice ad l.length cap→(ad=none→l=[])→
    (M.all (fun b=>b=true→l=[]) fun b=>A39 neg (.bool (!b)) (.bool b) fun r=>Ci o.dst (.v r) .done).wp P Q st→o.wp P a w next E:=by
    intro ad cap l he hl hq;have Jb:=hq ad.isNone (fun h=>hl (by simpa using h))
    have Jb:(Ci o.dst (.v (.bool (if neg then !ad.isNone else ad.isNone))) .done).wp P Q st:=by cases neg<;>exact Jb
    exact Gn hr hn A9 (Bb.bool.2 rfl) Jb (run he)
   have Bsx:∀{Ca:Nat × Nat} {e:TypeId} {sz:Nat} {l:List I} {c:Value},Fg G σ w Ca e sz l c→∃ad cap,c= .slice ad l.length cap∧(ad=none→l=[]):=by
    intro Ca e sz l c h;obtain⟨xs,h1,_⟩:=h;rcases h1.2 with⟨rfl,h0⟩|⟨g,cap,cur,rfl,_⟩
    ·exact⟨none,0,by rw[h0],fun _=>Dg h0⟩
    ·exact⟨_,cap,rfl,fun h=>by cases h⟩
   cases x' with
   |c _=>exact hw.elim
   |Fo _ _=>exact hw.elim
   |t n=>
    obtain⟨rfl,Ej⟩:=Gb hx;simp only[A4n,M.wp]at hw;cases hs:st[n]? with
    |none=>simp[hs]at hw
    |some cur=>
     obtain⟨ver,sv⟩:=cur;simp only[hs]at hw;have Ba:=hr.slot Ej hs;split at hw
     ·rename_i l;have Fy:Bb G (.list l) (a.eval (.tmp n)):=Ba;obtain⟨ad,cap,hc,_,_,h4⟩:=Bb.list.1 Fy;refine fin hc (fun e=>?_) hw
      rcases h4 with h4|⟨b,off,bl,ty,fz,sz,h5,_⟩
      ·exact h4
      ·rw[e]at h5;cases h5
     ·obtain⟨ad,cap,hc,hl⟩:=Bsx Ba;exact fin hc hl hw
     ·rename_i s k v;obtain⟨cur,g1,g2,g3⟩:=Ba;simp only[M.wp,g1]at hw;obtain⟨hv,hw⟩:=hw;obtain⟨e,sz,l,g4,g5⟩:=g3 hv;simp only[g4]at hw;obtain⟨ad,cap,hc,hl⟩:=Bsx g5;exact fin hc hl hw
     ·exact hw.elim
  ·cases hy
 ·cases hu
theorem Bcc{o:Oper}{t:TypeId}{x i:Operand}{x' i':Bh}(ho:o.op= .index t x i)(hx:Bu N x x'=true)(hi:Bu N i i'=true)(ht:P.underlying t=some .string):Sound P N o (Bg4 o.dst x' i'):=by
 intro G σ Fr w0 st a w Q next E hN hr hw hn A9
 subst hN;obtain⟨u,h1,hu⟩:=Hs hr hx hw;clear hw;obtain⟨v,hw,hv⟩:=Hs hr hi h1;clear h1;split at hw
 ·rename_i s k n;split at hw
  ·rename_i b hb;obtain⟨h0,hw⟩:=hw;rw[Bb.str]at hu;rw[Bb.int]at hv;have Di:n.toNat<s.length:=(Ak.1 hb).1;have Rw:(⟨⟨s⟩⟩:ByteArray)[n.toNat]?=some b:=by
    have Cq:n.toNat<(⟨⟨s⟩⟩:ByteArray).size:=Di;have:(⟨⟨s⟩⟩:ByteArray)[n.toNat]=b:=by
     have:=(Ak.1 hb).2;exact this
    rw[getElem?_pos (⟨⟨s⟩⟩:ByteArray) n.toNat Cq,this]
   refine Gn hr hn A9 (Bb.int.2 rfl) hw ?_;simp[execOp,ho,hu.1,hv,Instr.index,asIntOf,run_underlying ht,h0,Rw]
  ·exact hw.elim
 ·exact hw.elim
end

section
variable{P:Program}{N:Nat}{G:Mem}{σ:Lab}{Fr:Mem}{w0:Base}{w:World}{st:St}{a:Act}
end

section
variable{P:Program}{N:Nat}{G:Mem}{σ:Lab}{Fr:Mem}{w0:Base}{w:World}{st:St}{a:Act}
end

def bytesOf:List I→Option (List UInt8)
 | []=>some []
 | .int .u8 n::l=>match bytesOf l with
   |some r=>some (UInt8.ofNat n.toNat::r)
   |none=>none
 |_::_=>none
def A4a(d:Nat)(x:Bh):M:=match x with
 | .t n=>.get n fun _ sv=>match sv with
   | .vec _ sz l=>match bytesOf l with
     |some r=>.Co (sz=1∧r.length≤maxLen) fun _=>Eo d (.v (.str r))
     |none=>.fail
   | .Km s k v=>.get s fun cur Ek=>.Co (v=cur) fun _=>match Ek.Fu k with
     |some (_,sz,l)=>match bytesOf l with
      |some r=>.Co (sz=1∧r.length≤maxLen) fun _=>Eo d (.v (.str r))
      |none=>.fail
     |none=>.fail
   |_=>.fail
 |_=>.fail
def A9h(P:Program)(src dst:TypeId):Bool:=match P.underlying src,P.underlying dst with
 |some (.slice e),some .string=>match P.underlying e with
  |some (.int .u8)=>true
  |_=>false
 |_,_=>false
section
variable{P:Program}{N:Nat}{G:Mem}{σ:Lab}{Fr:Mem}{w0:Base}{w:World}{st:St}{a:Act}
theorem Aj3{G:Mem}:∀{l:List I} {cs:List Value} {r:List UInt8},bytesOf l=some r→B4 G l cs→r.length=l.length∧∃ns:List Int,cs=ns.map (Value.int .u8)∧r=ns.map fun n=>UInt8.ofNat n.toNat
 | [],cs,r,h,hr=>by
   cases h;simp only[B4]at hr;exact⟨rfl,[],by simp[hr],rfl⟩
 | .int .u8 n::l,cs,r,h,hr=>by
   simp only[bytesOf]at h;cases hb:bytesOf l with
   |none=>simp[hb]at h
   |some r'=>
    simp only[hb,Af]at h;subst h;simp only[B4]at hr;obtain⟨c,d,rfl,h1,h2⟩:=hr;simp only[Bi]at h1;subst h1;obtain⟨hl,ns,rfl,rfl⟩:=Aj3 hb h2;exact⟨by simp[hl],n::ns,by simp,by simp⟩
theorem A3u:∀(ns:List Int) (s:ByteArray),(ns.foldl (fun r n=>r.push (UInt8.ofNat n.toNat)) s)=⟨⟨s.data.toList++ns.map fun n=>UInt8.ofNat n.toNat⟩⟩
 | [],s=>by simp
 |n::ns,s=>by
  rw[List.foldl_cons,A3u ns];simp[ByteArray.push]
theorem Bgq{o:Oper}{d:Nat}{src dst:TypeId}{x:Operand}{x':Bh}(hd:o.dst=some d)(ho:o.op= .convert src dst x)(hx:Bu N x x'=true)(ht:A9h P src dst=true):
 Sound P N o (A4a d x'):=by
 intro G σ Fr w0 st a w Q next E hN hr hw hn A9
 subst hN;unfold A9h at ht;split at ht
 case h_2=>cases ht
 rename_i e Bi5 hdt;split at ht
 case h_2=>cases ht
 rename_i he;have run:∀{c:Value} {s:List UInt8},a.eval x=c→(Conv.bytesToString c).run P w= .ok (.string ⟨⟨s⟩⟩) w→(∃ad l cap,c= .slice ad l cap)→(execOp a.eval o).run P w= .ok (.value (.string ⟨⟨s⟩⟩)) w:=by
  rintro c s hc Ez ⟨ad,l,cap,rfl⟩;have:=run_convert_bytes_string (P:=P) w src dst e ad l cap Bi5 he hdt;rw[Ez]at this;simp[execOp,ho,hc,this]
 have row:∀{b off cap n:Nat} {bl:Array Value} {ty:TypeId} {fz:Nat × Nat} {l:List I} {cs:List Value} {r:List UInt8},w.heap[b]?=some (.cells bl ty fz)→cs=(bl.toList.drop off).take n→n=l.length→B4 G l cs→bytesOf l=some r→
  (Conv.bytesToString (.slice (some ⟨b,off,none⟩) n cap)).run P w= .ok (.string ⟨⟨r⟩⟩) w:=by
  intro b off cap n bl ty fz l cs r hb Kr hn Ba hr;obtain⟨hl,ns,hns,hrs⟩:=Aj3 hr Ba;have Eh:cs.length=n:=by rw[hns,An,hn, ←hl,hrs,An]
  have Bmy:=run_loadCells_list (P:=P) w ⟨b,off,none⟩ cs (fun j v hj=>by
   rw[add_lit,cell_of_row w b (off+j) bl ty fz hb];have:bl[off+j]?=bl.toList[off+j]?:=by simp
   rw[this, ←Ei];rw[Kr,Jc]at hj;split at hj
   ·exact hj
   ·cases hj)
  rw[Eh]at Bmy;have:=run_bytesToString (P:=P) w ⟨b,off,none⟩ n cap ns (by rw[Bmy,hns])
  rw[this,A3u];simp[hrs]
 cases x' with
 |t n=>
  obtain⟨rfl,Ej⟩:=Gb hx;simp only[A4a,M.wp]at hw;cases hs:st[n]? with
  |none=>simp[hs]at hw
  |some Av2=>
   obtain⟨ver,sv⟩:=Av2;simp only[hs]at hw;have Ba:=hr.slot Ej hs;have fin:∀{Ca:Nat × Nat} {e':TypeId} {Ex:Nat} {l:List I} {r:List UInt8},Fg G σ w Ca e' Ex l (a.eval (.tmp n))→bytesOf l=some r→Ex=1∧r.length≤maxLen→(Eo d (.v (.str r))).wp P Q st→o.wp P a w next E:=by
    rintro Ca e' Ex l r ⟨xs,h1,h2,h3,h4⟩ D2 ⟨rfl,Awe⟩ hw;have Ez:(Conv.bytesToString (a.eval (.tmp n))).run P w= .ok (.string ⟨⟨r⟩⟩) w∧∃ad l cap,a.eval (.tmp n)= .slice ad l cap:=by
     rcases h1.2 with⟨hc,h0⟩|⟨g,cap,Gu,hc,_,⟨ty,fz,hg,_⟩,Kb,hm,Cq,Ya⟩
     ·have hl0:l=[]:=Dg h0;subst hl0;cases D2;rw[hc];exact⟨by simp[Conv.bytesToString];rfl,_,_,_,rfl⟩
     ·rw[hc];refine⟨row (l:=l) (cs:=xs) hg ?_ rfl h2 D2,_,_,_,rfl⟩;rw[List.drop_zero, ←Ya,Nat.mul_one]
    obtain⟨σ',st',r1,r2⟩:=hr.Xo (A9 d hd) (Bb.str.2 ⟨rfl,Awe⟩) hw;exact Df (run rfl Ez.1 Ez.2) (by rw[hd];exact hn G σ' st' _ w (Mem.le.refl G) r1 r2)
   split at hw
   ·split at hw
    ·rename_i r D2;obtain⟨hm,hw⟩:=hw;exact fin Ba D2 hm hw
    ·exact hw.elim
   ·rename_i s k v;obtain⟨cur,g1,g2,g3⟩:=Ba;simp only[M.wp,g1]at hw;obtain⟨hv,hw⟩:=hw;obtain⟨e',Ex,l,g4,g5⟩:=g3 hv;simp only[g4]at hw;split at hw
    ·rename_i r D2;obtain⟨hm,hw⟩:=hw;exact fin g5 D2 hm hw
    ·exact hw.elim
   ·exact hw.elim
 |_=>exact hw.elim
end

section
variable{P:Program}{N:Nat}{G:Mem}{σ:Lab}{Fr:Mem}{w0:Base}{w:World}{st:St}{a:Act}
theorem Li.cons{G:Mem}{x:I}{p:Value}{l:List I}{r:List Value}(h:Aa2 G x p)(hl:Li G l r):Li G (x::l) (p::r):=by
 obtain⟨b,off,bl,ty,fz,pre,cs,post,h1,h2,h3,h4,h5⟩:=h;simp only[Li];exact⟨p,r,b,off,bl,ty,fz,pre,cs,post,rfl,h1,h2,h3,h4,h5,hl⟩
end

section
variable{P:Program}{N:Nat}{G:Mem}{σ:Lab}{Fr:Mem}{w0:Base}{w:World}{st:St}{a:Act}
theorem Gc.room(h:Gc G σ Fr w0 w)(s:Nat):∃K,∀b k,σ b=some (s,k)→k<K:=by
 have aux:∀n,∃K,∀b,b<n→∀k,σ b=some (s,k)→k<K:=by
  intro n;induction n with
  |zero=>exact⟨0,fun b hb=>by omega⟩
  |succ n ih=>
   obtain⟨K,hK⟩:=ih;cases hn:σ n with
   |none=>exact⟨K,fun b hb k hk=>by
    rcases Nat.lt_succ_iff_lt_or_eq.1 hb with h|rfl
    ·exact hK b h k hk
    ·rw[hn]at hk;cases hk⟩
   |some p=>exact⟨max K (p.2+1),fun b hb k hk=>by
    rcases Nat.lt_succ_iff_lt_or_eq.1 hb with h|rfl
    ·have:=hK b h k hk;omega
    ·rw[hn]at hk;cases hk;simp only;omega⟩
 obtain⟨K,hK⟩:=aux w.heap.size;exact⟨K,fun b k hb=>hK b (h.own b _ hb).2.2 k hb⟩
def Lab.H3(σ:Lab)(s K:Nat)(bs:List Nat):Lab:=fun b=>if b∈bs then some (s,K+bs.idxOf b)else σ b
theorem Lab.Me{s K:Nat}{bs:List Nat}{b:Nat}(h:b∈bs):σ.H3 s K bs b=some (s,K+bs.idxOf b):=by simp[Lab.H3,h]
theorem Lab.Mf{s K:Nat}{bs:List Nat}{b:Nat}(h:b ∉ bs):σ.H3 s K bs b=σ b:=by simp[Lab.H3,h]
theorem Axx{bs:List Nat}{b b':Nat}(h:b∈bs)(h':b'∈bs)(e:bs.idxOf b=bs.idxOf b'):b=b':=by
 have h1:=List.getElem_idxOf (List.idxOf_lt_length_of_mem h);have h2:=List.getElem_idxOf (List.idxOf_lt_length_of_mem h');rw[←h1, ←h2];simp only[e]
theorem Gc.H3{s K:Nat}{bs:List Nat}(h:Gc G σ Fr w0 w)(hK:∀b k,σ b=some (s,k)→k<K)(hf:∀b∈bs,G b=none∧Fr b=none∧b<w.heap.size):Gc G (σ.H3 s K bs) Fr w0 w:=by
 refine⟨h.fixed,?_,?_,h.frame,h.os,h.tape,h.output,h.size,h.apart,h.Mv⟩
 ·intro b Ca hb;by_cases hm:b∈bs
  ·exact hf b hm
  ·rw[Lab.Mf hm]at hb;exact h.own b Ca hb
 ·intro b b' Ca hb Dc;by_cases hm:b∈bs<;>by_cases hm':b'∈bs
  ·rw[Lab.Me hm]at hb;rw[Lab.Me hm']at Dc;rw[←Dc]at hb;simp only[Af,B6,true_and]at hb;exact Axx hm hm' (by omega)
  ·rw[Lab.Me hm]at hb;rw[Lab.Mf hm', ←hb]at Dc;have:=hK _ _ Dc;omega
  ·rw[Lab.Mf hm]at hb;rw[Lab.Me hm']at Dc;obtain rfl:=Cy Dc;have:=hK _ _ hb;omega
  ·rw[Lab.Mf hm]at hb;rw[Lab.Mf hm']at Dc;exact h.inj b b' Ca hb Dc
def T6(G:Mem)(σ:Lab)(Fr:Mem)(w:World)(u:D)(c:Value):Prop:=
 ∃bs,Bp G w u c.cells.toList bs∧valOf u.isAgg c=true∧bs.Nodup∧∀b∈bs,G b=none∧Fr b=none∧σ b=none∧b<w.heap.size
theorem T6.item{u:I}{c:Value}(h:Bb G u c):T6 G σ Fr w (.it u) c:=by
 refine⟨[],?_,?_,Dn,by simp⟩
 ·simp only[Bp,and_true];exact h.cells
 ·unfold Bb at h;simp only[D.isAgg];split at h
  ·rename_i hx;obtain⟨cs,rfl,_⟩:=h;rw[hx];rfl
  ·rename_i hx;rw[show u.isAgg=false by simpa using hx]
   have:=Bi.one _ _ h c (by simp)
   cases c<;>first|rfl|(simp[Value.oneCell']at this)
end

section
variable{P:Program}{N:Nat}{G:Mem}{σ:Lab}{Fr:Mem}{w0:Base}{w:World}{st:St}{a:Act}
theorem An4{fz:Nat × Nat}{t:TypeId}{agg:Bool}{b off:Nat}{bl:Array Value}{ty:TypeId}{pre cs post:List Value}{v:Value}(h:Mq P t agg cs.length=true)
 (hh:w.heap[b]?=some (.cells bl ty fz)) (hfz:fz=(0,0)∨bl.size≤fz.1) (hs:bl.toList=pre++cs++post) (hp:pre.length=off) (h1:∀c∈v.cells.toList,c.oneCell'=true) (hlen:v.cells.toList.length=cs.length):
 (storeVar t ⟨b,off,none⟩ v).run P w= .ok () (w.setRow b (pre++v.cells.toList++post).toArray):=by
 obtain⟨_,h2⟩:=Aem h w;have A92:bl.size=pre.length+cs.length+post.length:=by
  have:bl.size=bl.toList.length:=by simp
  rw[this,hs];simp;omega
 have Ga:=Z3 P b off ty fz v.cells.toList 0 bl w hh hfz (by rw[hlen,A92,hp];omega) h1
 have e1:bl.toList.take (off+0)=pre:=by rw[hs,A8,Gk, ←hp,Gt]
 have e2:bl.toList.drop (off+0+v.cells.toList.length)=post:=by
  rw[hs,hlen,Gk, ←hp, ←Cw,Jy]
 rw[e1,e2]at Ga;have Cq:v.cells.size=cs.length:=by rw[←hlen];simp
 simp[storeVar,h2,Cq,Ga]
theorem Rel.Bj9{s cur:Nat}{inv:Inv}{p:List Nat}{t t' u u':D}{tt:TypeId}{agg:Bool}{c cv:Value}(h:Rel G σ Fr w0 st a w)(hs:st[s]?=some (cur,.own inv t))(Dd:t.at p=some u)(G8:t.put p u'=some t')
 (N2:T6 G σ Fr w u' cv) (Jg:u'.isAgg=u.isAgg) (Cq:u'.size=u.size) (Pj:Qc w t (val a w0 s) p c) (ht:Mq P tt agg u.size=true):
 ∃b o w' σ',c= .pointer (some ⟨b,o,none⟩)∧(storeVar tt ⟨b,o,none⟩ cv).run P w= .ok () w'∧
  Rel G σ' Fr w0 (st.set s (cur+1,.own (if u.leaf then inv else bump inv p (cur+1)) t')) a w':=by
 obtain⟨bs,Ba,H7,F5,Jj⟩:=show Dr G σ w s t (val a w0 s)from h.Bj s cur _ hs;obtain⟨m,s',Fw,f1,f2,f3,f4,f5,f6⟩:=focus (here:=none) Ba F5 Dd
 obtain⟨u0,b,o,cs,p1,p2,rfl⟩:=Pj;rw[f1]at p2;obtain rfl:=Cy p2;have hp0:p≠[]:=by
  rintro rfl;simp only[spot,Af,B6]at f1;cases f1.1
 obtain⟨Mb,g1,g2,g3,g4⟩:=N2;have Eh:cs.length=u.size:=Bp.length f2;have Qy:cv.cells.toList.length=cs.length:=by rw[Bp.length g1,Cq,Eh]
 cases m with
 |inl pre post=>obtain⟨_,e⟩:=f5;cases e
 |val=>cases f5
 |U5 g pre post ty fz=>
  obtain⟨q1,q2,⟨row,q3,q4,q5⟩,q6⟩:=f5;simp only[Af,B6]at q6;obtain⟨rfl,rfl⟩:=q6;simp only at q5;have Ez:=An4 (P:=P) (cs:=cs) (v:=cv) (t:=tt) (agg:=agg) (by rw[Eh];exact ht) q3 q4 q5 rfl (Bp.one g1) Qy
  obtain⟨kb,hkb⟩:=Jj b q1;have hbu:b ∉ Mb:=fun hb=>by
   have:=(g4 b hb).2.2.1;rw[hkb]at this;cases this
  have hub:∀x∈Mb,x ∉ bs:=fun x hx hb=>by
   obtain⟨k,hk⟩:=Jj x hb;have:=(g4 x hx).2.2.1;rw[hk]at this;cases this
  have Fq:(w.setRow b (pre++cv.cells.toList++post).toArray).heap[b]?=some (.cells (pre++cv.cells.toList++post).toArray ty fz):=setRow_heap w b row _ ty fz q3;have Tu:∀x,x≠b→(w.setRow b (pre++cv.cells.toList++post).toArray).heap[x]?=w.heap[x]?:=fun x hx=>setRow_other w b x _ hx
  obtain⟨Et,r1,r2,r3,r4,r5⟩:=f6 G (w.setRow b (pre++cv.cells.toList++post).toArray) u' cv.cells.toList Mb t' (Mem.le.refl G) Qy Jg
   (g1.tr (Mem.le.refl G) fun x hx=>Tu x fun e=>hbu (e ▸ hx)) g3 (fun x hx=>.inr (hub x hx)) ⟨Fq,fun x _ _ hxb=>Tu x hxb⟩ G8
  rw[if_neg hp0]at r4;obtain⟨K,hK⟩:=h.Bz.room s;have hold:∀x k,σ x=some k→σ.H3 s K Mb x=some k:=fun x k hx=>by
   rw[Lab.Mf]
   ·exact hx
   ·intro hm;have:=(g4 x hm).2.2.1;rw[hx]at this;cases this
  refine⟨b,pre.length,_,σ.H3 s K Mb,rfl,Ez,?_⟩;have Bjb:=(h.Bz.setRow hkb (pre++cv.cells.toList++post).toArray).H3 (s:=s) (K:=K) (bs:=Mb) hK fun x hx=>by
   obtain⟨k1,k2,_,k4⟩:=g4 x hx;exact⟨k1,k2,by simpa[World.setRow]using k4⟩
  obtain⟨Zu,W4⟩:=Focus.refs (G:=G) (inv:=inv) (cur:=cur) r5;refine h.tree Bjb (Mem.le.refl G) hs (Bk _) ?_ (fun _ x k hx=>hold x _ hx) ?_ Zu W4
  ·intro s1 hs1 x k hx;exact⟨hold x _ hx,Tu x fun e=>by rw[e,hkb]at hx;cases hx;exact hs1 rfl⟩
  ·refine⟨Et,r1,by rw[r4];exact H7,r2,fun x hx=>?_⟩
   rcases(r3 x).1 hx with⟨h1,_⟩|h1
   ·obtain⟨k,hk⟩:=Jj x h1;exact⟨k,hold x _ hk⟩
   ·exact⟨_,Lab.Me h1⟩
end

def rdD(x:Bh)(k:(s cur:Nat)→(inv:Inv)→D→List Nat→M):M:=match x with
 | .t n=>.get n fun ver sv=>match sv with
   | .own inv t=>match t with
     | .ptr t=>k n ver inv (.ptr t) [0]
     |_=>.fail
   | .pd s v p=>.get s fun cur Ek=>match Ek with
     | .own inv t=>.Co (p≠[]∧alive v inv p=true) fun _=>k s cur inv t p
     |_=>.fail
   | .par h=>.get h fun cur Ek=>match Ek with
     | .own inv t=>match t with
       | .ptr t=>k h cur inv (.ptr t) [0]
       |_=>.fail
     |_=>.fail
   |_=>.fail
 |_=>.fail
def rdH(x:Bh)(k:(s cur:Nat)→(inv:Inv)→D→List Nat→M):M:=match x with
 | .t n=>.get n fun ver sv=>match sv with
   | .own inv t=>.Co (t.head=true) fun _=>k n ver inv t []
   | .bd s v p=>.get s fun cur Ek=>match Ek with
     | .own inv t=>.Co (Hv v inv p=true) fun _=>k s cur inv t p
     |_=>.fail
   | .par h=>.get h fun cur Ek=>match Ek with
     | .own inv t=>.Co (t.head=true) fun _=>k h cur inv t []
     |_=>.fail
   |_=>.fail
 |_=>.fail
section
variable{P:Program}{N:Nat}{G:Mem}{σ:Lab}{Fr:Mem}{w0:Base}{w:World}{st:St}{a:Act}
theorem Apb{x:Operand}{y:Bh}{k:(s cur:Nat)→(inv:Inv)→D→List Nat→M}{Q:St→Prop}(h:Rel G σ Fr w0 st a w)(ho:Bu w0.n x y=true)(hq:(rdD y k).wp P Q st):
 ∃s cur inv t p,(k s cur inv t p).wp P Q st∧st[s]?=some (cur,.own inv t)∧p≠[]∧Qc w t (val a w0 s) p (a.eval x):=by
 cases y with
 |c _=>exact hq.elim
 |Fo _ _=>exact hq.elim
 |t n=>
  obtain⟨rfl,Ej⟩:=Gb ho;simp only[rdD,M.wp]at hq;cases hs:st[n]? with
  |none=>simp[hs]at hq
  |some cur=>
   obtain⟨ver,sv⟩:=cur;simp only[hs]at hq;have Ba:=h.slot Ej hs;have hv:val a w0 n=a.eval (.tmp n):=G9 (by rw[h.n];exact Ej)
   cases sv with
   |own inv t=>
    cases t with
    |ptr t=>exact⟨n,ver,inv,_,[0],hq,hs,by simp,by rw[hv];exact Dr.pt Ba⟩
    |_=>exact hq.elim
   |pd s v p=>
    obtain⟨cur,h1,h2,h3⟩:=Ba;simp only[M.wp,h1]at hq;obtain⟨cv,Hh⟩:=cur;cases Hh with
    |own inv t=>
     obtain⟨⟨hp,ha⟩,hq⟩:=hq;exact⟨s,cv,inv,t,p,hq,h1,hp,h3 inv t rfl hp ha⟩
    |_=>exact hq.elim
   |par hh=>
    obtain⟨Na,hle⟩:=h.Nv n ver hh hs;rw[hv]at Na;simp only[M.wp]at hq;cases h1:st[hh]? with
    |none=>simp[h1]at hq
    |some cur=>
     obtain⟨cv,Hh⟩:=cur;simp only[h1]at hq;have Fy:=h.Bj hh cv Hh h1;cases Hh with
     |own inv t=>
      cases t with
      |ptr t=>exact⟨hh,cv,inv,_,[0],hq,h1,by simp,by rw[Na];exact Dr.pt Fy⟩
      |_=>exact hq.elim
     |_=>exact hq.elim
   |_=>exact hq.elim
theorem Abu{x:Operand}{y:Bh}{k:(s cur:Nat)→(inv:Inv)→D→List Nat→M}{Q:St→Prop}(h:Rel G σ Fr w0 st a w)(ho:Bu w0.n x y=true)(hq:(rdH y k).wp P Q st):
 ∃s cur inv t p,(k s cur inv t p).wp P Q st∧st[s]?=some (cur,.own inv t)∧R7 w t (val a w0 s) p (a.eval x):=by
 cases y with
 |c _=>exact hq.elim
 |Fo _ _=>exact hq.elim
 |t n=>
  obtain⟨rfl,Ej⟩:=Gb ho;simp only[rdH,M.wp]at hq;cases hs:st[n]? with
  |none=>simp[hs]at hq
  |some cur=>
   obtain⟨ver,sv⟩:=cur;simp only[hs]at hq;have Ba:=h.slot Ej hs;have hv:val a w0 n=a.eval (.tmp n):=G9 (by rw[h.n];exact Ej)
   cases sv with
   |own inv t=>
    obtain⟨hh,hq⟩:=hq;exact⟨n,ver,inv,_,[],hq,hs,by rw[hv];exact Dr.hd Ba hh⟩
   |bd s v p=>
    obtain⟨cur,h1,h2,h3⟩:=Ba;simp only[M.wp,h1]at hq;obtain⟨cv,Hh⟩:=cur;cases Hh with
    |own inv t=>
     obtain⟨ha,hq⟩:=hq;exact⟨s,cv,inv,t,p,hq,h1,h3 inv t rfl ha⟩
    |_=>exact hq.elim
   |par hh=>
    obtain⟨Na,hle⟩:=h.Nv n ver hh hs;rw[hv]at Na;simp only[M.wp]at hq;cases h1:st[hh]? with
    |none=>simp[h1]at hq
    |some cur=>
     obtain⟨cv,Hh⟩:=cur;simp only[h1]at hq;have Fy:=h.Bj hh cv Hh h1;cases Hh with
     |own inv t=>
      obtain⟨hh',hq⟩:=hq;exact⟨hh,cv,inv,_,[],hq,h1,by rw[Na];exact Dr.hd Fy hh'⟩
     |_=>exact hq.elim
   |_=>exact hq.elim
theorem Qc.block{s:Nat}{t u:D}{cr c:Value}{p:List Nat}(ho:Dr G σ w s t cr)(Dd:t.at p=some u)(h:Qc w t cr p c):
 ∃b off bl ty fz pre cs post Fw,c= .pointer (some ⟨b,off,none⟩)∧w.heap[b]?=some (.cells bl ty fz)∧bl.toList=pre++cs++post∧pre.length=off∧Bp G w u cs Fw∧Fw.Nodup∧
  spot w p t (none,cr.cells.toList)=some (some (b,off),cs):=by
 obtain⟨bs,Ba,H7,F5,Jj⟩:=ho;obtain⟨m,s',Fw,f1,f2,f3,f4,f5,f6⟩:=focus (here:=none) Ba F5 Dd
 obtain⟨u0,b,o,cs,p1,p2,rfl⟩:=h;have p2':=p2;rw[f1]at p2;obtain rfl:=Cy p2;cases m with
 |inl pre post=>obtain⟨_,e⟩:=f5;cases e
 |val=>cases f5
 |U5 g pre post ty fz=>
  obtain⟨q1,q2,⟨row,q3,q4,q5⟩,q6⟩:=f5;simp only[Af,B6]at q6;obtain⟨rfl,rfl⟩:=q6;exact⟨b,_,row,ty,fz,pre,cs,post,Fw,rfl,q3,q5,rfl,f2,f3,p2'⟩
theorem R7.read{s:Nat}{t u:D}{cr c:Value}{p:List Nat}(ho:Dr G σ w s t cr)(Dd:t.at p=some u)(h:R7 w t cr p c):∃hh Fw,Bp G w u [c] Fw∧Fw.Nodup∧spot w p t (none,cr.cells.toList)=some (hh,[c]):=by
 obtain⟨bs,Ba,H7,F5,Jj⟩:=ho;obtain⟨m,s',Fw,f1,f2,f3,f4,f5,f6⟩:=focus (here:=none) Ba F5 Dd
 obtain⟨u0,hh,p1,p0,p2⟩:=h;have p2':=p2;rw[f1]at p2;obtain rfl:=Cy p2;exact⟨hh,Fw,f2,f3,p2'⟩
theorem V7:∀{p:List Nat} {t u:D} {i:Nat},t.at p=some u→t.at (p++[i])=u.Cr i
 | [],t,u,i,h=>by
   simp only[D.at,Af]at h;subst h;simp only[Cu,D.at];cases t.Cr i<;>rfl
 |j::p,t,u,i,h=>by
  simp only[D.at]at h;simp only[C4,D.at];cases hk:t.Cr j with
  |none=>simp[hk]at h
  |some y=>simp only[hk]at h;exact V7 h
theorem Sd:∀{p:List Nat} {t u y:D} {i:Nat} {z z':S7},t.at p=some u→spot w p t z=some z'→u.Cr i=some y→spot w (p++[i]) t z=Dz w u z' i
 | [],t,u,y,i,z,z',h,hz,hy=>by
   simp only[D.at,Af]at h;simp only[spot,Af]at hz;subst h hz;simp only[Cu,spot,hy];cases Dz w t z i<;>rfl
 |j::p,t,u,y,i,z,z',h,hz,hy=>by
  simp only[D.at]at h;simp only[spot]at hz;simp only[C4,spot];cases hk:t.Cr j with
  |none=>simp[hk]at h
  |some y0=>
   simp only[hk]at h hz ⊢;cases Pw:Dz w t z j with
   |none=>simp[Pw]at hz
   |some z0=>
    simp only[Pw]at hz ⊢;exact Sd h hz hy
end
end Go.Ab
