/- Lemmas -/
import Derived.Test.YtkpojedpcabojaaDoorAb2
set_option linter.unusedVariables false
set_option linter.unusedSimpArgs false
namespace Go.Ab
def Fn(P:Program)(f:FuncId)(args:List SV)(Post:SV→List SV→Prop):Prop:=
 ∀(G:Mem) (σ:Lab) (Fr:Mem) (w:World) (cargs:Array Value),WOk G σ Fr ⟨w,0, #[]⟩ w→cargs.size=args.length→
  (∀i sv,args[i]?=some sv→sv.root=none∧RepOwn G σ w i sv (cargs.getD i undef))→
  Calls P f cargs w fun e w'=>∃(r:SV) (az:List SV) (c:Value) (G':Mem) (σ':Lab),e= .returned c∧Post r az∧G.le G'∧WOk G' σ' Fr ⟨w,0, #[]⟩ w'∧
   r.root=none∧RepOwn G' σ' w' args.length r c∧az.length=args.length∧∀i sv,az[i]?=some sv→sv.root=none∧RepOwn G' σ' w' i sv (cargs.getD i undef)
inductive M where
 |get (i:Nat) (k:Nat→SV→M)
 |getp (i:Nat) (f:Nat→SV→Nat × SV) (k:Nat→SV→M)
 |set (i ver:Nat) (sv:SV) (k:M)
 |done
 |chk (p:St→Prop)
 |fail
 |need (p:Prop) (k:p→M)
 |all (p:Bool→Prop) (k:Bool→M)
 |any (l:List Nat) (k:Nat→M)
 |fact (p:Prop) (k:M)
 |ite (b:Bool) (x y:M)
 |call (f:FuncId) (args:List SV) (k:SV→List SV→M)
structure CallWp(P:Program)(f:FuncId)(args:List SV)(Q:SV→List SV→Prop):Prop where
 out:∃Post,Fn P f args Post∧∀r az,Post r az→Q r az
structure AnyWp(l:List Nat)(K:Nat→Prop):Prop where
 out:∀i,i∈l→K i
def M.wp(P:Program):M→(St→Prop)→St→Prop
 | .get i k,Q,st=>match st[i]? with
   |some cur=>(k cur.1 cur.2).wp P Q st
   |none=>False
 | .getp i f k,Q,st=>match st[i]? with
   |some cur=>(k (f cur.1 cur.2).1 (f cur.1 cur.2).2).wp P Q st
   |none=>False
 | .set i ver sv k,Q,st=>k.wp P Q (st.set i (ver,sv))
 | .done,Q,st=>Q st
 | .chk p,_,st=>p st
 | .fail,_,_=>False
 | .need p k,Q,st=>∃h:p,(k h).wp P Q st
 | .all p k,Q,st=>∀b,p b→(k b).wp P Q st
 | .any l k,Q,st=>AnyWp l fun i=>(k i).wp P Q st
 | .fact p k,Q,st=>p→k.wp P Q st
 | .ite b x y,Q,st=>(b=true→x.wp P Q st)∧(b=false→y.wp P Q st)
 | .call f args k,Q,st=>CallWp P f args fun r az=>(k r az).wp P Q st
theorem M.wp_mono{P:Program}{Q Q':St→Prop}(hQ:∀st,Q st→Q' st):∀(m:M) (st:St),m.wp P Q st→m.wp P Q' st:=by
 intro m;induction m with
 |get i k ih=>
  intro st h;simp only[M.wp]at h ⊢;split at h
  ·exact ih _ _ _ h
  ·exact h
 |getp i f k ih=>
  intro st h;simp only[M.wp]at h ⊢;split at h
  ·exact ih _ _ _ h
  ·exact h
 |set i ver sv k ih=>intro st h;exact ih _ h
 |done=>intro st h;exact hQ _ h
 |chk p=>intro st h;exact h
 |fail=>intro st h;exact h
 |need p k ih=>intro st ⟨h1,h2⟩;exact⟨h1,ih _ _ h2⟩
 |all p k ih=>intro st h b hb;exact ih _ _ (h b hb)
 |any l k ih=>intro st h;exact⟨fun i hi=>ih _ _ (h.out i hi)⟩
 |fact p k ih=>intro st h hp;exact ih _ (h hp)
 |ite b x y ihx ihy=>
  intro st h;exact⟨fun hb=>ihx _ (h.1 hb),fun hb=>ihy _ (h.2 hb)⟩
 |call f args k ih=>intro st ⟨Post,h1,h2⟩;exact⟨Post,h1,fun r az hp=>ih _ _ _ (h2 r az hp)⟩
inductive Opd where
 |t (n:Nat)
 |c (x:I)
 |nils (e:TypeId) (sz:Nat)
 deriving Inhabited
def setD(d:Option Nat)(sv:SV)(k:M):M:=match d with
 |some d=>.get d fun ver _=>.set d (ver+1) sv k
 |none=>k
def rdI(x:Opd)(k:I→M):M:=match x with
 | .c x=>k x
 | .nils _ _=>k (.list [])
 | .t n=>.get n fun _ sv=>match sv with
   | .v x=>k x
   |_=>.fail
section
variable{P:Program}{N:Nat}{G:Mem}{σ:Lab}{Fr:Mem}{w0:Base}{w:World}{st:St}{a:Act}
theorem Rel.slot(h:Rel G σ Fr w0 st a w){n ver:Nat}{sv:SV}(hlt:n<w0.n)(hn:st[n]?=some (ver,sv)):RepSV G σ w st (val a w0) n sv (a.eval (.tmp n)):=by
 have:=h.slots n ver sv hn;rwa [J2 (by rw[h.n];exact hlt)]at this
def Sound(P:Program)(N:Nat)(o:Oper)(m:M):Prop:=
 ∀(G:Mem) (σ:Lab) (Fr:Mem) (w0:Base) (st:St) (a:Act) (w:World) (Q:St→Prop) (next:Act→World→Prop) (E:Exit→Act→World→Prop),
  w0.n=N→Rel G σ Fr w0 st a w→m.wp P Q st→
  (∀G' σ' st' a' w',G.le G'→Rel G' σ' Fr w0 st' a' w'→Q st'→next a' w')→(∀d,o.dst=some d→d<w0.n)→o.wp P a w next E
theorem Jt{o:Oper}{next:Act→World→Prop}{E:Exit→Act→World→Prop}{v:Value}{w':World}
 (h:(execOp a.eval o).run P w= .ok (.value v) w') (k:next (a.put o.dst v) w'):o.wp P a w next E:=by
 unfold Oper.wp;rw[h];exact k
theorem Pz{o:Oper}{next:Act→World→Prop}{E:Exit→Act→World→Prop}{w':World}
 (h:(execOp a.eval o).run P w= .ok .skip w') (k:next (a.put o.dst undef) w'):o.wp P a w next E:=by
 unfold Oper.wp;rw[h];exact k
theorem Rel.setD{Q:St→Prop}{d:Option Nat}{sv:SV}{c:Value}(h:Rel G σ Fr w0 st a w)(hb:∀d',d=some d'→d'<w0.n)
 (hnew:∀d',d=some d'→∀ver,(st.set d' (ver,sv))[d']?=some (ver,sv)→RepSV G (σ.drop d') w (st.set d' (ver,sv)) (val (a.put (some d') c) w0) d' sv c)
 (hq:(setD d sv .done).wp P Q st) (hp:∀h,sv= .par h→c=val a w0 h∧w0.n≤h:=by intro _ e;cases e)
 (hno:∀inv t,sv≠ .own inv t:=by intro _ _ e;cases e):∃σ' st',Rel G σ' Fr w0 st' (a.put d c) w∧Q st':=by
 cases d with
 |none=>exact⟨σ,st,h,hq⟩
 |some d=>
  simp only[Ab.setD,M.wp]at hq;cases hd:st[d]? with
  |none=>simp[hd]at hq
  |some cur=>
   simp only[hd]at hq;have hlt:d<st.length:=(List.getElem?_eq_some_iff.1 hd).1;exact⟨σ.drop d,_,h.put (hb d rfl) (h.wok.drop d) (Mem.le.refl G) hd (Nat.lt_succ_self _) (fun s' hs=>Kept.drop σ w hs)
    (hnew d rfl (cur.1+1) (by simp[hlt])) hp (fun inv t e=>absurd e (hno inv t)),hq⟩
theorem Y1{x:Opd}{k:I→M}{Q:St→Prop}(h:(rdI x k).wp P Q st):
 ∃i,(k i).wp P Q st∧((∃n ver,x= .t n∧st[n]?=some (ver,.v i))∨x= .c i∨(∃e sz,x= .nils e sz∧i= .list [])):=by
 cases x with
 |c i=>exact⟨i,h,.inr (.inl rfl)⟩
 |nils e sz=>exact⟨_,h,.inr (.inr ⟨e,sz,rfl,rfl⟩)⟩
 |t n=>
  simp only[rdI,M.wp]at h;cases hn:st[n]? with
  |none=>simp[hn]at h
  |some cur=>
   obtain⟨ver,sv⟩:=cur;simp only[hn]at h;cases sv with
   |v i=>exact⟨i,h,.inl ⟨n,ver,rfl,hn⟩⟩
   |_=>simp[M.wp]at h
end
def cOk:I→Value→Bool
 | .int k n,.int k' n'=>k==k'&&n==n'
 | .bool b,.bool b'=>b==b'
 | .str s,.string t=>s==t.data.toList&&s.length≤maxLen
 | .fn f,.func (.func g) a b=>f==g&&a.isEmpty&&b.isEmpty
 | .nili,.nilIface=>true
 | .nilp,.pointer none=>true
 | .nilm,.map none=>true
 | .list [],.slice none 0 0=>true
 |_,_=>false
theorem Yk{x:I}{c:Value}(h:cOk x c=true)(G:Mem):RepV G x c:=by
 unfold cOk at h;split at h
 ·simp only[Bool.and_eq_true,beq_iff_eq]at h;simp[RepV,I.isAgg,RepI,h]
 ·simp only[beq_iff_eq]at h;simp[RepV,I.isAgg,RepI,h]
 ·rename_i s t;simp only[Bool.and_eq_true,beq_iff_eq,decide_eq_true_eq]at h;obtain⟨h1,h2⟩:=h;subst h1;unfold RepV;rw[if_neg (by simp[I.isAgg])]
  exact⟨rfl,h2⟩
 ·simp only[Bool.and_eq_true,beq_iff_eq,Array.isEmpty_iff]at h;obtain⟨⟨h1,h2⟩,h3⟩:=h;simp[RepV,I.isAgg,RepI,h1,h2,h3]
 ·simp[RepV,I.isAgg,RepI]
 ·simp[RepV,I.isAgg,RepI]
 ·simp[RepV,I.isAgg,RepI]
 ·unfold RepV;rw[if_neg (by simp[I.isAgg])]
  exact⟨none,0,rfl,Nat.le_refl _,by simp[maxLen],.inl rfl⟩
 ·cases h
def Jj(N:Nat):Operand→Opd→Bool
 | .tmp n,.t m=>n==m&&n<N
 | .const c,.c x=>cOk x c
 | .const (.slice none 0 0),.nils _ _=>true
 | .func f,.c (.fn g)=>f==g
 |_,_=>false
theorem J0{N:Nat}{x:Operand}{n:Nat}(h:Jj N x (.t n)=true):x= .tmp n∧n<N:=by
 cases x<;>simp only[Jj,Bool.and_eq_true,beq_iff_eq,decide_eq_true_eq]at h
 ·obtain⟨rfl,h⟩:=h;exact⟨rfl,h⟩
 ·cases h
 ·cases h
 ·cases h
section
variable{P:Program}{N:Nat}{G:Mem}{σ:Lab}{Fr:Mem}{w0:Base}{w:World}{st:St}{a:Act}
theorem Nn{x:Operand}{i:I}(h:Jj N x (.c i)=true)(G:Mem):RepV G i (a.eval x):=by
 unfold Jj at h;split at h
 ·simp_all
 ·rename_i c y he;cases he;exact Yk h G
 ·simp_all
 ·rename_i f g he;cases he;simp only[beq_iff_eq]at h;subst h;simp[RepV,I.isAgg,RepI,Act.eval]
 ·cases h
theorem Le{x:Operand}{e:TypeId}{sz:Nat}(h:Jj N x (.nils e sz)=true):a.eval x= .slice none 0 0:=by
 unfold Jj at h;split at h<;>simp_all [Act.eval]
theorem J8{x:Operand}{y:Opd}{k:I→M}{Q:St→Prop}(h:Rel G σ Fr w0 st a w)(ho:Jj w0.n x y=true)(hq:(rdI y k).wp P Q st):
 ∃i,(k i).wp P Q st∧RepV G i (a.eval x):=by
 obtain⟨i,h1,h2⟩:=Y1 hq;refine⟨i,h1,?_⟩;rcases h2 with⟨n,ver,rfl,hn⟩|rfl|⟨e,sz,rfl,rfl⟩
 ·obtain⟨rfl,hnlt⟩:=J0 ho;exact h.slot hnlt hn
 ·exact Nn ho G
 ·rw[Le ho];unfold RepV;rw[if_neg (by simp[I.isAgg])]
  exact⟨none,0,rfl,Nat.le_refl _,by simp[maxLen],.inl rfl⟩
end

open Go.Op
def Ac7(d:Option Nat)(x:Opd):M:=match x with
 | .c x=>setD d (.v x) .done
 | .nils e sz=>setD d (.vec e sz []) .done
 | .t n=>.get n fun ver sv=>match sv with
   | .v x=>setD d (.v x) .done
   | .vec _ _ _=>.need (d≠some n) fun _=>setD d (.bor n 0 ver) .done
   | .box _=>.need (d≠some n) fun _=>setD d (.pt n 0 ver 0 []) .done
   | .bor s k ver=>.need (d≠some s) fun _=>setD d (.bor s k ver) .done
   | .sub s k ver m=>.need (d≠some s) fun _=>setD d (.sub s k ver m) .done
   | .suf s k ver m=>.need (d≠some s) fun _=>setD d (.suf s k ver m) .done
   | .pt s k ver off r=>.need (d≠some s) fun _=>setD d (.pt s k ver off r) .done
   | .rp x=>setD d (.rp x) .done
   | .tup _=>.fail
   | .tupd _=>.fail
   | .sit _ _=>.fail
   | .mit _ _ _ _=>.fail
   | .yl _=>.need (d≠some n) fun _=>setD d (.al n ver) .done
   | .al _ _=>.fail
   | .cl f fs cs=>.need (∀e∈fs++cs,d≠some e.1) fun _=>setD d (.cl f fs cs) .done
   | .kcl _ _ _ _=>.fail
   | .bp _ _ _=>.fail
   | .ocl _ _ _ _ _=>.fail
   | .pdt _ _ _ _=>.fail
   | .st _=>.fail
   | .no=>setD d .no .done
   | .par h=>.get h fun ver sv=>.need (d≠some h) fun _=>match sv with
     | .box _=>setD d (.pt h 0 ver 0 []) .done
     | .vec _ _ _=>setD d (.bor h 0 ver) .done
     | .own _ t=>match t with
       | .ptr _=>setD d (.pd h ver [0]) .done
       | .vec _ _ _=>setD d (.bd h ver []) .done
       | .map _ _=>setD d (.bd h ver []) .done
       |_=>.fail
     |_=>.fail
   | .own _ t=>.need (d≠some n) fun _=>match t with
     | .ptr _=>setD d (.pd n ver [0]) .done
     | .vec _ _ _=>setD d (.bd n ver []) .done
     | .map _ _=>setD d (.bd n ver []) .done
     |_=>.fail
   | .pd s ver p=>.need (d≠some s) fun _=>setD d (.pd s ver p) .done
   | .bd s ver p=>.need (d≠some s) fun _=>setD d (.bd s ver p) .done
   | .bs s ver p lo m=>.need (d≠some s) fun _=>setD d (.bs s ver p lo m) .done
def Z9(op:BinOp)(k:IntKind)(a b:Int):Option I:=match op with
 | .add=>some (.int k (k.wrap (a+b)))
 | .sub=>some (.int k (k.wrap (a - b)))
 | .mul=>some (.int k (k.wrap (a*b)))
 | .eql=>some (.bool (decide (a=b)))
 | .neq=>some (.bool (!decide (a=b)))
 | .lss=>some (.bool (decide (a<b)))
 | .leq=>some (.bool (decide (a≤b)))
 | .gtr=>some (.bool (decide (b<a)))
 | .geq=>some (.bool (decide (b≤a)))
 |_=>none
def Ae4(op:BinOp)(s t:List UInt8):Option I:=match op with
 | .eql=>some (.bool (decide (s=t)))
 | .neq=>some (.bool (!decide (s=t)))
 | .lss=>some (.bool (bytesLess s t))
 | .leq=>some (.bool (bytesLess s t||decide (s=t)))
 | .gtr=>some (.bool (!(bytesLess s t||decide (s=t))))
 | .geq=>some (.bool (!bytesLess s t))
 |_=>none
def selI(b:Bool)(x y:I)(k:I→M):M:=match b with
 |true=>k x
 |false=>k y
def binI(op:BinOp)(x y:I)(k:I→M):M:=match x,y with
 | .int ka a,.int kb b=>if ka=kb then match Z9 op ka a b with
  |some r=>k r
  |none=>.fail
   else .fail
 | .str s,.str t=>match op with
   | .add=>.need (s.length+t.length≤maxLen) fun _=>k (.str (s++t))
   |op=>match Ae4 op s t with
    |some r=>k r
    |none=>.fail
 |_,_=>.fail
def Af7(d:Option Nat)(op:BinOp)(x y:Opd):M:=rdI x fun i=>rdI y fun j=>binI op i j fun r=>setD d (.v r) .done
section
variable{P:Program}{N:Nat}{G:Mem}{σ:Lab}{Fr:Mem}{w0:Base}{w:World}{st:St}{a:Act}
theorem RepV.int{k:IntKind}{n:Int}{c:Value}:RepV G (.int k n) c↔c= .int k n:=by simp[RepV,I.isAgg,RepI]
theorem RepV.bool{b:Bool}{c:Value}:RepV G (.bool b) c↔c= .bool b:=by simp[RepV,I.isAgg,RepI]
theorem RepV.str{s:List UInt8}{c:Value}:RepV G (.str s) c↔c= .string ⟨⟨s⟩⟩∧s.length≤maxLen:=by simp[RepV,I.isAgg,RepI]
theorem beq_eq(m n:Int):(m==n)=decide (m=n):=by rw[Bool.eq_iff_iff];simp
theorem bne_eq(m n:Int):(m != n)= !decide (m=n):=by simp[bne,beq_eq]
theorem Rel.setV{Q:St→Prop}{d:Option Nat}{x:I}{c:Value}(h:Rel G σ Fr w0 st a w)(hb:∀d',d=some d'→d'<w0.n)(hc:RepV G x c)(hq:(Ab.setD d (.v x) .done).wp P Q st):
 ∃σ' st',Rel G σ' Fr w0 st' (a.put d c) w∧Q st':=h.setD hb (sv:=.v x) (fun _ _ _ _=>hc) hq
theorem Ag1{op:BinOp}{s t:List UInt8}{r:I}(h:Ae4 op s t=some r):∃b,r= .bool b∧Op.stringOp op ⟨⟨s⟩⟩ ⟨⟨t⟩⟩= .pure (.bool b):=by
 have e:∀l:List UInt8,(⟨⟨l⟩⟩:ByteArray).toList=l:=fun l=>by simp
 cases op<;>simp only[Ae4]at h<;>first|cases h|skip
 all_goals refine⟨_,rfl,?_⟩
 all_goals simp only[Op.stringOp,e]
 all_goals first
  |rfl
  |(have:(s==t)=decide (s=t):=by(rw[Bool.eq_iff_iff];simp)
    rw[this];rfl)
theorem Ae7{op:BinOp}{k:IntKind}{m n:Int}{r:I}(h:Z9 op k m n=some r)(G:Mem):∃v,RepV G r v∧
 ∀t w,(binOp op t (.int k m) (.int k n)).run P w= .ok v w:=by
 cases op<;>simp only[Z9]at h<;>first|cases h|skip
 all_goals first
  |exact⟨_,RepV.int.2 rfl,fun t w=>by simp[Go.binOp,Op.intArith]⟩
  |exact⟨_,RepV.bool.2 rfl,fun t w=>by simp[Go.binOp,Op.intCmp,beq_eq,bne_eq]⟩
theorem Agf{o:Oper}{op:BinOp}{t u:TypeId}{x y:Operand}{x' y':Opd}(ho:o.op= .binOp op t x y u)(hx:Jj N x x'=true)(hy:Jj N y y'=true):
 Sound P N o (Af7 o.dst op x' y'):=by
 intro G σ Fr w0 st a w Q next E hN hr hw hn hdst
 subst hN;obtain⟨i,h1,hi⟩:=J8 hr hx hw;clear hw;obtain⟨j,hw,hj⟩:=J8 hr hy h1;clear h1;unfold binI at hw;split at hw
 ·rename_i ka m kb n;split at hw
  ·rename_i hk;subst hk;split at hw
   ·rename_i r hop;obtain⟨v,hv,hrun⟩:=Ae7 (P:=P) hop G;obtain⟨σ',st',h1,h2⟩:=hr.setV hdst hv hw;refine Jt (v:=v) (w':=w) ?_ (hn G σ' st' _ w (Mem.le.refl G) h1 h2);rw[RepV.int]at hi hj;simp only[execOp,ho,hi,hj];simp[eqGuard,hrun]
   ·exact hw.elim
  ·exact hw.elim
 ·rename_i s s' ;rw[RepV.str]at hi hj;split at hw
  ·obtain⟨hl,hw⟩:=hw;obtain⟨σ',st',h1,h2⟩:=hr.setV hdst (c:=.string ⟨⟨s++s'⟩⟩) (RepV.str.2 ⟨rfl,by simpa using hl⟩) hw
   refine Jt (v:=.string ⟨⟨s++s'⟩⟩) (w':=w) ?_ (hn G σ' st' _ w (Mem.le.refl G) h1 h2);simp only[execOp,ho,hi.1,hj.1];have h63:¬(((⟨⟨s⟩⟩:ByteArray).size+(⟨⟨s'⟩⟩:ByteArray).size:Nat):Int)>IntKind.i64.max:=by
    simp only[maxLen]at hl;show ¬((s.length+s'.length:Nat):Int)>9223372036854775807;omega
   have he:(⟨⟨s⟩⟩:ByteArray)++⟨⟨s'⟩⟩=⟨⟨s++s'⟩⟩:=by
    apply ByteArray.ext;simp
   simp only[eqGuard,Go.binOp,Op.stringOp];rw[if_neg h63];simp[he]
  ·split at hw
   ·rename_i r hop;obtain⟨b,rfl,hrun⟩:=Ag1 hop;obtain⟨σ',st',h1,h2⟩:=hr.setV hdst (c:=.bool b) (RepV.bool.2 rfl) hw;refine Jt (v:=.bool b) (w':=w) ?_ (hn G σ' st' _ w (Mem.le.refl G) h1 h2);simp only[execOp,ho,hi.1,hj.1];simp[eqGuard,Go.binOp,hrun]
   ·exact hw.elim
 ·exact hw.elim
theorem J1{o:Oper}{Q:St→Prop}{next:Act→World→Prop}{E:Exit→Act→World→Prop}{r:I}{v:Value}(hr:Rel G σ Fr w0 st a w)
 (hn:∀G' σ' st' a' w',G.le G'→Rel G' σ' Fr w0 st' a' w'→Q st'→next a' w') (hdst:∀d,o.dst=some d→d<w0.n) (hv:RepV G r v) (hq:(setD o.dst (.v r) .done).wp P Q st)
 (hrun:(execOp a.eval o).run P w= .ok (.value v) w):o.wp P a w next E:=by
 obtain⟨σ',st',h1,h2⟩:=hr.setV hdst hv hq;exact Jt hrun (hn G σ' st' _ w (Mem.le.refl G) h1 h2)
def Agc(d:Option Nat)(x:Opd):M:=rdI x fun i=>match i with
 | .bool b=>setD d (.v (.bool (!b))) .done
 |_=>.fail
theorem Agq{o:Oper}{t:TypeId}{x:Operand}{x':Opd}(ho:o.op= .unOp .not t x)(hx:Jj N x x'=true):Sound P N o (Agc o.dst x'):=by
 intro G σ Fr w0 st a w Q next E hN hr hw hn hdst
 subst hN;obtain⟨i,h1,hi⟩:=J8 hr hx hw;clear hw;split at h1
 ·rename_i b;rw[RepV.bool]at hi;exact J1 hr hn hdst (RepV.bool.2 rfl) h1 (by simp[execOp,ho,hi,Op.unary])
 ·exact h1.elim
def Ab9(d:Option Nat)(c x y:Opd):M:=rdI c fun i=>match i with
 | .bool b=>.ite b (rdI x fun j=>setD d (.v j) .done) (rdI y fun j=>setD d (.v j) .done)
 |_=>.fail
theorem Aeu{o:Oper}{c x y:Operand}{c' x' y':Opd}(ho:o.op= .pick c x y)(hc:Jj N c c'=true)(hx:Jj N x x'=true)(hy:Jj N y y'=true):
 Sound P N o (Ab9 o.dst c' x' y'):=by
 intro G σ Fr w0 st a w Q next E hN hr hw hn hdst
 subst hN;obtain⟨i,h1,hi⟩:=J8 hr hc hw;clear hw;split at h1
 ·rename_i b;rw[RepV.bool]at hi;cases hb:b with
  |true=>
   obtain⟨j,h2,hj⟩:=J8 hr hx (h1.1 hb);exact J1 hr hn hdst hj h2 (by simp[execOp,ho,hi,hb,asBool])
  |false=>
   obtain⟨j,h2,hj⟩:=J8 hr hy (h1.2 hb);exact J1 hr hn hdst hj h2 (by simp[execOp,ho,hi,hb,asBool])
 ·exact h1.elim
theorem Z5{o:Oper}{x:Operand}{x':Opd}(ho:o.op= .move x∨o.op= .assign x)(hx:Jj N x x'=true):Sound P N o (Ac7 o.dst x'):=by
 intro G σ Fr w0 st a w Q next E hN hr hw hn hdst
 subst hN;have hrun:(execOp a.eval o).run P w= .ok (.value (a.eval x)) w:=by
  rcases ho with ho|ho<;>simp[execOp,ho]
 have fin:∀{sv:SV} (_:(setD o.dst sv .done).wp P Q st)
  (_:∀d',o.dst=some d'→∀ver,(st.set d' (ver,sv))[d']?=some (ver,sv)→RepSV G (σ.drop d') w (st.set d' (ver,sv)) (val (a.put (some d') (a.eval x)) w0) d' sv (a.eval x))
  (_:∀h,sv≠ .par h:=by intro _ e;cases e) (_:∀inv t,sv≠ .own inv t:=by intro _ _ e;cases e),o.wp P a w next E:=by
  intro sv hq hnew hnp hno;obtain⟨σ',st',h1,h2⟩:=hr.setD hdst hnew hq (fun h e=>absurd e (hnp h)) hno
  exact Jt hrun (hn G σ' st' _ w (Mem.le.refl G) h1 h2)
 have look:∀{d' n:Nat} {p q:Nat × SV},o.dst=some d'→o.dst≠some n→st[n]?=some p→(st.set d' q)[n]?=some p:=by
  intro d' n p q hd hne hp;rw[List.getElem?_set_ne]
  ·exact hp
  ·rintro rfl;exact hne hd
 cases x' with
 |c i=>exact J1 hr hn hdst (Nn hx G) hw hrun
 |nils e sz=>
  refine fin hw fun d' _ ver _=>?_
  rw[Le hx];exact⟨[],OwnsR.nil w e sz,by simp[RepIs],by simp,by simp[Value.ownBlock]⟩
 |t n=>
  obtain⟨rfl,hnlt⟩:=J0 hx;simp only[Ac7,M.wp]at hw;cases hs:st[n]? with
  |none=>simp[hs]at hw
  |some cur=>
   obtain⟨ver,sv⟩:=cur;simp only[hs]at hw;have hrep:=hr.slot hnlt hs;cases sv with
   |v y=>exact J1 hr hn hdst hrep hw hrun
   |no=>exact fin hw fun _ _ _ _=>trivial
   |rp y=>exact fin hw fun _ _ _ _=>hrep
   |vec e sz l=>
    obtain⟨hne,hw⟩:=hw;refine fin hw fun d' hd _ _=>⟨_,look hd hne hs,Nat.le_refl _,fun _=>⟨e,sz,l,rfl,?_⟩⟩
    exact VecAt.tr hrep (Mem.le.refl G) fun b hb=>⟨Lab.drop_some.2 ⟨fun e=>hne (by rw[hd,e]),hb⟩,rfl⟩
   |box t=>
    obtain⟨hne,hw⟩:=hw;obtain⟨b,cells,ty,h1,h2,_⟩:=hrep;refine fin hw fun d' hd _ _=>⟨_,look hd hne hs,Nat.le_refl _,fun _=>⟨b,Lab.drop_some.2 ⟨fun e=>hne (by rw[hd,e]),h2⟩,h1⟩⟩
   |bor s k ver'=>
    obtain⟨hne,hw⟩:=hw;obtain⟨cur,h1,h2,h3⟩:=hrep;refine fin hw fun d' hd _ _=>⟨cur,look hd hne h1,h2,fun e=>?_⟩
    obtain⟨e,sz,l,h4,h5⟩:=h3 e;exact⟨e,sz,l,h4,h5.tr (Mem.le.refl G) fun b hb=>⟨Lab.drop_some.2 ⟨fun e=>hne (by rw[hd,e]),hb⟩,rfl⟩⟩
   |sub s k ver' m=>
    obtain⟨hne,hw⟩:=hw;obtain⟨cur,h1,h2,h3⟩:=hrep;refine fin hw fun d' hd _ _=>⟨cur,look hd hne h1,h2,fun e=>?_⟩
    obtain⟨e,sz,l,h4,h5⟩:=h3 e;exact⟨e,sz,l,h4,h5.tr (Mem.le.refl G) fun b hb=>⟨Lab.drop_some.2 ⟨fun e=>hne (by rw[hd,e]),hb⟩,rfl⟩⟩
   |suf s k ver' m=>
    obtain⟨hne,hw⟩:=hw;obtain⟨cur,h1,h2,h3⟩:=hrep;refine fin hw fun d' hd _ _=>⟨cur,look hd hne h1,h2,fun e=>?_⟩
    obtain⟨e,sz,l,c0,h4,h5,h6⟩:=h3 e;exact⟨e,sz,l,c0,h4,h5.tr (Mem.le.refl G) fun b hb=>⟨Lab.drop_some.2 ⟨fun e=>hne (by rw[hd,e]),hb⟩,rfl⟩,h6⟩
   |pt s k ver' off r=>
    obtain⟨hne,hw⟩:=hw;obtain⟨cur,h1,h2,h3⟩:=hrep;refine fin hw fun d' hd _ _=>⟨cur,look hd hne h1,h2,fun e=>?_⟩
    obtain⟨b,h4,h5⟩:=h3 e;exact⟨b,Lab.drop_some.2 ⟨fun e=>hne (by rw[hd,e]),h4⟩,h5⟩
   |tup fs=>exact hw.elim
   |tupd fs=>exact hw.elim
   |sit _ _=>exact hw.elim
   |mit _ _ _ _=>exact hw.elim
   |yl _=>
    obtain⟨hne,hw⟩:=hw;refine fin hw fun d' hd _ _=>⟨_,look hd hne hs,Nat.le_refl _,fun _=>?_⟩
    rw[Jr (by rintro rfl;exact hne hd)]
    exact(J2 (by rw[hr.n];exact hnlt)).symm
   |al _ _=>exact hw.elim
   |cl f fs cs=>
    obtain⟨hne,hw⟩:=hw;obtain⟨us,ws,e1,e2,e3⟩:=hrep;refine fin hw fun d' hd ver _=>⟨us,ws,e1,RefsOk.put (fun h hh=>Jr hh) (fun e he ed=>hne e (List.mem_append_left _ he) (by rw[hd,ed])) e2,RefsOk.put (fun h hh=>Jr hh) (fun e he ed=>hne e (List.mem_append_right _ he) (by rw[hd,ed])) e3⟩
   |kcl _ _ _ _=>exact hw.elim
   |bp _ _ _=>exact hw.elim
   |ocl _ _ _ _ _=>exact hw.elim
   |pdt _ _ _ _=>exact hw.elim
   |st fs=>exact hw.elim
   |par h=>
    obtain⟨hv,hle⟩:=hr.pars n ver h hs;rw[J2 (by rw[hr.n];exact hnlt)]at hv
    simp only[M.wp]at hw;cases hh:st[h]? with
    |none=>simp[hh]at hw
    |some cur=>
     obtain⟨ver',sv'⟩:=cur;simp only[hh]at hw;obtain⟨hne,hw⟩:=hw;have hrep':=hr.slots h ver' sv' hh;rw[←hv]at hrep';split at hw
     ·obtain⟨b,cells,ty,h1,h2,_⟩:=hrep';refine fin hw fun d' hd _ _=>⟨_,look hd hne hh,Nat.le_refl _,fun _=>⟨b,Lab.drop_some.2 ⟨fun e=>hne (by rw[hd,e]),h2⟩,h1⟩⟩
     ·rename_i e sz l;refine fin hw fun d' hd _ _=>⟨_,look hd hne hh,Nat.le_refl _,fun _=>⟨e,sz,l,rfl,?_⟩⟩
      exact VecAt.tr hrep' (Mem.le.refl G) fun b hb=>⟨Lab.drop_some.2 ⟨fun e=>hne (by rw[hd,e]),hb⟩,rfl⟩
     ·rename_i inv t;have hown:OwnD G σ w h t (val a w0 h):=by rw[←hv];exact hrep'
      split at hw
      ·refine fin hw fun d' hd _ _=>⟨_,look hd hne hh,Nat.le_refl _,fun inv' t' e _ _=>?_⟩
       cases e;rw[Jr (fun e=>hne (by rw[hd,e])),hv]
       exact hown.pt
      ·refine fin hw fun d' hd _ _=>⟨_,look hd hne hh,Nat.le_refl _,fun inv' t' e _=>?_⟩
       cases e;rw[Jr (fun e=>hne (by rw[hd,e])),hv]
       exact hown.hd rfl
      ·refine fin hw fun d' hd _ _=>⟨_,look hd hne hh,Nat.le_refl _,fun inv' t' e _=>?_⟩
       cases e;rw[Jr (fun e=>hne (by rw[hd,e])),hv]
       exact hown.hd rfl
      ·exact hw.elim
     ·exact hw.elim
   |own inv t=>
    obtain⟨hne,hw⟩:=hw;have hv:val a w0 n=a.eval (.tmp n):=J2 (by rw[hr.n];exact hnlt)
    have hown:OwnD G σ w n t (val a w0 n):=by rw[hv];exact hrep
    split at hw
    ·refine fin hw fun d' hd _ _=>⟨_,look hd hne hs,Nat.le_refl _,fun inv' t' e _ _=>?_⟩
     cases e;rw[Jr (fun e=>hne (by rw[hd,e])), ←hv]
     exact hown.pt
    ·refine fin hw fun d' hd _ _=>⟨_,look hd hne hs,Nat.le_refl _,fun inv' t' e _=>?_⟩
     cases e;rw[Jr (fun e=>hne (by rw[hd,e])), ←hv]
     exact hown.hd rfl
    ·refine fin hw fun d' hd _ _=>⟨_,look hd hne hs,Nat.le_refl _,fun inv' t' e _=>?_⟩
     cases e;rw[Jr (fun e=>hne (by rw[hd,e])), ←hv]
     exact hown.hd rfl
    ·exact hw.elim
   |pd s ver' p=>
    obtain⟨hne,hw⟩:=hw;obtain⟨cur,h1,h2,h3⟩:=hrep;refine fin hw fun d' hd _ _=>⟨cur,look hd hne h1,h2,fun inv t e hp ha=>?_⟩
    rw[Jr (fun e=>hne (by rw[hd,e]))]
    exact h3 inv t e hp ha
   |bs s ver' p lo m=>
    obtain⟨hne,hw⟩:=hw;obtain⟨cur,h1,h2,h3⟩:=hrep;refine fin hw fun d' hd _ _=>⟨cur,look hd hne h1,h2,fun e0 inv t e=>?_⟩
    rw[Jr (fun e=>hne (by rw[hd,e]))]
    exact h3 e0 inv t e
   |bd s ver' p=>
    obtain⟨hne,hw⟩:=hw;obtain⟨cur,h1,h2,h3⟩:=hrep;refine fin hw fun d' hd _ _=>⟨cur,look hd hne h1,h2,fun inv t e ha=>?_⟩
    rw[Jr (fun e=>hne (by rw[hd,e]))]
    exact h3 inv t e ha
end

section
variable{P:Program}{N:Nat}{G:Mem}{σ:Lab}{Fr:Mem}{w0:Base}{w:World}{st:St}{a:Act}
def Lab.move(σ:Lab)(n d:Nat):Lab:=fun b=>match σ b with
 |some (s,k)=>if s=n then some (d,k)else if s=d then none else some (s,k)
 |none=>none
theorem Lab.move_here{n d b k:Nat}(h:σ b=some (n,k)):σ.move n d b=some (d,k):=by simp[Lab.move,h]
theorem Lab.move_far{n d b s k:Nat}(h:σ b=some (s,k))(h1:s≠n)(h2:s≠d):σ.move n d b=some (s,k):=by simp[Lab.move,h,h1,h2]
theorem Lab.move_inv{n d b s k:Nat}(h:σ.move n d b=some (s,k)):(s=d∧σ b=some (n,k))∨(s≠n∧s≠d∧σ b=some (s,k)):=by
 unfold Lab.move at h;split at h
 ·rename_i s' k' hb;split at h
  ·rename_i e;simp only[Option.some.injEq,Prod.mk.injEq]at h;obtain⟨rfl,rfl⟩:=h;exact .inl ⟨rfl,by rw[hb,e]⟩
  ·rename_i e;split at h
   ·cases h
   ·rename_i e';simp only[Option.some.injEq,Prod.mk.injEq]at h;obtain⟨rfl,rfl⟩:=h;exact .inr ⟨e,e',hb⟩
 ·cases h
theorem WOk.move(h:WOk G σ Fr w0 w)(n d:Nat):WOk G (σ.move n d) Fr w0 w:=by
 refine⟨h.fixed,?_,?_,h.frame,h.os,h.tape,h.output,h.size,h.apart,h.amb⟩
 ·rintro b ⟨s,k⟩ hb;rcases Lab.move_inv hb with⟨_,hb⟩|⟨_,_,hb⟩<;>exact h.own b _ hb
 ·rintro b b' ⟨s,k⟩ hb hb';rcases Lab.move_inv hb with⟨h1,hb⟩|⟨h1,h2,hb⟩<;>rcases Lab.move_inv hb' with⟨h3,hb'⟩|⟨h3,h4,hb'⟩
  ·exact h.inj b b' _ hb hb'
  ·exact absurd h1 h4
  ·exact absurd h3 h2
  ·exact h.inj b b' _ hb hb'
theorem Rel.move{n d ver ver':Nat}{sv:SV}{old:Nat × SV}{v1:Nat}{c:Value}(h:Rel G σ Fr w0 st a w)(hdn:d<w0.n)(hn:st[n]?=some (v1,sv))(hd:st[d]?=some old)(hne:d≠n)
 (hv:v1<ver) (hv':old.1<ver') (hr:sv.root=none) (hc:RepOwn G σ w n sv c) (hnp:∀h,sv≠ .par h:=by intro _ e;cases e):
 Rel G (σ.move n d) Fr w0 ((st.set n (ver,.no)).set d (ver',sv.fresh ver')) (a.put (some d) c) w:=by
 have h1:=h.drop hn hv;refine h1.put hdn (h.wok.move n d) (Mem.le.refl G) (old:=old) (by rw[List.getElem?_set_ne (Ne.symm hne)];exact hd) hv' ?_ ?_ (fun h e=>absurd (Te.1 e) (hnp h)) Nx
 ·intro s' hs' b k hb;obtain⟨h2,h3⟩:=Lab.drop_some.1 hb;exact⟨Lab.move_far h3 h2 hs',rfl⟩
 ·rw[RepSV.own (by rw[Sm];exact hr),Tf]
  exact RepOwn.tr hc (Mem.le.refl G) fun b k hb=>⟨Lab.move_here hb,rfl⟩
def SV.frzAt:SV→Nat→SV
 | .vec _ _ l,0=>.v (.list l)
 | .box (.one (.vec _ _ l)),1=>.box (.one (.i (.list l)))
 | .box (.st fs),j+1=>match fs[j]? with
   |some (.vec _ _ l)=>.box (.st (fs.set j (.i (.list l))))
   |_=>.box (.st fs)
 |sv,_=>sv
theorem VecAt.list{G':Mem}{lab:Nat × Nat}{e:TypeId}{sz:Nat}{l:List I}{c:Value}(h:VecAt G σ w lab e sz l c)(hG:G.le G')
 (hb:∀b,σ b=some lab→G' b=w.heap[b]?):RepV G' (.list l) c:=by
 obtain⟨xs,h1,h2,h3,h4⟩:=h;unfold RepV;rw[if_neg (by simp[I.isAgg])]
 rcases h1.2 with⟨rfl,h0⟩|⟨g,cap,cur,rfl,_,hg,hn,hm,hs,ht⟩
 ·refine⟨none,0,by rw[h0],by omega,by simp[maxLen],.inl (List.eq_nil_of_length_eq_zero h0)⟩
 ·obtain⟨ty,fz,hg,_⟩:=hg;refine⟨_,cap,rfl,hn,hm,.inr ⟨g,0,cur,ty,fz,sz,rfl,?_,h3,?_,?_⟩⟩
  ·rw[hb g (h4 g (by simp[Value.ownBlock]))];exact hg
  ·rw[hs,Nat.zero_add];exact Nat.mul_le_mul_right _ hn
  ·rw[List.drop_zero,ht];exact RepIs.mono hG l xs h2
theorem Pp{l:List I}{c:Value}(h:RepV G (.list l) c):RepI G (.list l) [c]:=by
 unfold RepV at h;rwa [if_neg (by simp[I.isAgg])]at h
theorem RepFs.setF{G':Mem}{σ':Lab}{w':World}{s:Nat}{f':F}(hG:G.le G'):∀{fs:List F} {j i:Nat} {cs:List Value} {f:F},RepFs G σ w s j fs cs→fs[i]?=some f→
 (∀b k,k≠j+i+1→σ b=some (s,k)→σ' b=some (s,k)∧w'.heap[b]?=w.heap[b]?)→(∀c,RepF G σ w (s,j+i+1) f c→RepF G' σ' w' (s,j+i+1) f' c)→
 RepFs G' σ' w' s j (fs.set i f') cs
 | [],_,i,_,_,_,h,_,_=>by simp at h
 |f::fs,j,0,cs,f0,h,hi,hk,hv=>by
  simp only[List.getElem?_cons_zero,Option.some.injEq]at hi;subst hi;obtain⟨c,d,ecs,h1,h2⟩:=h;simp only[List.set_cons_zero,RepFs];exact⟨c,d,ecs,hv c h1,RepFs.tr hG h2 fun b k hjk hb=>hk b k (by omega) hb⟩
 |f::fs,j,i+1,cs,f0,h,hi,hk,hv=>by
  simp only[List.getElem?_cons_succ]at hi;obtain⟨c,d,ecs,h1,h2⟩:=h;simp only[List.set_cons_succ,RepFs];refine⟨c,d,ecs,RepF.tr h1 hG fun b hb=>hk b (j+1) (by omega) hb,?_⟩
  have e:j+(i+1)+1=j+1+i+1:=by omega
  rw[e]at hv;exact RepFs.setF hG h2 hi (fun b k hne hb=>hk b k (by omega) hb) hv
def Lab.lose(σ:Lab)(lab:Nat × Nat):Lab:=fun b=>if σ b=some lab then none else σ b
theorem Lab.lose_some{lab lab':Nat × Nat}{b:Nat}:σ.lose lab b=some lab'↔lab'≠lab∧σ b=some lab':=by
 unfold Lab.lose;split
 ·rename_i h;constructor
  ·intro x;cases x
  ·rintro⟨h1,h2⟩;rw[h]at h2;cases h2;exact absurd rfl h1
 ·rename_i h;constructor
  ·intro x;exact⟨fun e=>h (by rw[x,e]),x⟩
  ·exact fun x=>x.2
def Mem.fix(G:Mem)(σ:Lab)(w:World)(lab:Nat × Nat):Mem:=fun b=>if σ b=some lab then w.heap[b]? else G b
theorem Mem.fix_le(hok:WOk G σ Fr w0 w)(lab:Nat × Nat):G.le (G.fix σ w lab):=by
 intro b o hb;unfold Mem.fix;split
 ·rename_i h;rw[(hok.own b lab h).1]at hb;cases hb
 ·exact hb
theorem Mem.fix_here{lab:Nat × Nat}{b:Nat}(h:σ b=some lab):G.fix σ w lab b=w.heap[b]?:=by simp[Mem.fix,h]
theorem Rel.freeze{s k ver ver':Nat}{sv:SV}{e:TypeId}{sz:Nat}{l:List I}(h:Rel G σ Fr w0 st a w)(hs:st[s]?=some (ver,sv))(hv:sv.vecAt k=some (e,sz,l))(hlt:ver<ver'):
 ∃G' σ',G.le G'∧Rel G' σ' Fr w0 (st.set s (ver',sv.frzAt k)) a w∧
  (∀m c,VecAt G σ w (s,k) e sz m c→RepV G' (.list m) c)∧∀b,σ b=none→G b=none→σ' b=none∧G' b=none:=by
 have hG:=Mem.fix_le h.wok (s,k);have hlist:∀m c,VecAt G σ w (s,k) e sz m c→RepV (G.fix σ w (s,k)) (.list m) c:=fun m c hc=>hc.list hG fun b hb=>Mem.fix_here hb
 refine⟨G.fix σ w (s,k),σ.lose (s,k),hG,?_,hlist,fun b h1 h2=>⟨by simp[Lab.lose,h1],by simp[Mem.fix,h1,h2]⟩⟩
 have hok:WOk (G.fix σ w (s,k)) (σ.lose (s,k)) Fr w0 w:=by
  refine⟨?_,?_,?_,h.wok.frame,h.wok.os,h.wok.tape,h.wok.output,h.wok.size,?_,Amb.mono hG h.wok.amb⟩
  rotate_right
  ·intro b o hb;unfold Mem.fix;rw[if_neg (by intro e;have:=(h.wok.own b _ e).2.1;rw[hb]at this;cases this)]
   exact h.wok.apart b o hb
  ·intro b o hb;unfold Mem.fix at hb;split at hb
   ·exact hb
   ·exact h.wok.fixed b o hb
  ·intro b lab hb;obtain⟨h1,h2⟩:=Lab.lose_some.1 hb;obtain⟨h3,h4,h5⟩:=h.wok.own b lab h2;refine⟨?_,h4,h5⟩;unfold Mem.fix;rw[if_neg (by rw[h2];intro e;cases e;exact h1 rfl)]
   exact h3
  ·intro b b' lab hb hb';exact h.wok.inj b b' lab (Lab.lose_some.1 hb).2 (Lab.lose_some.1 hb').2
 refine Rel.self (new:=sv.frzAt k) (ver:=ver') h hok hG hs hlt
  (fun s' hs' b k' hb=>⟨Lab.lose_some.2 ⟨fun e=>hs' (by cases e;rfl),hb⟩,rfl⟩) ?_ (by
    intro h e;unfold SV.frzAt at e;repeat' split at e
    all_goals first|(subst e;rw[Tr]at hv;cases hv)|cases e) (by
    intro inv t e;exfalso;unfold SV.frzAt at e;repeat' split at e
    all_goals first|(subst e;cases k<;>cases hv)|cases e)
 ·have hold:=h.slots s ver sv hs;generalize val a w0 s=c at hold ⊢;unfold SV.vecAt at hv;split at hv
  ·cases hv;exact hlist _ _ hold
  ·cases hv;obtain⟨b,cells,ty,h1,h2,h3,h4⟩:=hold;refine⟨b,cells,ty,h1,Lab.lose_some.2 ⟨by simp,h2⟩,h3,?_⟩
   obtain⟨c',hc',h4⟩:=h4;show RepI _ _ _;rw[hc'];exact Pp (hlist _ _ h4)
  ·rename_i fs j;split at hv
   ·rename_i e' sz' l' hf;cases hv;obtain⟨b,cells,ty,h1,h2,h3,h4⟩:=hold;simp only[SV.frzAt,hf];refine⟨b,cells,ty,h1,Lab.lose_some.2 ⟨by simp,h2⟩,h3,?_⟩
    refine RepFs.setF hG h4 hf (fun b k hne hb=>⟨Lab.lose_some.2 ⟨fun e=>hne (by cases e;omega),hb⟩,rfl⟩) fun c hc=>?_
    obtain⟨c',rfl,hc⟩:=hc;exact Pp (hlist _ _ (by rw[Nat.zero_add]at hc;exact hc))
   ·cases hv
  ·cases hv
end

def F.size:F→Nat
 | .i x=>x.size
 | .vec _ _ _=>1
def fsizes:List F→Nat
 | []=>0
 |f::fs=>f.size+fsizes fs
def allI:List F→Option (List I)
 | []=>some []
 | .i x::fs=>match allI fs with
   |some l=>some (x::l)
   |none=>none
 | .vec _ _ _::_=>none
inductive Hit where
 |item (u:I)
 |vec (k:Nat)
 deriving Inhabited
def hitI(o:Nat):Option (Nat × I)→Option (Nat × Hit)
 |some (p,u)=>some (o+p,.item u)
 |none=>none
def hitV(sz:Nat)(l:List I):List Nat→Option (Nat × Hit)
 |i::r=>match l[i]? with
  |some y=>hitI (i*sz) (y.sub r)
  |none=>none
 | []=>none
def SV.hit(sv:SV)(k:Nat)(r:List Nat):Option (Nat × Hit):=match k with
 |0=>match sv with
  | .box (.one (.i x))=>hitI 0 (x.sub r)
  | .box (.one (.vec _ _ _))=>match r with
    | []=>some (0,.vec 1)
    |_::_=>none
  | .box (.st fs)=>match r with
    | []=>match allI fs with
      |some l=>some (0,.item (.agg l))
      |none=>none
    |j::r=>match fs[j]? with
     |some (.i y)=>hitI (fsizes (fs.take j)) (y.sub r)
     |some (.vec _ _ _)=>match r with
      | []=>some (fsizes (fs.take j),.vec (j+1))
      |_::_=>none
     |none=>none
  | .vec _ sz l=>hitV sz l r
  |_=>none
 |j+1=>match sv.vecAt (j+1)with
  |some (_,sz,l)=>hitV sz l r
  |none=>none
def putV(l:List I)(r:List Nat)(u:I):List I:=match r with
 |i::r=>match l[i]? with
  |some y=>l.set i (y.put r u)
  |none=>l
 | []=>l
def SV.putAt(sv:SV)(k:Nat)(r:List Nat)(u:I):SV:=match k with
 |0=>match sv with
  | .box (.one (.i x))=>.box (.one (.i (x.put r u)))
  | .box (.st fs)=>match r with
    |j::r=>match fs[j]? with
     |some (.i y)=>.box (.st (fs.set j (.i (y.put r u))))
     |_=>sv
    | []=>.box (.one (.i u))
  | .vec e sz l=>.vec e sz (putV l r u)
  |sv=>sv
 |j+1=>match sv with
  | .box (.one (.vec e sz l))=>.box (.one (.vec e sz (putV l r u)))
  | .box (.st fs)=>match fs[j]? with
    |some (.vec e sz l)=>.box (.st (fs.set j (.vec e sz (putV l r u))))
    |_=>sv
  |sv=>sv
section
variable{P:Program}{N:Nat}{G:Mem}{σ:Lab}{Fr:Mem}{w0:Base}{w:World}{st:St}{a:Act}
theorem Pg{o off:Nat}{q:Option (Nat × I)}{u:Hit}(h:hitI o q=some (off,u)):∃p v,q=some (p,v)∧off=o+p∧u= .item v:=by
 cases q with
 |none=>cases h
 |some q=>
  obtain⟨p,v⟩:=q;simp only[hitI,Option.some.injEq,Prod.mk.injEq]at h;exact⟨p,v,rfl,h.1.symm,h.2.symm⟩
theorem RepF.length{lab:Nat × Nat}{f:F}{cs:List Value}(h:RepF G σ w lab f cs):cs.length=f.size:=by
 cases f with
 |i x=>exact RepI.length x cs h
 |vec e sz l=>obtain⟨c,rfl,_⟩:=h;rfl
theorem RepFs.nth{s:Nat}:∀{fs:List F} {j i:Nat} {cs:List Value} {f:F},RepFs G σ w s j fs cs→fs[i]?=some f→
 ∃c1 c c2,cs=c1++c++c2∧c1.length=fsizes (fs.take i)∧RepF G σ w (s,j+i+1) f c∧
  (∀f' c',RepF G σ w (s,j+i+1) f' c'→RepFs G σ w s j (fs.set i f') (c1++c'++c2))
 | [],_,i,_,_,_,h=>by simp at h
 |f::fs,j,0,cs,f',h,hi=>by
  simp only[List.getElem?_cons_zero,Option.some.injEq]at hi;subst hi;obtain⟨c,d,e,h1,h2⟩:=h;refine⟨[],c,d,by simpa using e,by simp[fsizes],h1,?_⟩
  intro g c' hg;exact⟨c',d,by simp,hg,h2⟩
 |f::fs,j,i+1,cs,f',h,hi=>by
  simp only[List.getElem?_cons_succ]at hi;obtain⟨c,d,e,h1,h2⟩:=h;obtain⟨c1,cc,c2,e2,hl,hr,hset⟩:=RepFs.nth h2 hi;have hlc:=RepF.length h1;refine⟨c++c1,cc,c2,by simp[e,e2],by simp[fsizes,hlc,hl],by rw[show j+(i+1)+1=j+1+i+1 by omega];exact hr,?_⟩
  intro g c' hg;refine⟨c,c1++c'++c2,by simp,h1,hset g c' (by rw[show j+(i+1)+1=j+1+i+1 by omega]at hg;exact hg)⟩
theorem RepFs.allI{s:Nat}:∀{fs:List F} {j:Nat} {cs:List Value} {l:List I},RepFs G σ w s j fs cs→allI fs=some l→RepIs G l cs
 | [],_,_,_,h,hl=>by
   simp only[Ab.allI,Option.some.injEq]at hl;subst hl;simpa only[RepIs,RepFs]using h
 | .i x::fs,j,cs,l,h,hl=>by
   simp only[Ab.allI]at hl;split at hl
   ·rename_i m hm;simp only[Option.some.injEq]at hl;subst hl;obtain⟨c,d,e,h1,h2⟩:=h;simp only[RepIs];exact⟨c,d,e,h1,RepFs.allI h2 hm⟩
   ·cases hl
 | .vec _ _ _::fs,j,cs,l,h,hl=>by simp[Ab.allI]at hl
theorem VecAt.row{lab:Nat × Nat}{e:TypeId}{sz:Nat}{l:List I}{c:Value}{b:Nat}(h:VecAt G σ w lab e sz l c)(hok:WOk G σ Fr w0 w)(hb:σ b=some lab)(hne:l≠[]):
 ∃bl xs post cap,c= .slice (some ⟨b,0,none⟩) l.length cap∧l.length≤cap∧cap≤maxLen∧bl.size=cap*sz∧Row w b e bl∧bl.toList=xs++post∧RepIs G l xs∧(∀x∈l,x.size=sz):=by
 obtain⟨xs,h1,h2,h3,h4⟩:=h;rcases h1.2 with⟨rfl,h0⟩|⟨g,cap,cur,rfl,_,hg,hn,hm,hs,ht⟩
 ·exact absurd (List.eq_nil_of_length_eq_zero h0) hne
 ·obtain rfl:=hok.inj b g lab hb (h4 g (by simp[Value.ownBlock]))
  exact⟨cur,xs,cur.toList.drop (l.length*sz),cap,rfl,hn,hm,hs,hg,by rw[←ht,List.take_append_drop],h2,h3⟩
theorem Q5{lab:Nat × Nat}{e:TypeId}{sz:Nat}{l:List I}{c:Value}{b off:Nat}{r:List Nat}{q:Hit}(h:VecAt G σ w lab e sz l c)(hok:WOk G σ Fr w0 w)(hb:σ b=some lab)
 (hh:hitV sz l r=some (off,q)):∃u,q= .item u∧∃bl pre cs post,Row w b e bl∧bl.toList=pre++cs++post∧pre.length=off∧RepI G u cs∧
   (∀u' cs',u'.size=u.size→RepI G u' cs'→VecAt G σ (w.setRow b (pre++cs'++post).toArray) lab e sz (putV l r u') c):=by
 cases r with
 |nil=>cases hh
 |cons i r=>
  simp only[hitV]at hh;cases hy:l[i]? with
  |none=>simp[hy]at hh
  |some y=>
   simp only[hy]at hh;obtain⟨p,v,h1,rfl,rfl⟩:=Pg hh;have hi:i<l.length:=(List.getElem?_eq_some_iff.1 hy).1;obtain⟨bl,xs,post,cap,hc,hn,hm,hs,hg,hbl,hr,hsz⟩:=h.row hok hb (by intro e;subst e;simp at hi)
   obtain⟨c1,cc,c2,e1,e2,e3,hset⟩:=RepIs.nth i hr hy;obtain⟨d1,d,d2,e4,e5,e6,hput⟩:=RepI.put r e3 h1;have htake:sizes (l.take i)=i*sz:=by
    rw[J3 (sz:=sz) fun z hz=>hsz z (List.mem_of_mem_take hz),List.length_take,Nat.min_eq_left (Nat.le_of_lt hi)]
   refine⟨v,rfl,bl,c1++d1,d,d2++c2++post,hg,by simp[hbl,e1,e4],by simp[e2,e5,htake],e6,?_⟩
   intro u' cs' hu hcs;have hnew:=hset _ _ (hput u' cs' hu hcs);have hl1:=RepI.length _ _ e6;have hl2:=RepI.length _ _ hcs;have hxl:xs.length=l.length*sz:=by rw[RepIs.length _ _ hr,J3 hsz]
   have hnl:(c1++(d1++cs'++d2)++c2).length=l.length*sz:=by
    rw[←hxl,e1,e4];simp[hl1,hl2,hu]
   have hsz':∀x∈putV l (i::r) u',x.size=sz:=by
    intro x hx;simp only[putV,hy]at hx;rcases List.mem_or_eq_of_mem_set hx with hx|hx
    ·exact hsz x hx
    ·subst hx;rw[I.put_size r h1 hu];exact hsz y (List.mem_of_getElem? hy)
   have hlen:(putV l (i::r) u').length=l.length:=by simp[putV,hy]
   have hbsz:(c1++d1++cs'++(d2++c2++post)).toArray.size=bl.size:=by
    have:bl.size=bl.toList.length:=by simp
    rw[this,hbl,e1,e4];simp[hl1,hl2,hu]
   refine⟨c1++(d1++cs'++d2)++c2,⟨by rw[hlen];exact hnl,.inr ⟨b,cap,_,by rw[hlen];exact hc,Nat.zero_le _,hg.set hbsz,by rw[hlen];exact hn,hm,?_,?_⟩⟩,?_,hsz',?_⟩
   ·have:bl.size=bl.toList.length:=by simp
    rw[←hs,this,hbl,e1,e4];simp[hl1,hl2,hu]
   ·rw[hlen,show(c1++d1++cs'++(d2++c2++post)).toArray.toList=(c1++(d1++cs'++d2)++c2)++post by simp, ←hnl]
    exact List.take_left
   ·simpa only[putV,hy]using hnew
   ·intro b' hb';rw[hc]at hb';simp only[Value.ownBlock,Option.some.injEq]at hb';subst hb';exact hb
theorem RepF.far{lab:Nat × Nat}{f:F}{cs:List Value}{b:Nat}(h:RepF G σ w lab f cs)(hb:σ b≠some lab)(row:Array Value):RepF G σ (w.setRow b row) lab f cs:=
 h.tr (Mem.le.refl G) fun b' hb'=>⟨hb',setRow_other w b b' row (by rintro rfl;exact hb hb')⟩
theorem RepFs.far{s j:Nat}{fs:List F}{cs:List Value}{b:Nat}(h:RepFs G σ w s j fs cs)(hb:∀k,j<k→σ b≠some (s,k))(row:Array Value):RepFs G σ (w.setRow b row) s j fs cs:=
 RepFs.tr (Mem.le.refl G) h fun b' k hj hb'=>⟨hb',setRow_other w b b' row (by rintro rfl;exact hb k hj hb')⟩
theorem Qv{s k off b:Nat}{sv:SV}{r:List Nat}{u:I}{c:Value}(hok:WOk G σ Fr w0 w)(ho:RepOwn G σ w s sv c)(hh:sv.hit k r=some (off,.item u))(hb:σ b=some (s,k)):
 ∃bl ty fz pre cs post,w.heap[b]?=some (.cells bl ty fz)∧(fz=(0,0)∨bl.size≤fz.1)∧bl.toList=pre++cs++post∧pre.length=off∧RepI G u cs∧
  ∀u' cs',u'.size=u.size→RepI G u' cs'→RepOwn G σ (w.setRow b (pre++cs'++post).toArray) s (sv.putAt k r u') c:=by
 cases k with
 |zero=>
  simp only[SV.hit]at hh;cases sv with
  |vec e sz l=>
   obtain⟨u',hu,bl,pre,cs,post,h1,h2,h3,h4,h5⟩:=Q5 ho hok hb hh;cases hu;obtain⟨ty,fz,h1,h1',_⟩:=h1;exact⟨bl,ty,fz,pre,cs,post,h1,h1',h2,h3,h4,h5⟩
  |box t=>
   obtain⟨b',cells,ty,h1,h2,h3,h4⟩:=ho;obtain rfl:=hok.inj b b' _ hb h2;cases t with
   |one f=>
    cases f with
    |i x=>
     obtain⟨p,v,h5,rfl,h6⟩:=Pg hh;cases h6;obtain⟨c1,cc,c2,e1,e2,e3,hput⟩:=RepI.put r h4 h5;refine⟨cells,ty,(0,0),c1,cc,c2,h3,.inl rfl,e1,by simpa using e2,e3,?_⟩
     intro u' cs' hu hcs;refine⟨b,_,ty,h1,h2,setRow_heap w b cells _ ty (0,0) h3,?_⟩;exact hput u' cs' hu hcs
    |vec e sz l=>cases r<;>simp at hh
   |st fs=>
    cases r with
    |nil=>
     simp only at hh;split at hh
     ·rename_i l hl;cases hh;refine⟨cells,ty,(0,0),[],cells.toList,[],h3,.inl rfl,by simp,rfl,RepFs.allI h4 hl,?_⟩
      intro u' cs' _ hcs;refine⟨b,_,ty,h1,h2,setRow_heap w b cells _ ty (0,0) h3,?_⟩;show RepI _ _ _;simpa[SV.putAt]using hcs
     ·cases hh
    |cons j r=>
     simp only at hh;split at hh
     ·rename_i y hy;obtain⟨p,v,h5,rfl,h6⟩:=Pg hh;cases h6;obtain⟨c1,cc,c2,e1,e2,e3,hset⟩:=RepFs.nth h4 hy;obtain⟨d1,d,d2,e4,e5,e6,hput⟩:=RepI.put r e3 h5;refine⟨cells,ty,(0,0),c1++d1,d,d2++c2,h3,.inl rfl,by simp[e1,e4],by simp[e2,e5],e6,?_⟩
      intro u' cs' hu hcs;simp only[SV.putAt,hy];refine⟨b,_,ty,h1,h2,setRow_heap w b cells _ ty (0,0) h3,?_⟩;have:=hset (.i (y.put r u')) _ (hput u' cs' hu hcs);have:=RepFs.far (b:=b) this (fun k hk e=>by rw[h2]at e;cases e;omega) (c1++d1++cs'++(d2++c2)).toArray
      show RepFs _ _ _ _ _ _ _;simpa using this
     ·split at hh<;>cases hh
     ·cases hh
  |_=>cases hh
 |succ j=>
  simp only[SV.hit]at hh;cases sv with
  |box t=>
   obtain⟨b',cells,ty,h1,h2,h3,h4⟩:=ho;have hbb:b'≠b:=by rintro rfl;rw[h2]at hb;cases hb
   cases t with
   |one f=>
    cases f with
    |i x=>simp[SV.vecAt]at hh
    |vec e sz l=>
     obtain⟨c',hc',h4⟩:=h4;by_cases hj:j=0
     ·subst hj;simp only[SV.vecAt]at hh;obtain⟨u',hu,bl,pre,cs,post,g1,g2,g3,g4,g5⟩:=Q5 h4 hok hb hh;cases hu;obtain⟨ty1,fz1,g1,g1',g1''⟩:=g1;refine⟨bl,ty1,fz1,pre,cs,post,g1,g1',g2,g3,g4,?_⟩;intro u' cs' hu hcs;refine⟨b',cells,ty,h1,h2,by rw[setRow_other w b b' _ hbb];exact h3,?_⟩
      exact⟨c',hc',g5 u' cs' hu hcs⟩
     ·have:(SV.box (.one (.vec e sz l))).vecAt (j+1)=none:=by
       unfold SV.vecAt;split<;>simp_all
      simp[this]at hh
   |st fs=>
    simp only[SV.vecAt]at hh;cases hf:fs[j]? with
    |none=>simp[hf]at hh
    |some f=>
     cases f with
     |i x=>simp[hf]at hh
     |vec e sz l=>
      simp only[hf]at hh;obtain⟨c1,cc,c2,e1,e2,e3,hset⟩:=RepFs.nth h4 hf;rw[Nat.zero_add]at e3 hset;obtain⟨c',hc',e3⟩:=e3;obtain⟨u',hu,bl,pre,cs,post,g1,g2,g3,g4,g5⟩:=Q5 e3 hok hb hh;cases hu;obtain⟨ty1,fz1,g1,g1',g1''⟩:=g1;refine⟨bl,ty1,fz1,pre,cs,post,g1,g1',g2,g3,g4,?_⟩;intro u' cs' hu hcs;simp only[SV.putAt,hf];refine⟨b',cells,ty,h1,h2,by rw[setRow_other w b b' _ hbb];exact h3,?_⟩
      show RepFs _ _ _ _ _ _ _;refine RepFs.setF (Mem.le.refl G) h4 hf (fun b'' k hne hb''=>⟨hb'',setRow_other w b b'' _ ?_⟩) fun cc hcc=>?_
      ·rintro rfl;rw[hb]at hb'';cases hb'';omega
      ·rw[Nat.zero_add]at hcc ⊢;obtain⟨c'',hc'',hcc⟩:=hcc;obtain⟨u'',hu2,bl2,pre2,cs2,post2,k1,k2,k3,k4,k5⟩:=Q5 hcc hok hb hh;cases hu2;obtain⟨ty2,fz2,k1,_⟩:=k1;rw[g1]at k1;cases k1;refine⟨c'',hc'',?_⟩;have hpre:pre2=pre∧cs2++post2=cs++post:=by
        have:pre2++(cs2++post2)=pre++(cs++post):=by rw[←List.append_assoc, ←k2,g2,List.append_assoc]
        exact List.append_inj this (by rw[k3,g3])
       have hpost:post2=post:=(List.append_inj hpre.2 (by rw[RepI.length _ _ k4,RepI.length _ _ g4])).2
       have:=k5 u' cs' hu hcs;rwa [hpre.1,hpost]at this
  |_=>simp[SV.vecAt]at hh
end
end Go.Ab

