/- Lemmas -/
import Derived.Test.YtkpojedpcabojaaGreatDoorAb2
set_option linter.unusedVariables false
set_option linter.unusedSimpArgs false
namespace Go.Ab
def Fn(P:Program)(f:FuncId)(args:List SV)(D8:SV→List SV→Prop):Prop:=
 ∀(G:Mem) (σ:Lab) (Fr:Mem) (w:World) (Fj:Array Value),Gc G σ Fr ⟨w,0, #[]⟩ w→Fj.size=args.length→
  (∀i sv,args[i]?=some sv→sv.root=none∧Dx G σ w i sv (Fj.getD i undef))→
  Calls P f Fj w fun e w'=>∃(r:SV) (az:List SV) (c:Value) (G':Mem) (σ':Lab),e= .returned c∧D8 r az∧G.le G'∧Gc G' σ' Fr ⟨w,0, #[]⟩ w'∧
   r.root=none∧Dx G' σ' w' args.length r c∧az.length=args.length∧∀i sv,az[i]?=some sv→sv.root=none∧Dx G' σ' w' i sv (Fj.getD i undef)
inductive M where
 |get (i:Nat) (k:Nat→SV→M)
 |Pd (i:Nat) (f:Nat→SV→Nat × SV) (k:Nat→SV→M)
 |set (i ver:Nat) (sv:SV) (k:M)
 |done
 |K8 (p:St→Prop)
 |fail
 |Co (p:Prop) (k:p→M)
 |all (p:Bool→Prop) (k:Bool→M)
 |any (l:List Nat) (k:Nat→M)
 |fact (p:Prop) (k:M)
 |ite (b:Bool) (x y:M)
 |call (f:FuncId) (args:List SV) (k:SV→List SV→M)
structure A5(P:Program)(f:FuncId)(args:List SV)(Q:SV→List SV→Prop):Prop where
 out:∃D8,Fn P f args D8∧∀r az,D8 r az→Q r az
structure Bkn(l:List Nat)(K:Nat→Prop):Prop where
 out:∀i,i∈l→K i
def M.wp(P:Program):M→(St→Prop)→St→Prop
 | .get i k,Q,st=>match st[i]? with
   |some cur=>(k cur.1 cur.2).wp P Q st
   |none=>False
 | .Pd i f k,Q,st=>match st[i]? with
   |some cur=>(k (f cur.1 cur.2).1 (f cur.1 cur.2).2).wp P Q st
   |none=>False
 | .set i ver sv k,Q,st=>k.wp P Q (st.set i (ver,sv))
 | .done,Q,st=>Q st
 | .K8 p,_,st=>p st
 | .fail,_,_=>False
 | .Co p k,Q,st=>∃h:p,(k h).wp P Q st
 | .all p k,Q,st=>∀b,p b→(k b).wp P Q st
 | .any l k,Q,st=>Bkn l fun i=>(k i).wp P Q st
 | .fact p k,Q,st=>p→k.wp P Q st
 | .ite b x y,Q,st=>(b=true→x.wp P Q st)∧(b=false→y.wp P Q st)
 | .call f args k,Q,st=>A5 P f args fun r az=>(k r az).wp P Q st
theorem M.wp_mono{P:Program}{Q Q':St→Prop}(hQ:∀st,Q st→Q' st):∀(m:M) (st:St),m.wp P Q st→m.wp P Q' st:=by
 intro m;induction m with
 |get i k ih=>
  intro st h;simp only[M.wp]at h ⊢;split at h
  ·exact ih _ _ _ h
  ·exact h
 |Pd i f k ih=>
  intro st h;simp only[M.wp]at h ⊢;split at h
  ·exact ih _ _ _ h
  ·exact h
 |set i ver sv k ih=>intro st h;exact ih _ h
 |done=>intro st h;exact hQ _ h
 |K8 p=>intro st h;exact h
 |fail=>intro st h;exact h
 |Co p k ih=>intro st ⟨h1,h2⟩;exact⟨h1,ih _ _ h2⟩
 |all p k ih=>intro st h b hb;exact ih _ _ (h b hb)
 |any l k ih=>intro st h;exact⟨fun i hi=>ih _ _ (h.out i hi)⟩
 |fact p k ih=>intro st h hp;exact ih _ (h hp)
 |ite b x y ihx ihy=>
  intro st h;exact⟨fun hb=>ihx _ (h.1 hb),fun hb=>ihy _ (h.2 hb)⟩
 |call f args k ih=>intro st ⟨D8,h1,h2⟩;exact⟨D8,h1,fun r az hp=>ih _ _ _ (h2 r az hp)⟩
inductive Bh where
 |t (n:Nat)
 |c (x:I)
 |Fo (e:TypeId) (sz:Nat)
 deriving Inhabited
def Ci(d:Option Nat)(sv:SV)(k:M):M:=match d with
 |some d=>.get d fun ver _=>.set d (ver+1) sv k
 |none=>k
def Qi(x:Bh)(k:I→M):M:=match x with
 | .c x=>k x
 | .Fo _ _=>k (.list [])
 | .t n=>.get n fun _ sv=>match sv with
   | .v x=>k x
   |_=>.fail
section
variable{P:Program}{N:Nat}{G:Mem}{σ:Lab}{Fr:Mem}{w0:Base}{w:World}{st:St}{a:Act}
theorem Rel.slot(h:Rel G σ Fr w0 st a w){n ver:Nat}{sv:SV}(Di:n<w0.n)(hn:st[n]?=some (ver,sv)):Fa G σ w st (val a w0) n sv (a.eval (.tmp n)):=by
 have:=h.Bj n ver sv hn;rwa [G9 (by rw[h.n];exact Di)]at this
def Sound(P:Program)(N:Nat)(o:Oper)(m:M):Prop:=
 ∀(G:Mem) (σ:Lab) (Fr:Mem) (w0:Base) (st:St) (a:Act) (w:World) (Q:St→Prop) (next:Act→World→Prop) (E:Exit→Act→World→Prop),
  w0.n=N→Rel G σ Fr w0 st a w→m.wp P Q st→
  (∀G' σ' st' a' w',G.le G'→Rel G' σ' Fr w0 st' a' w'→Q st'→next a' w')→(∀d,o.dst=some d→d<w0.n)→o.wp P a w next E
theorem Df{o:Oper}{next:Act→World→Prop}{E:Exit→Act→World→Prop}{v:Value}{w':World}
 (h:(execOp a.eval o).run P w= .ok (.value v) w') (k:next (a.put o.dst v) w'):o.wp P a w next E:=by
 unfold Oper.wp;rw[h];exact k
theorem Abj{o:Oper}{next:Act→World→Prop}{E:Exit→Act→World→Prop}{w':World}
 (h:(execOp a.eval o).run P w= .ok .skip w') (k:next (a.put o.dst undef) w'):o.wp P a w next E:=by
 unfold Oper.wp;rw[h];exact k
theorem Rel.Ci{Q:St→Prop}{d:Option Nat}{sv:SV}{c:Value}(h:Rel G σ Fr w0 st a w)(hb:∀d',d=some d'→d'<w0.n)
 (Ge:∀d',d=some d'→∀ver,(st.set d' (ver,sv))[d']?=some (ver,sv)→Fa G (σ.drop d') w (st.set d' (ver,sv)) (val (a.put (some d') c) w0) d' sv c)
 (hq:(Ci d sv .done).wp P Q st) (hp:∀h,sv= .par h→c=val a w0 h∧w0.n≤h:=by intro _ e;cases e)
 (X9:∀inv t,sv≠ .own inv t:=by intro _ _ e;cases e):∃σ' st',Rel G σ' Fr w0 st' (a.put d c) w∧Q st':=by
 cases d with
 |none=>exact⟨σ,st,h,hq⟩
 |some d=>
  simp only[Ab.Ci,M.wp]at hq;cases hd:st[d]? with
  |none=>simp[hd]at hq
  |some cur=>
   simp only[hd]at hq;have Di:d<st.length:=(Ak.1 hd).1;exact⟨σ.drop d,_,h.put (hb d rfl) (h.Bz.drop d) (Mem.le.refl G) hd (Bk _) (fun s' hs=>Kept.drop σ w hs)
    (Ge d rfl (cur.1+1) (by simp[Di])) hp (fun inv t e=>absurd e (X9 inv t)),hq⟩
theorem A31{x:Bh}{k:I→M}{Q:St→Prop}(h:(Qi x k).wp P Q st):
 ∃i,(k i).wp P Q st∧((∃n ver,x= .t n∧st[n]?=some (ver,.v i))∨x= .c i∨(∃e sz,x= .Fo e sz∧i= .list [])):=by
 cases x with
 |c i=>exact⟨i,h,.inr (.inl rfl)⟩
 |Fo e sz=>exact⟨_,h,.inr (.inr ⟨e,sz,rfl,rfl⟩)⟩
 |t n=>
  simp only[Qi,M.wp]at h;cases hn:st[n]? with
  |none=>simp[hn]at h
  |some cur=>
   obtain⟨ver,sv⟩:=cur;simp only[hn]at h;cases sv with
   |v i=>exact⟨i,h,.inl ⟨n,ver,rfl,hn⟩⟩
   |_=>simp[M.wp]at h
end
def cOk:I→Value→Bool
 | .int k n,.int k' n'=>k==k'&&n==n'
 | .bool b,.bool b'=>b==b'
 | .str s,.string t=>s==t.data.toList&&s.length≤maxLen
 | .fn f,.func (.func g) a b=>f==g&&a.isEmpty&&b.isEmpty
 | .Afo,.nilIface=>true
 | .Ra,.pointer none=>true
 | .Aiy,.map none=>true
 | .list [],.slice none 0 0=>true
 |_,_=>false
theorem A02{x:I}{c:Value}(h:cOk x c=true)(G:Mem):Bb G x c:=by
 unfold cOk at h;split at h
 ·simp only[Ad,beq_iff_eq]at h;simp[Bb,I.isAgg,Bi,h]
 ·simp only[beq_iff_eq]at h;simp[Bb,I.isAgg,Bi,h]
 ·rename_i s t;simp only[Ad,beq_iff_eq,decide_eq_true_eq]at h;obtain⟨h1,h2⟩:=h;subst h1;unfold Bb;rw[if_neg (by simp[I.isAgg])]
  exact⟨rfl,h2⟩
 ·simp only[Ad,beq_iff_eq,Array.isEmpty_iff]at h;obtain⟨⟨h1,h2⟩,h3⟩:=h;simp[Bb,I.isAgg,Bi,h1,h2,h3]
 ·simp[Bb,I.isAgg,Bi]
 ·simp[Bb,I.isAgg,Bi]
 ·simp[Bb,I.isAgg,Bi]
 ·unfold Bb;rw[if_neg (by simp[I.isAgg])]
  exact⟨none,0,rfl,Ay _,by simp[maxLen],.inl rfl⟩
 ·cases h
def Bu(N:Nat):Operand→Bh→Bool
 | .tmp n,.t m=>n==m&&n<N
 | .const c,.c x=>cOk x c
 | .const (.slice none 0 0),.Fo _ _=>true
 | .func f,.c (.fn g)=>f==g
 |_,_=>false
theorem Gb{N:Nat}{x:Operand}{n:Nat}(h:Bu N x (.t n)=true):x= .tmp n∧n<N:=by
 cases x<;>simp only[Bu,Ad,beq_iff_eq,decide_eq_true_eq]at h
 ·obtain⟨rfl,h⟩:=h;exact⟨rfl,h⟩
 ·cases h
 ·cases h
 ·cases h
section
variable{P:Program}{N:Nat}{G:Mem}{σ:Lab}{Fr:Mem}{w0:Base}{w:World}{st:St}{a:Act}
theorem Ud{x:Operand}{i:I}(h:Bu N x (.c i)=true)(G:Mem):Bb G i (a.eval x):=by
 unfold Bu at h;split at h
 ·simp_all
 ·rename_i c y he;cases he;exact A02 h G
 ·simp_all
 ·rename_i f g he;cases he;simp only[beq_iff_eq]at h;subst h;simp[Bb,I.isAgg,Bi,Act.eval]
 ·cases h
theorem Nj{x:Operand}{e:TypeId}{sz:Nat}(h:Bu N x (.Fo e sz)=true):a.eval x= .slice none 0 0:=by
 unfold Bu at h;split at h<;>simp_all [Act.eval]
theorem Hs{x:Operand}{y:Bh}{k:I→M}{Q:St→Prop}(h:Rel G σ Fr w0 st a w)(ho:Bu w0.n x y=true)(hq:(Qi y k).wp P Q st):
 ∃i,(k i).wp P Q st∧Bb G i (a.eval x):=by
 obtain⟨i,h1,h2⟩:=A31 hq;refine⟨i,h1,?_⟩;rcases h2 with⟨n,ver,rfl,hn⟩|rfl|⟨e,sz,rfl,rfl⟩
 ·obtain⟨rfl,Ej⟩:=Gb ho;exact h.slot Ej hn
 ·exact Ud ho G
 ·rw[Nj ho];unfold Bb;rw[if_neg (by simp[I.isAgg])]
  exact⟨none,0,rfl,Ay _,by simp[maxLen],.inl rfl⟩
end

open Go.Op
def Bbk(d:Option Nat)(x:Bh):M:=match x with
 | .c x=>Ci d (.v x) .done
 | .Fo e sz=>Ci d (.vec e sz []) .done
 | .t n=>.get n fun ver sv=>match sv with
   | .v x=>Ci d (.v x) .done
   | .vec _ _ _=>.Co (d≠some n) fun _=>Ci d (.Km n 0 ver) .done
   | .box _=>.Co (d≠some n) fun _=>Ci d (.pt n 0 ver 0 []) .done
   | .Km s k ver=>.Co (d≠some s) fun _=>Ci d (.Km s k ver) .done
   | .sub s k ver m=>.Co (d≠some s) fun _=>Ci d (.sub s k ver m) .done
   | .Q2 s k ver m=>.Co (d≠some s) fun _=>Ci d (.Q2 s k ver m) .done
   | .pt s k ver off r=>.Co (d≠some s) fun _=>Ci d (.pt s k ver off r) .done
   | .rp x=>Ci d (.rp x) .done
   | .F4 _=>.fail
   | .Mp _=>.fail
   | .sit _ _=>.fail
   | .mit _ _ _ _=>.fail
   | .yl _=>.Co (d≠some n) fun _=>Ci d (.al n ver) .done
   | .al _ _=>.fail
   | .cl f fs cs=>.Co (∀e∈fs++cs,d≠some e.1) fun _=>Ci d (.cl f fs cs) .done
   | .Qg _ _ _ _=>.fail
   | .bp _ _ _=>.fail
   | .Px _ _ _ _ _=>.fail
   | .Lv _ _ _ _=>.fail
   | .st _=>.fail
   | .no=>Ci d .no .done
   | .par h=>.get h fun ver sv=>.Co (d≠some h) fun _=>match sv with
     | .box _=>Ci d (.pt h 0 ver 0 []) .done
     | .vec _ _ _=>Ci d (.Km h 0 ver) .done
     | .own _ t=>match t with
       | .ptr _=>Ci d (.pd h ver [0]) .done
       | .vec _ _ _=>Ci d (.bd h ver []) .done
       | .map _ _=>Ci d (.bd h ver []) .done
       |_=>.fail
     |_=>.fail
   | .own _ t=>.Co (d≠some n) fun _=>match t with
     | .ptr _=>Ci d (.pd n ver [0]) .done
     | .vec _ _ _=>Ci d (.bd n ver []) .done
     | .map _ _=>Ci d (.bd n ver []) .done
     |_=>.fail
   | .pd s ver p=>.Co (d≠some s) fun _=>Ci d (.pd s ver p) .done
   | .bd s ver p=>.Co (d≠some s) fun _=>Ci d (.bd s ver p) .done
   | .bs s ver p lo m=>.Co (d≠some s) fun _=>Ci d (.bs s ver p lo m) .done
def A5h(op:BinOp)(k:IntKind)(a b:Int):Option I:=match op with
 | .add=>some (.int k (k.wrap (a+b)))
 | .sub=>some (.int k (k.wrap (a - b)))
 | .mul=>some (.int k (k.wrap (a*b)))
 | .eql=>some (.bool (decide (a=b)))
 | .neq=>some (.bool (!decide (a=b)))
 | .lss=>some (.bool (decide (a<b)))
 | .leq=>some (.bool (decide (a≤b)))
 | .gtr=>some (.bool (decide (b<a)))
 | .geq=>some (.bool (decide (b≤a)))
 |_=>none
def Bco(op:BinOp)(s t:List UInt8):Option I:=match op with
 | .eql=>some (.bool (decide (s=t)))
 | .neq=>some (.bool (!decide (s=t)))
 | .lss=>some (.bool (bytesLess s t))
 | .leq=>some (.bool (bytesLess s t||decide (s=t)))
 | .gtr=>some (.bool (!(bytesLess s t||decide (s=t))))
 | .geq=>some (.bool (!bytesLess s t))
 |_=>none
def A39(b:Bool)(x y:I)(k:I→M):M:=match b with
 |true=>k x
 |false=>k y
def Bo2(op:BinOp)(x y:I)(k:I→M):M:=match x,y with
 | .int ka a,.int kb b=>if ka=kb then match A5h op ka a b with
  |some r=>k r
  |none=>.fail
   else .fail
 | .str s,.str t=>match op with
   | .add=>.Co (s.length+t.length≤maxLen) fun _=>k (.str (s++t))
   |op=>match Bco op s t with
    |some r=>k r
    |none=>.fail
 |_,_=>.fail
def Bgg(d:Option Nat)(op:BinOp)(x y:Bh):M:=Qi x fun i=>Qi y fun j=>Bo2 op i j fun r=>Ci d (.v r) .done
section
variable{P:Program}{N:Nat}{G:Mem}{σ:Lab}{Fr:Mem}{w0:Base}{w:World}{st:St}{a:Act}
theorem Bb.int{k:IntKind}{n:Int}{c:Value}:Bb G (.int k n) c↔c= .int k n:=by simp[Bb,I.isAgg,Bi]
theorem Bb.bool{b:Bool}{c:Value}:Bb G (.bool b) c↔c= .bool b:=by simp[Bb,I.isAgg,Bi]
theorem Bb.str{s:List UInt8}{c:Value}:Bb G (.str s) c↔c= .string ⟨⟨s⟩⟩∧s.length≤maxLen:=by simp[Bb,I.isAgg,Bi]
theorem beq_eq(m n:Int):(m==n)=decide (m=n):=by rw[Bool.eq_iff_iff];simp
theorem bne_eq(m n:Int):(m != n)= !decide (m=n):=by simp[bne,beq_eq]
theorem Rel.Awx{Q:St→Prop}{d:Option Nat}{x:I}{c:Value}(h:Rel G σ Fr w0 st a w)(hb:∀d',d=some d'→d'<w0.n)(hc:Bb G x c)(hq:(Ab.Ci d (.v x) .done).wp P Q st):
 ∃σ' st',Rel G σ' Fr w0 st' (a.put d c) w∧Q st':=h.Ci hb (sv:=.v x) (fun _ _ _ _=>hc) hq
theorem Bg5{op:BinOp}{s t:List UInt8}{r:I}(h:Bco op s t=some r):∃b,r= .bool b∧Op.stringOp op ⟨⟨s⟩⟩ ⟨⟨t⟩⟩= .pure (.bool b):=by
 have e:∀l:List UInt8,(⟨⟨l⟩⟩:ByteArray).toList=l:=fun l=>by simp
 cases op<;>simp only[Bco]at h<;>first|cases h|skip
 all_goals refine⟨_,rfl,?_⟩
 all_goals simp only[Op.stringOp,e]
 all_goals first
  |rfl
  |(have:(s==t)=decide (s=t):=by(rw[Bool.eq_iff_iff];simp)
    rw[this];rfl)
theorem Bcw{op:BinOp}{k:IntKind}{m n:Int}{r:I}(h:A5h op k m n=some r)(G:Mem):∃v,Bb G r v∧
 ∀t w,(binOp op t (.int k m) (.int k n)).run P w= .ok v w:=by
 cases op<;>simp only[A5h]at h<;>first|cases h|skip
 all_goals first
  |exact⟨_,Bb.int.2 rfl,fun t w=>by simp[Go.binOp,Op.intArith]⟩
  |exact⟨_,Bb.bool.2 rfl,fun t w=>by simp[Go.binOp,Op.intCmp,beq_eq,bne_eq]⟩
theorem Bgr{o:Oper}{op:BinOp}{t u:TypeId}{x y:Operand}{x' y':Bh}(ho:o.op= .binOp op t x y u)(hx:Bu N x x'=true)(hy:Bu N y y'=true):
 Sound P N o (Bgg o.dst op x' y'):=by
 intro G σ Fr w0 st a w Q next E hN hr hw hn A9
 subst hN;obtain⟨i,h1,hi⟩:=Hs hr hx hw;clear hw;obtain⟨j,hw,hj⟩:=Hs hr hy h1;clear h1;unfold Bo2 at hw;split at hw
 ·rename_i ka m kb n;split at hw
  ·rename_i hk;subst hk;split at hw
   ·rename_i r Wb;obtain⟨v,hv,Ez⟩:=Bcw (P:=P) Wb G;obtain⟨σ',st',h1,h2⟩:=hr.Awx A9 hv hw;refine Df (v:=v) (w':=w) ?_ (hn G σ' st' _ w (Mem.le.refl G) h1 h2);rw[Bb.int]at hi hj;simp only[execOp,ho,hi,hj];simp[eqGuard,Ez]
   ·exact hw.elim
  ·exact hw.elim
 ·rename_i s s' ;rw[Bb.str]at hi hj;split at hw
  ·obtain⟨hl,hw⟩:=hw;obtain⟨σ',st',h1,h2⟩:=hr.Awx A9 (c:=.string ⟨⟨s++s'⟩⟩) (Bb.str.2 ⟨rfl,by simpa using hl⟩) hw
   refine Df (v:=.string ⟨⟨s++s'⟩⟩) (w':=w) ?_ (hn G σ' st' _ w (Mem.le.refl G) h1 h2);simp only[execOp,ho,hi.1,hj.1];have h63:¬(((⟨⟨s⟩⟩:ByteArray).size+(⟨⟨s'⟩⟩:ByteArray).size:Nat):Int)>IntKind.i64.max:=by
    simp only[maxLen]at hl;show ¬((s.length+s'.length:Nat):Int)>9223372036854775807;omega
   have he:(⟨⟨s⟩⟩:ByteArray)++⟨⟨s'⟩⟩=⟨⟨s++s'⟩⟩:=by
    apply ByteArray.ext;simp
   simp only[eqGuard,Go.binOp,Op.stringOp];rw[if_neg h63];simp[he]
  ·split at hw
   ·rename_i r Wb;obtain⟨b,rfl,Ez⟩:=Bg5 Wb;obtain⟨σ',st',h1,h2⟩:=hr.Awx A9 (c:=.bool b) (Bb.bool.2 rfl) hw;refine Df (v:=.bool b) (w':=w) ?_ (hn G σ' st' _ w (Mem.le.refl G) h1 h2);simp only[execOp,ho,hi.1,hj.1];simp[eqGuard,Go.binOp,Ez]
   ·exact hw.elim
 ·exact hw.elim
theorem Gn{o:Oper}{Q:St→Prop}{next:Act→World→Prop}{E:Exit→Act→World→Prop}{r:I}{v:Value}(hr:Rel G σ Fr w0 st a w)
 (hn:∀G' σ' st' a' w',G.le G'→Rel G' σ' Fr w0 st' a' w'→Q st'→next a' w') (A9:∀d,o.dst=some d→d<w0.n) (hv:Bb G r v) (hq:(Ci o.dst (.v r) .done).wp P Q st)
 (Ez:(execOp a.eval o).run P w= .ok (.value v) w):o.wp P a w next E:=by
 obtain⟨σ',st',h1,h2⟩:=hr.Awx A9 hv hq;exact Df Ez (hn G σ' st' _ w (Mem.le.refl G) h1 h2)
def Bgj(d:Option Nat)(x:Bh):M:=Qi x fun i=>match i with
 | .bool b=>Ci d (.v (.bool (!b))) .done
 |_=>.fail
theorem Bgy{o:Oper}{t:TypeId}{x:Operand}{x':Bh}(ho:o.op= .unOp .not t x)(hx:Bu N x x'=true):Sound P N o (Bgj o.dst x'):=by
 intro G σ Fr w0 st a w Q next E hN hr hw hn A9
 subst hN;obtain⟨i,h1,hi⟩:=Hs hr hx hw;clear hw;split at h1
 ·rename_i b;rw[Bb.bool]at hi;exact Gn hr hn A9 (Bb.bool.2 rfl) h1 (by simp[execOp,ho,hi,Op.unary])
 ·exact h1.elim
def A8r(d:Option Nat)(c x y:Bh):M:=Qi c fun i=>match i with
 | .bool b=>.ite b (Qi x fun j=>Ci d (.v j) .done) (Qi y fun j=>Ci d (.v j) .done)
 |_=>.fail
theorem Bca{o:Oper}{c x y:Operand}{c' x' y':Bh}(ho:o.op= .pick c x y)(hc:Bu N c c'=true)(hx:Bu N x x'=true)(hy:Bu N y y'=true):
 Sound P N o (A8r o.dst c' x' y'):=by
 intro G σ Fr w0 st a w Q next E hN hr hw hn A9
 subst hN;obtain⟨i,h1,hi⟩:=Hs hr hc hw;clear hw;split at h1
 ·rename_i b;rw[Bb.bool]at hi;cases hb:b with
  |true=>
   obtain⟨j,h2,hj⟩:=Hs hr hx (h1.1 hb);exact Gn hr hn A9 hj h2 (by simp[execOp,ho,hi,hb,asBool])
  |false=>
   obtain⟨j,h2,hj⟩:=Hs hr hy (h1.2 hb);exact Gn hr hn A9 hj h2 (by simp[execOp,ho,hi,hb,asBool])
 ·exact h1.elim
theorem A41{o:Oper}{x:Operand}{x':Bh}(ho:o.op= .move x∨o.op= .assign x)(hx:Bu N x x'=true):Sound P N o (Bbk o.dst x'):=by
 intro G σ Fr w0 st a w Q next E hN hr hw hn A9
 subst hN;have Ez:(execOp a.eval o).run P w= .ok (.value (a.eval x)) w:=by
  rcases ho with ho|ho<;>simp[execOp,ho]
 have fin:∀{sv:SV} (_:(Ci o.dst sv .done).wp P Q st)
  (_:∀d',o.dst=some d'→∀ver,(st.set d' (ver,sv))[d']?=some (ver,sv)→Fa G (σ.drop d') w (st.set d' (ver,sv)) (val (a.put (some d') (a.eval x)) w0) d' sv (a.eval x))
  (_:∀h,sv≠ .par h:=by intro _ e;cases e) (_:∀inv t,sv≠ .own inv t:=by intro _ _ e;cases e),o.wp P a w next E:=by
  intro sv hq Ge hnp X9;obtain⟨σ',st',h1,h2⟩:=hr.Ci A9 Ge hq (fun h e=>absurd e (hnp h)) X9
  exact Df Ez (hn G σ' st' _ w (Mem.le.refl G) h1 h2)
 have look:∀{d' n:Nat} {p q:Nat × SV},o.dst=some d'→o.dst≠some n→st[n]?=some p→(st.set d' q)[n]?=some p:=by
  intro d' n p q hd A2 hp;rw[Az]
  ·exact hp
  ·rintro rfl;exact A2 hd
 cases x' with
 |c i=>exact Gn hr hn A9 (Ud hx G) hw Ez
 |Fo e sz=>
  refine fin hw fun d' _ ver _=>?_
  rw[Nj hx];exact⟨[],Lx.nil w e sz,by simp[B4],by simp,by simp[Value.ownBlock]⟩
 |t n=>
  obtain⟨rfl,Ej⟩:=Gb hx;simp only[Bbk,M.wp]at hw;cases hs:st[n]? with
  |none=>simp[hs]at hw
  |some cur=>
   obtain⟨ver,sv⟩:=cur;simp only[hs]at hw;have Ba:=hr.slot Ej hs;cases sv with
   |v y=>exact Gn hr hn A9 Ba hw Ez
   |no=>exact fin hw fun _ _ _ _=>trivial
   |rp y=>exact fin hw fun _ _ _ _=>Ba
   |vec e sz l=>
    obtain⟨A2,hw⟩:=hw;refine fin hw fun d' hd _ _=>⟨_,look hd A2 hs,Ay _,fun _=>⟨e,sz,l,rfl,?_⟩⟩
    exact Fg.tr Ba (Mem.le.refl G) fun b hb=>⟨Lab.D1.2 ⟨fun e=>A2 (by rw[hd,e]),hb⟩,rfl⟩
   |box t=>
    obtain⟨A2,hw⟩:=hw;obtain⟨b,cells,ty,h1,h2,_⟩:=Ba;refine fin hw fun d' hd _ _=>⟨_,look hd A2 hs,Ay _,fun _=>⟨b,Lab.D1.2 ⟨fun e=>A2 (by rw[hd,e]),h2⟩,h1⟩⟩
   |Km s k Cn=>
    obtain⟨A2,hw⟩:=hw;obtain⟨cur,h1,h2,h3⟩:=Ba;refine fin hw fun d' hd _ _=>⟨cur,look hd A2 h1,h2,fun e=>?_⟩
    obtain⟨e,sz,l,h4,h5⟩:=h3 e;exact⟨e,sz,l,h4,h5.tr (Mem.le.refl G) fun b hb=>⟨Lab.D1.2 ⟨fun e=>A2 (by rw[hd,e]),hb⟩,rfl⟩⟩
   |sub s k Cn m=>
    obtain⟨A2,hw⟩:=hw;obtain⟨cur,h1,h2,h3⟩:=Ba;refine fin hw fun d' hd _ _=>⟨cur,look hd A2 h1,h2,fun e=>?_⟩
    obtain⟨e,sz,l,h4,h5⟩:=h3 e;exact⟨e,sz,l,h4,h5.tr (Mem.le.refl G) fun b hb=>⟨Lab.D1.2 ⟨fun e=>A2 (by rw[hd,e]),hb⟩,rfl⟩⟩
   |Q2 s k Cn m=>
    obtain⟨A2,hw⟩:=hw;obtain⟨cur,h1,h2,h3⟩:=Ba;refine fin hw fun d' hd _ _=>⟨cur,look hd A2 h1,h2,fun e=>?_⟩
    obtain⟨e,sz,l,c0,h4,h5,h6⟩:=h3 e;exact⟨e,sz,l,c0,h4,h5.tr (Mem.le.refl G) fun b hb=>⟨Lab.D1.2 ⟨fun e=>A2 (by rw[hd,e]),hb⟩,rfl⟩,h6⟩
   |pt s k Cn off r=>
    obtain⟨A2,hw⟩:=hw;obtain⟨cur,h1,h2,h3⟩:=Ba;refine fin hw fun d' hd _ _=>⟨cur,look hd A2 h1,h2,fun e=>?_⟩
    obtain⟨b,h4,h5⟩:=h3 e;exact⟨b,Lab.D1.2 ⟨fun e=>A2 (by rw[hd,e]),h4⟩,h5⟩
   |F4 fs=>exact hw.elim
   |Mp fs=>exact hw.elim
   |sit _ _=>exact hw.elim
   |mit _ _ _ _=>exact hw.elim
   |yl _=>
    obtain⟨A2,hw⟩:=hw;refine fin hw fun d' hd _ _=>⟨_,look hd A2 hs,Ay _,fun _=>?_⟩
    rw[Db (by rintro rfl;exact A2 hd)]
    exact(G9 (by rw[hr.n];exact Ej)).symm
   |al _ _=>exact hw.elim
   |cl f fs cs=>
    obtain⟨A2,hw⟩:=hw;obtain⟨us,ws,e1,e2,e3⟩:=Ba;refine fin hw fun d' hd ver _=>⟨us,ws,e1,Hu.put (fun h hh=>Db hh) (fun e he ed=>A2 e (E5 _ he) (by rw[hd,ed])) e2,Hu.put (fun h hh=>Db hh) (fun e he ed=>A2 e (Fi _ he) (by rw[hd,ed])) e3⟩
   |Qg _ _ _ _=>exact hw.elim
   |bp _ _ _=>exact hw.elim
   |Px _ _ _ _ _=>exact hw.elim
   |Lv _ _ _ _=>exact hw.elim
   |st fs=>exact hw.elim
   |par h=>
    obtain⟨hv,hle⟩:=hr.Nv n ver h hs;rw[G9 (by rw[hr.n];exact Ej)]at hv
    simp only[M.wp]at hw;cases hh:st[h]? with
    |none=>simp[hh]at hw
    |some cur=>
     obtain⟨Cn,Ek⟩:=cur;simp only[hh]at hw;obtain⟨A2,hw⟩:=hw;have Fy:=hr.Bj h Cn Ek hh;rw[←hv]at Fy;split at hw
     ·obtain⟨b,cells,ty,h1,h2,_⟩:=Fy;refine fin hw fun d' hd _ _=>⟨_,look hd A2 hh,Ay _,fun _=>⟨b,Lab.D1.2 ⟨fun e=>A2 (by rw[hd,e]),h2⟩,h1⟩⟩
     ·rename_i e sz l;refine fin hw fun d' hd _ _=>⟨_,look hd A2 hh,Ay _,fun _=>⟨e,sz,l,rfl,?_⟩⟩
      exact Fg.tr Fy (Mem.le.refl G) fun b hb=>⟨Lab.D1.2 ⟨fun e=>A2 (by rw[hd,e]),hb⟩,rfl⟩
     ·rename_i inv t;have Fm:Dr G σ w h t (val a w0 h):=by rw[←hv];exact Fy
      split at hw
      ·refine fin hw fun d' hd _ _=>⟨_,look hd A2 hh,Ay _,fun Kj t' e _ _=>?_⟩
       cases e;rw[Db (fun e=>A2 (by rw[hd,e])),hv]
       exact Fm.pt
      ·refine fin hw fun d' hd _ _=>⟨_,look hd A2 hh,Ay _,fun Kj t' e _=>?_⟩
       cases e;rw[Db (fun e=>A2 (by rw[hd,e])),hv]
       exact Fm.hd rfl
      ·refine fin hw fun d' hd _ _=>⟨_,look hd A2 hh,Ay _,fun Kj t' e _=>?_⟩
       cases e;rw[Db (fun e=>A2 (by rw[hd,e])),hv]
       exact Fm.hd rfl
      ·exact hw.elim
     ·exact hw.elim
   |own inv t=>
    obtain⟨A2,hw⟩:=hw;have hv:val a w0 n=a.eval (.tmp n):=G9 (by rw[hr.n];exact Ej)
    have Fm:Dr G σ w n t (val a w0 n):=by rw[hv];exact Ba
    split at hw
    ·refine fin hw fun d' hd _ _=>⟨_,look hd A2 hs,Ay _,fun Kj t' e _ _=>?_⟩
     cases e;rw[Db (fun e=>A2 (by rw[hd,e])), ←hv]
     exact Fm.pt
    ·refine fin hw fun d' hd _ _=>⟨_,look hd A2 hs,Ay _,fun Kj t' e _=>?_⟩
     cases e;rw[Db (fun e=>A2 (by rw[hd,e])), ←hv]
     exact Fm.hd rfl
    ·refine fin hw fun d' hd _ _=>⟨_,look hd A2 hs,Ay _,fun Kj t' e _=>?_⟩
     cases e;rw[Db (fun e=>A2 (by rw[hd,e])), ←hv]
     exact Fm.hd rfl
    ·exact hw.elim
   |pd s Cn p=>
    obtain⟨A2,hw⟩:=hw;obtain⟨cur,h1,h2,h3⟩:=Ba;refine fin hw fun d' hd _ _=>⟨cur,look hd A2 h1,h2,fun inv t e hp ha=>?_⟩
    rw[Db (fun e=>A2 (by rw[hd,e]))]
    exact h3 inv t e hp ha
   |bs s Cn p lo m=>
    obtain⟨A2,hw⟩:=hw;obtain⟨cur,h1,h2,h3⟩:=Ba;refine fin hw fun d' hd _ _=>⟨cur,look hd A2 h1,h2,fun e0 inv t e=>?_⟩
    rw[Db (fun e=>A2 (by rw[hd,e]))]
    exact h3 e0 inv t e
   |bd s Cn p=>
    obtain⟨A2,hw⟩:=hw;obtain⟨cur,h1,h2,h3⟩:=Ba;refine fin hw fun d' hd _ _=>⟨cur,look hd A2 h1,h2,fun inv t e ha=>?_⟩
    rw[Db (fun e=>A2 (by rw[hd,e]))]
    exact h3 inv t e ha
end

section
variable{P:Program}{N:Nat}{G:Mem}{σ:Lab}{Fr:Mem}{w0:Base}{w:World}{st:St}{a:Act}
def Lab.move(σ:Lab)(n d:Nat):Lab:=fun b=>match σ b with
 |some (s,k)=>if s=n then some (d,k)else if s=d then none else some (s,k)
 |none=>none
theorem Lab.Bfy{n d b k:Nat}(h:σ b=some (n,k)):σ.move n d b=some (d,k):=by simp[Lab.move,h]
theorem Lab.Bjt{n d b s k:Nat}(h:σ b=some (s,k))(h1:s≠n)(h2:s≠d):σ.move n d b=some (s,k):=by simp[Lab.move,h,h1,h2]
theorem Lab.Arp{n d b s k:Nat}(h:σ.move n d b=some (s,k)):(s=d∧σ b=some (n,k))∨(s≠n∧s≠d∧σ b=some (s,k)):=by
 unfold Lab.move at h;split at h
 ·rename_i s' k' hb;split at h
  ·rename_i e;simp only[Af,B6]at h;obtain⟨rfl,rfl⟩:=h;exact .inl ⟨rfl,by rw[hb,e]⟩
  ·rename_i e;split at h
   ·cases h
   ·rename_i e';simp only[Af,B6]at h;obtain⟨rfl,rfl⟩:=h;exact .inr ⟨e,e',hb⟩
 ·cases h
theorem Gc.move(h:Gc G σ Fr w0 w)(n d:Nat):Gc G (σ.move n d) Fr w0 w:=by
 refine⟨h.fixed,?_,?_,h.frame,h.os,h.tape,h.output,h.size,h.apart,h.Mv⟩
 ·rintro b ⟨s,k⟩ hb;rcases Lab.Arp hb with⟨_,hb⟩|⟨_,_,hb⟩<;>exact h.own b _ hb
 ·rintro b b' ⟨s,k⟩ hb Dc;rcases Lab.Arp hb with⟨h1,hb⟩|⟨h1,h2,hb⟩<;>rcases Lab.Arp Dc with⟨h3,Dc⟩|⟨h3,h4,Dc⟩
  ·exact h.inj b b' _ hb Dc
  ·exact absurd h1 h4
  ·exact absurd h3 h2
  ·exact h.inj b b' _ hb Dc
theorem Rel.move{n d ver Cn:Nat}{sv:SV}{old:Nat × SV}{v1:Nat}{c:Value}(h:Rel G σ Fr w0 st a w)(Up:d<w0.n)(hn:st[n]?=some (v1,sv))(hd:st[d]?=some old)(A2:d≠n)
 (hv:v1<ver) (Na:old.1<Cn) (hr:sv.root=none) (hc:Dx G σ w n sv c) (hnp:∀h,sv≠ .par h:=by intro _ e;cases e):
 Rel G (σ.move n d) Fr w0 ((st.set n (ver,.no)).set d (Cn,sv.fresh Cn)) (a.put (some d) c) w:=by
 have h1:=h.drop hn hv;refine h1.put Up (h.Bz.move n d) (Mem.le.refl G) (old:=old) (by rw[Az (Ne.symm A2)];exact hd) Na ?_ ?_ (fun h e=>absurd (Amq.1 e) (hnp h)) W0
 ·intro s' Hf b k hb;obtain⟨h2,h3⟩:=Lab.D1.1 hb;exact⟨Lab.Bjt h3 h2 Hf,rfl⟩
 ·rw[Fa.own (by rw[Aia];exact hr),Amr]
  exact Dx.tr hc (Mem.le.refl G) fun b k hb=>⟨Lab.Bfy hb,rfl⟩
def SV.Ad8:SV→Nat→SV
 | .vec _ _ l,0=>.v (.list l)
 | .box (.one (.vec _ _ l)),1=>.box (.one (.i (.list l)))
 | .box (.st fs),j+1=>match fs[j]? with
   |some (.vec _ _ l)=>.box (.st (fs.set j (.i (.list l))))
   |_=>.box (.st fs)
 |sv,_=>sv
theorem Fg.list{G':Mem}{Ca:Nat × Nat}{e:TypeId}{sz:Nat}{l:List I}{c:Value}(h:Fg G σ w Ca e sz l c)(hG:G.le G')
 (hb:∀b,σ b=some Ca→G' b=w.heap[b]?):Bb G' (.list l) c:=by
 obtain⟨xs,h1,h2,h3,h4⟩:=h;unfold Bb;rw[if_neg (by simp[I.isAgg])]
 rcases h1.2 with⟨rfl,h0⟩|⟨g,cap,cur,rfl,_,hg,hn,hm,hs,ht⟩
 ·refine⟨none,0,by rw[h0],by omega,by simp[maxLen],.inl (Dg h0)⟩
 ·obtain⟨ty,fz,hg,_⟩:=hg;refine⟨_,cap,rfl,hn,hm,.inr ⟨g,0,cur,ty,fz,sz,rfl,?_,h3,?_,?_⟩⟩
  ·rw[hb g (h4 g (by simp[Value.ownBlock]))];exact hg
  ·rw[hs,Bm];exact C7 _ hn
  ·rw[List.drop_zero,ht];exact B4.mono hG l xs h2
theorem Aap{l:List I}{c:Value}(h:Bb G (.list l) c):Bi G (.list l) [c]:=by
 unfold Bb at h;rwa [if_neg (by simp[I.isAgg])]at h
theorem Gw.Bbm{G':Mem}{σ':Lab}{w':World}{s:Nat}{f':F}(hG:G.le G'):∀{fs:List F} {j i:Nat} {cs:List Value} {f:F},Gw G σ w s j fs cs→fs[i]?=some f→
 (∀b k,k≠j+i+1→σ b=some (s,k)→σ' b=some (s,k)∧w'.heap[b]?=w.heap[b]?)→(∀c,S6 G σ w (s,j+i+1) f c→S6 G' σ' w' (s,j+i+1) f' c)→
 Gw G' σ' w' s j (fs.set i f') cs
 | [],_,i,_,_,_,h,_,_=>by simp at h
 |f::fs,j,0,cs,f0,h,hi,hk,hv=>by
  simp only[B9,Af]at hi;subst hi;obtain⟨c,d,ecs,h1,h2⟩:=h;simp only[F7,Gw];exact⟨c,d,ecs,hv c h1,Gw.tr hG h2 fun b k hjk hb=>hk b k (by omega) hb⟩
 |f::fs,j,i+1,cs,f0,h,hi,hk,hv=>by
  simp only[Bn]at hi;obtain⟨c,d,ecs,h1,h2⟩:=h;simp only[E9,Gw];refine⟨c,d,ecs,S6.tr h1 hG fun b hb=>hk b (j+1) (by omega) hb,?_⟩
  have e:j+(i+1)+1=j+1+i+1:=by omega
  rw[e]at hv;exact Gw.Bbm hG h2 hi (fun b k A2 hb=>hk b k (by omega) hb) hv
def Lab.Sk(σ:Lab)(Ca:Nat × Nat):Lab:=fun b=>if σ b=some Ca then none else σ b
theorem Lab.J0{Ca Tb:Nat × Nat}{b:Nat}:σ.Sk Ca b=some Tb↔Tb≠Ca∧σ b=some Tb:=by
 unfold Lab.Sk;split
 ·rename_i h;constructor
  ·intro x;cases x
  ·rintro⟨h1,h2⟩;rw[h]at h2;cases h2;exact absurd rfl h1
 ·rename_i h;constructor
  ·intro x;exact⟨fun e=>h (by rw[x,e]),x⟩
  ·exact fun x=>x.2
def Mem.fix(G:Mem)(σ:Lab)(w:World)(Ca:Nat × Nat):Mem:=fun b=>if σ b=some Ca then w.heap[b]? else G b
theorem Mem.Bpe(Dj:Gc G σ Fr w0 w)(Ca:Nat × Nat):G.le (G.fix σ w Ca):=by
 intro b o hb;unfold Mem.fix;split
 ·rename_i h;rw[(Dj.own b Ca h).1]at hb;cases hb
 ·exact hb
theorem Mem.Bh4{Ca:Nat × Nat}{b:Nat}(h:σ b=some Ca):G.fix σ w Ca b=w.heap[b]?:=by simp[Mem.fix,h]
theorem Rel.freeze{s k ver Cn:Nat}{sv:SV}{e:TypeId}{sz:Nat}{l:List I}(h:Rel G σ Fr w0 st a w)(hs:st[s]?=some (ver,sv))(hv:sv.Fu k=some (e,sz,l))(Di:ver<Cn):
 ∃G' σ',G.le G'∧Rel G' σ' Fr w0 (st.set s (Cn,sv.Ad8 k)) a w∧
  (∀m c,Fg G σ w (s,k) e sz m c→Bb G' (.list m) c)∧∀b,σ b=none→G b=none→σ' b=none∧G' b=none:=by
 have hG:=Mem.Bpe h.Bz (s,k);have Az7:∀m c,Fg G σ w (s,k) e sz m c→Bb (G.fix σ w (s,k)) (.list m) c:=fun m c hc=>hc.list hG fun b hb=>Mem.Bh4 hb
 refine⟨G.fix σ w (s,k),σ.Sk (s,k),hG,?_,Az7,fun b h1 h2=>⟨by simp[Lab.Sk,h1],by simp[Mem.fix,h1,h2]⟩⟩
 have Dj:Gc (G.fix σ w (s,k)) (σ.Sk (s,k)) Fr w0 w:=by
  refine⟨?_,?_,?_,h.Bz.frame,h.Bz.os,h.Bz.tape,h.Bz.output,h.Bz.size,?_,Amb.mono hG h.Bz.Mv⟩
  rotate_right
  ·intro b o hb;unfold Mem.fix;rw[if_neg (by intro e;have:=(h.Bz.own b _ e).2.1;rw[hb]at this;cases this)]
   exact h.Bz.apart b o hb
  ·intro b o hb;unfold Mem.fix at hb;split at hb
   ·exact hb
   ·exact h.Bz.fixed b o hb
  ·intro b Ca hb;obtain⟨h1,h2⟩:=Lab.J0.1 hb;obtain⟨h3,h4,h5⟩:=h.Bz.own b Ca h2;refine⟨?_,h4,h5⟩;unfold Mem.fix;rw[if_neg (by rw[h2];intro e;cases e;exact h1 rfl)]
   exact h3
  ·intro b b' Ca hb Dc;exact h.Bz.inj b b' Ca (Lab.J0.1 hb).2 (Lab.J0.1 Dc).2
 refine Rel.self (new:=sv.Ad8 k) (ver:=Cn) h Dj hG hs Di
  (fun s' Hf b k' hb=>⟨Lab.J0.2 ⟨fun e=>Hf (by cases e;rfl),hb⟩,rfl⟩) ?_ (by
    intro h e;unfold SV.Ad8 at e;repeat' split at e
    all_goals first|(subst e;rw[Aon]at hv;cases hv)|cases e) (by
    intro inv t e;exfalso;unfold SV.Ad8 at e;repeat' split at e
    all_goals first|(subst e;cases k<;>cases hv)|cases e)
 ·have hold:=h.Bj s ver sv hs;generalize val a w0 s=c at hold ⊢;unfold SV.Fu at hv;split at hv
  ·cases hv;exact Az7 _ _ hold
  ·cases hv;obtain⟨b,cells,ty,h1,h2,h3,h4⟩:=hold;refine⟨b,cells,ty,h1,Lab.J0.2 ⟨by simp,h2⟩,h3,?_⟩
   obtain⟨c',hc',h4⟩:=h4;show Bi _ _ _;rw[hc'];exact Aap (Az7 _ _ h4)
  ·rename_i fs j;split at hv
   ·rename_i e' Ex l' hf;cases hv;obtain⟨b,cells,ty,h1,h2,h3,h4⟩:=hold;simp only[SV.Ad8,hf];refine⟨b,cells,ty,h1,Lab.J0.2 ⟨by simp,h2⟩,h3,?_⟩
    refine Gw.Bbm hG h4 hf (fun b k A2 hb=>⟨Lab.J0.2 ⟨fun e=>A2 (by cases e;omega),hb⟩,rfl⟩) fun c hc=>?_
    obtain⟨c',rfl,hc⟩:=hc;exact Aap (Az7 _ _ (by rw[Bm]at hc;exact hc))
   ·cases hv
  ·cases hv
end

def F.size:F→Nat
 | .i x=>x.size
 | .vec _ _ _=>1
def Agd:List F→Nat
 | []=>0
 |f::fs=>f.size+Agd fs
def allI:List F→Option (List I)
 | []=>some []
 | .i x::fs=>match allI fs with
   |some l=>some (x::l)
   |none=>none
 | .vec _ _ _::_=>none
inductive Hit where
 |item (u:I)
 |vec (k:Nat)
 deriving Inhabited
def Av9(o:Nat):Option (Nat × I)→Option (Nat × Hit)
 |some (p,u)=>some (o+p,.item u)
 |none=>none
def Awa(sz:Nat)(l:List I):List Nat→Option (Nat × Hit)
 |i::r=>match l[i]? with
  |some y=>Av9 (i*sz) (y.sub r)
  |none=>none
 | []=>none
def SV.hit(sv:SV)(k:Nat)(r:List Nat):Option (Nat × Hit):=match k with
 |0=>match sv with
  | .box (.one (.i x))=>Av9 0 (x.sub r)
  | .box (.one (.vec _ _ _))=>match r with
    | []=>some (0,.vec 1)
    |_::_=>none
  | .box (.st fs)=>match r with
    | []=>match allI fs with
      |some l=>some (0,.item (.agg l))
      |none=>none
    |j::r=>match fs[j]? with
     |some (.i y)=>Av9 (Agd (fs.take j)) (y.sub r)
     |some (.vec _ _ _)=>match r with
      | []=>some (Agd (fs.take j),.vec (j+1))
      |_::_=>none
     |none=>none
  | .vec _ sz l=>Awa sz l r
  |_=>none
 |j+1=>match sv.Fu (j+1)with
  |some (_,sz,l)=>Awa sz l r
  |none=>none
def Ajc(l:List I)(r:List Nat)(u:I):List I:=match r with
 |i::r=>match l[i]? with
  |some y=>l.set i (y.put r u)
  |none=>l
 | []=>l
def SV.putAt(sv:SV)(k:Nat)(r:List Nat)(u:I):SV:=match k with
 |0=>match sv with
  | .box (.one (.i x))=>.box (.one (.i (x.put r u)))
  | .box (.st fs)=>match r with
    |j::r=>match fs[j]? with
     |some (.i y)=>.box (.st (fs.set j (.i (y.put r u))))
     |_=>sv
    | []=>.box (.one (.i u))
  | .vec e sz l=>.vec e sz (Ajc l r u)
  |sv=>sv
 |j+1=>match sv with
  | .box (.one (.vec e sz l))=>.box (.one (.vec e sz (Ajc l r u)))
  | .box (.st fs)=>match fs[j]? with
    |some (.vec e sz l)=>.box (.st (fs.set j (.vec e sz (Ajc l r u))))
    |_=>sv
  |sv=>sv
section
variable{P:Program}{N:Nat}{G:Mem}{σ:Lab}{Fr:Mem}{w0:Base}{w:World}{st:St}{a:Act}
theorem Zr{o off:Nat}{q:Option (Nat × I)}{u:Hit}(h:Av9 o q=some (off,u)):∃p v,q=some (p,v)∧off=o+p∧u= .item v:=by
 cases q with
 |none=>cases h
 |some q=>
  obtain⟨p,v⟩:=q;simp only[Av9,Af,B6]at h;exact⟨p,v,rfl,h.1.symm,h.2.symm⟩
theorem S6.length{Ca:Nat × Nat}{f:F}{cs:List Value}(h:S6 G σ w Ca f cs):cs.length=f.size:=by
 cases f with
 |i x=>exact Bi.length x cs h
 |vec e sz l=>obtain⟨c,rfl,_⟩:=h;rfl
theorem Gw.nth{s:Nat}:∀{fs:List F} {j i:Nat} {cs:List Value} {f:F},Gw G σ w s j fs cs→fs[i]?=some f→
 ∃c1 c c2,cs=c1++c++c2∧c1.length=Agd (fs.take i)∧S6 G σ w (s,j+i+1) f c∧
  (∀f' c',S6 G σ w (s,j+i+1) f' c'→Gw G σ w s j (fs.set i f') (c1++c'++c2))
 | [],_,i,_,_,_,h=>by simp at h
 |f::fs,j,0,cs,f',h,hi=>by
  simp only[B9,Af]at hi;subst hi;obtain⟨c,d,e,h1,h2⟩:=h;refine⟨[],c,d,by simpa using e,by simp[Agd],h1,?_⟩
  intro g c' hg;exact⟨c',d,by simp,hg,h2⟩
 |f::fs,j,i+1,cs,f',h,hi=>by
  simp only[Bn]at hi;obtain⟨c,d,e,h1,h2⟩:=h;obtain⟨c1,cc,c2,e2,hl,hr,Fq⟩:=Gw.nth h2 hi;have Tg:=S6.length h1;refine⟨c++c1,cc,c2,by simp[e,e2],by simp[Agd,Tg,hl],by rw[show j+(i+1)+1=j+1+i+1 by omega];exact hr,?_⟩
  intro g c' hg;refine⟨c,c1++c'++c2,by simp,h1,Fq g c' (by rw[show j+(i+1)+1=j+1+i+1 by omega]at hg;exact hg)⟩
theorem Gw.allI{s:Nat}:∀{fs:List F} {j:Nat} {cs:List Value} {l:List I},Gw G σ w s j fs cs→allI fs=some l→B4 G l cs
 | [],_,_,_,h,hl=>by
   simp only[Ab.allI,Af]at hl;subst hl;simpa only[B4,Gw]using h
 | .i x::fs,j,cs,l,h,hl=>by
   simp only[Ab.allI]at hl;split at hl
   ·rename_i m hm;simp only[Af]at hl;subst hl;obtain⟨c,d,e,h1,h2⟩:=h;simp only[B4];exact⟨c,d,e,h1,Gw.allI h2 hm⟩
   ·cases hl
 | .vec _ _ _::fs,j,cs,l,h,hl=>by simp[Ab.allI]at hl
theorem Fg.row{Ca:Nat × Nat}{e:TypeId}{sz:Nat}{l:List I}{c:Value}{b:Nat}(h:Fg G σ w Ca e sz l c)(Dj:Gc G σ Fr w0 w)(hb:σ b=some Ca)(A2:l≠[]):
 ∃bl xs post cap,c= .slice (some ⟨b,0,none⟩) l.length cap∧l.length≤cap∧cap≤maxLen∧bl.size=cap*sz∧Row w b e bl∧bl.toList=xs++post∧B4 G l xs∧(∀x∈l,x.size=sz):=by
 obtain⟨xs,h1,h2,h3,h4⟩:=h;rcases h1.2 with⟨rfl,h0⟩|⟨g,cap,cur,rfl,_,hg,hn,hm,hs,ht⟩
 ·exact absurd (Dg h0) A2
 ·obtain rfl:=Dj.inj b g Ca hb (h4 g (by simp[Value.ownBlock]))
  exact⟨cur,xs,cur.toList.drop (l.length*sz),cap,rfl,hn,hm,hs,hg,by rw[←ht,B3],h2,h3⟩
theorem Aed{Ca:Nat × Nat}{e:TypeId}{sz:Nat}{l:List I}{c:Value}{b off:Nat}{r:List Nat}{q:Hit}(h:Fg G σ w Ca e sz l c)(Dj:Gc G σ Fr w0 w)(hb:σ b=some Ca)
 (hh:Awa sz l r=some (off,q)):∃u,q= .item u∧∃bl pre cs post,Row w b e bl∧bl.toList=pre++cs++post∧pre.length=off∧Bi G u cs∧
   (∀u' Jw,u'.size=u.size→Bi G u' Jw→Fg G σ (w.setRow b (pre++Jw++post).toArray) Ca e sz (Ajc l r u') c):=by
 cases r with
 |nil=>cases hh
 |cons i r=>
  simp only[Awa]at hh;cases hy:l[i]? with
  |none=>simp[hy]at hh
  |some y=>
   simp only[hy]at hh;obtain⟨p,v,h1,rfl,rfl⟩:=Zr hh;have hi:i<l.length:=(Ak.1 hy).1;obtain⟨bl,xs,post,cap,hc,hn,hm,hs,hg,hbl,hr,Cq⟩:=h.row Dj hb (by intro e;subst e;simp at hi)
   obtain⟨c1,cc,c2,e1,e2,e3,Fq⟩:=B4.nth i hr hy;obtain⟨d1,d,d2,e4,e5,e6,G8⟩:=Bi.put r e3 h1;have Bai:sizes (l.take i)=i*sz:=by
    rw[Ht (sz:=sz) fun z hz=>Cq z (C6 hz),Ck,Da (Nat.le_of_lt hi)]
   refine⟨v,rfl,bl,c1++d1,d,d2++c2++post,hg,by simp[hbl,e1,e4],by simp[e2,e5,Bai],e6,?_⟩
   intro u' Jw hu Kr;have Ge:=Fq _ _ (G8 u' Jw hu Kr);have hl1:=Bi.length _ _ e6;have Tf:=Bi.length _ _ Kr;have hxl:xs.length=l.length*sz:=by rw[B4.length _ _ hr,Ht Cq]
   have hnl:(c1++(d1++Jw++d2)++c2).length=l.length*sz:=by
    rw[←hxl,e1,e4];simp[hl1,Tf,hu]
   have Arf:∀x∈Ajc l (i::r) u',x.size=sz:=by
    intro x hx;simp only[Ajc,hy]at hx;rcases E0 hx with hx|hx
    ·exact Cq x hx
    ·subst hx;rw[I.A3w r h1 hu];exact Cq y (Aw hy)
   have hlen:(Ajc l (i::r) u').length=l.length:=by simp[Ajc,hy]
   have Bwj:(c1++d1++Jw++(d2++c2++post)).toArray.size=bl.size:=by
    have:bl.size=bl.toList.length:=by simp
    rw[this,hbl,e1,e4];simp[hl1,Tf,hu]
   refine⟨c1++(d1++Jw++d2)++c2,⟨by rw[hlen];exact hnl,.inr ⟨b,cap,_,by rw[hlen];exact hc,A3 _,hg.set Bwj,by rw[hlen];exact hn,hm,?_,?_⟩⟩,?_,Arf,?_⟩
   ·have:bl.size=bl.toList.length:=by simp
    rw[←hs,this,hbl,e1,e4];simp[hl1,Tf,hu]
   ·rw[hlen,show(c1++d1++Jw++(d2++c2++post)).toArray.toList=(c1++(d1++Jw++d2)++c2)++post by simp, ←hnl]
    exact Gt
   ·simpa only[Ajc,hy]using Ge
   ·intro b' Dc;rw[hc]at Dc;simp only[Value.ownBlock,Af]at Dc;subst Dc;exact hb
theorem S6.far{Ca:Nat × Nat}{f:F}{cs:List Value}{b:Nat}(h:S6 G σ w Ca f cs)(hb:σ b≠some Ca)(row:Array Value):S6 G σ (w.setRow b row) Ca f cs:=
 h.tr (Mem.le.refl G) fun b' Dc=>⟨Dc,setRow_other w b b' row (by rintro rfl;exact hb Dc)⟩
theorem Gw.far{s j:Nat}{fs:List F}{cs:List Value}{b:Nat}(h:Gw G σ w s j fs cs)(hb:∀k,j<k→σ b≠some (s,k))(row:Array Value):Gw G σ (w.setRow b row) s j fs cs:=
 Gw.tr (Mem.le.refl G) h fun b' k hj Dc=>⟨Dc,setRow_other w b b' row (by rintro rfl;exact hb k hj Dc)⟩
theorem Ach{s k off b:Nat}{sv:SV}{r:List Nat}{u:I}{c:Value}(Dj:Gc G σ Fr w0 w)(ho:Dx G σ w s sv c)(hh:sv.hit k r=some (off,.item u))(hb:σ b=some (s,k)):
 ∃bl ty fz pre cs post,w.heap[b]?=some (.cells bl ty fz)∧(fz=(0,0)∨bl.size≤fz.1)∧bl.toList=pre++cs++post∧pre.length=off∧Bi G u cs∧
  ∀u' Jw,u'.size=u.size→Bi G u' Jw→Dx G σ (w.setRow b (pre++Jw++post).toArray) s (sv.putAt k r u') c:=by
 cases k with
 |zero=>
  simp only[SV.hit]at hh;cases sv with
  |vec e sz l=>
   obtain⟨u',hu,bl,pre,cs,post,h1,h2,h3,h4,h5⟩:=Aed ho Dj hb hh;cases hu;obtain⟨ty,fz,h1,h1',_⟩:=h1;exact⟨bl,ty,fz,pre,cs,post,h1,h1',h2,h3,h4,h5⟩
  |box t=>
   obtain⟨b',cells,ty,h1,h2,h3,h4⟩:=ho;obtain rfl:=Dj.inj b b' _ hb h2;cases t with
   |one f=>
    cases f with
    |i x=>
     obtain⟨p,v,h5,rfl,h6⟩:=Zr hh;cases h6;obtain⟨c1,cc,c2,e1,e2,e3,G8⟩:=Bi.put r h4 h5;refine⟨cells,ty,(0,0),c1,cc,c2,h3,.inl rfl,e1,by simpa using e2,e3,?_⟩
     intro u' Jw hu Kr;refine⟨b,_,ty,h1,h2,setRow_heap w b cells _ ty (0,0) h3,?_⟩;exact G8 u' Jw hu Kr
    |vec e sz l=>cases r<;>simp at hh
   |st fs=>
    cases r with
    |nil=>
     simp only at hh;split at hh
     ·rename_i l hl;cases hh;refine⟨cells,ty,(0,0),[],cells.toList,[],h3,.inl rfl,by simp,rfl,Gw.allI h4 hl,?_⟩
      intro u' Jw _ Kr;refine⟨b,_,ty,h1,h2,setRow_heap w b cells _ ty (0,0) h3,?_⟩;show Bi _ _ _;simpa[SV.putAt]using Kr
     ·cases hh
    |cons j r=>
     simp only at hh;split at hh
     ·rename_i y hy;obtain⟨p,v,h5,rfl,h6⟩:=Zr hh;cases h6;obtain⟨c1,cc,c2,e1,e2,e3,Fq⟩:=Gw.nth h4 hy;obtain⟨d1,d,d2,e4,e5,e6,G8⟩:=Bi.put r e3 h5;refine⟨cells,ty,(0,0),c1++d1,d,d2++c2,h3,.inl rfl,by simp[e1,e4],by simp[e2,e5],e6,?_⟩
      intro u' Jw hu Kr;simp only[SV.putAt,hy];refine⟨b,_,ty,h1,h2,setRow_heap w b cells _ ty (0,0) h3,?_⟩;have:=Fq (.i (y.put r u')) _ (G8 u' Jw hu Kr);have:=Gw.far (b:=b) this (fun k hk e=>by rw[h2]at e;cases e;omega) (c1++d1++Jw++(d2++c2)).toArray
      show Gw _ _ _ _ _ _ _;simpa using this
     ·split at hh<;>cases hh
     ·cases hh
  |_=>cases hh
 |succ j=>
  simp only[SV.hit]at hh;cases sv with
  |box t=>
   obtain⟨b',cells,ty,h1,h2,h3,h4⟩:=ho;have hbb:b'≠b:=by rintro rfl;rw[h2]at hb;cases hb
   cases t with
   |one f=>
    cases f with
    |i x=>simp[SV.Fu]at hh
    |vec e sz l=>
     obtain⟨c',hc',h4⟩:=h4;by_cases hj:j=0
     ·subst hj;simp only[SV.Fu]at hh;obtain⟨u',hu,bl,pre,cs,post,g1,g2,g3,g4,g5⟩:=Aed h4 Dj hb hh;cases hu;obtain⟨ty1,fz1,g1,g1',Bv3⟩:=g1;refine⟨bl,ty1,fz1,pre,cs,post,g1,g1',g2,g3,g4,?_⟩;intro u' Jw hu Kr;refine⟨b',cells,ty,h1,h2,by rw[setRow_other w b b' _ hbb];exact h3,?_⟩
      exact⟨c',hc',g5 u' Jw hu Kr⟩
     ·have:(SV.box (.one (.vec e sz l))).Fu (j+1)=none:=by
       unfold SV.Fu;split<;>simp_all
      simp[this]at hh
   |st fs=>
    simp only[SV.Fu]at hh;cases hf:fs[j]? with
    |none=>simp[hf]at hh
    |some f=>
     cases f with
     |i x=>simp[hf]at hh
     |vec e sz l=>
      simp only[hf]at hh;obtain⟨c1,cc,c2,e1,e2,e3,Fq⟩:=Gw.nth h4 hf;rw[Bm]at e3 Fq;obtain⟨c',hc',e3⟩:=e3;obtain⟨u',hu,bl,pre,cs,post,g1,g2,g3,g4,g5⟩:=Aed e3 Dj hb hh;cases hu;obtain⟨ty1,fz1,g1,g1',Bv3⟩:=g1;refine⟨bl,ty1,fz1,pre,cs,post,g1,g1',g2,g3,g4,?_⟩;intro u' Jw hu Kr;simp only[SV.putAt,hf];refine⟨b',cells,ty,h1,h2,by rw[setRow_other w b b' _ hbb];exact h3,?_⟩
      show Gw _ _ _ _ _ _ _;refine Gw.Bbm (Mem.le.refl G) h4 hf (fun b'' k A2 Bid=>⟨Bid,setRow_other w b b'' _ ?_⟩) fun cc hcc=>?_
      ·rintro rfl;rw[hb]at Bid;cases Bid;omega
      ·rw[Bm]at hcc ⊢;obtain⟨c'',Bwk,hcc⟩:=hcc;obtain⟨u'',hu2,bl2,Bsk,cs2,Ba9,k1,k2,k3,k4,k5⟩:=Aed hcc Dj hb hh;cases hu2;obtain⟨ty2,fz2,k1,_⟩:=k1;rw[g1]at k1;cases k1;refine⟨c'',Bwk,?_⟩;have Vy:Bsk=pre∧cs2++Ba9=cs++post:=by
        have:Bsk++(cs2++Ba9)=pre++(cs++post):=by rw[←A8, ←k2,g2,A8]
        exact List.append_inj this (by rw[k3,g3])
       have Ats:Ba9=post:=(List.append_inj Vy.2 (by rw[Bi.length _ _ k4,Bi.length _ _ g4])).2
       have:=k5 u' Jw hu Kr;rwa [Vy.1,Ats]at this
  |_=>simp[SV.Fu]at hh
end
end Go.Ab

