/- Lemmas -/
import Derived.Test.YtkpojedpcabojaaGreatDoorAb2
set_option linter.unusedVariables false
set_option linter.unusedSimpArgs false
namespace Go.Ab
def Fn(P:Program)(f:FuncId)(args:List SV)(Ad3:SV→List SV→Prop):Prop:=
 ∀(G:Mem) (σ:Lab) (Fr:Mem) (w:World) (Ahz:Array Value),WOk G σ Fr ⟨w,0, #[]⟩ w→Ahz.size=args.length→
  (∀i sv,args[i]?=some sv→sv.root=none∧Ab1 G σ w i sv (Ahz.getD i undef))→
  Calls P f Ahz w fun e w'=>∃(r:SV) (az:List SV) (c:Value) (G':Mem) (σ':Lab),e= .returned c∧Ad3 r az∧G.le G'∧WOk G' σ' Fr ⟨w,0, #[]⟩ w'∧
   r.root=none∧Ab1 G' σ' w' args.length r c∧az.length=args.length∧∀i sv,az[i]?=some sv→sv.root=none∧Ab1 G' σ' w' i sv (Ahz.getD i undef)
inductive M where
 |get (i:Nat) (k:Nat→SV→M)
 |Atf (i:Nat) (f:Nat→SV→Nat × SV) (k:Nat→SV→M)
 |set (i ver:Nat) (sv:SV) (k:M)
 |done
 |chk (p:St→Prop)
 |fail
 |Hh (p:Prop) (k:p→M)
 |all (p:Bool→Prop) (k:Bool→M)
 |any (l:List Nat) (k:Nat→M)
 |fact (p:Prop) (k:M)
 |ite (b:Bool) (x y:M)
 |call (f:FuncId) (args:List SV) (k:SV→List SV→M)
structure Ct(P:Program)(f:FuncId)(args:List SV)(Q:SV→List SV→Prop):Prop where
 out:∃Ad3,Fn P f args Ad3∧∀r az,Ad3 r az→Q r az
structure Bji(l:List Nat)(K:Nat→Prop):Prop where
 out:∀i,i∈l→K i
def M.wp(P:Program):M→(St→Prop)→St→Prop
 | .get i k,Q,st=>match st[i]? with
   |some cur=>(k cur.1 cur.2).wp P Q st
   |none=>False
 | .Atf i f k,Q,st=>match st[i]? with
   |some cur=>(k (f cur.1 cur.2).1 (f cur.1 cur.2).2).wp P Q st
   |none=>False
 | .set i ver sv k,Q,st=>k.wp P Q (st.set i (ver,sv))
 | .done,Q,st=>Q st
 | .chk p,_,st=>p st
 | .fail,_,_=>False
 | .Hh p k,Q,st=>∃h:p,(k h).wp P Q st
 | .all p k,Q,st=>∀b,p b→(k b).wp P Q st
 | .any l k,Q,st=>Bji l fun i=>(k i).wp P Q st
 | .fact p k,Q,st=>p→k.wp P Q st
 | .ite b x y,Q,st=>(b=true→x.wp P Q st)∧(b=false→y.wp P Q st)
 | .call f args k,Q,st=>Ct P f args fun r az=>(k r az).wp P Q st
theorem M.wp_mono{P:Program}{Q Q':St→Prop}(hQ:∀st,Q st→Q' st):∀(m:M) (st:St),m.wp P Q st→m.wp P Q' st:=by
 intro m;induction m with
 |get i k ih=>
  intro st h;simp only[M.wp]at h ⊢;split at h
  ·exact ih _ _ _ h
  ·exact h
 |Atf i f k ih=>
  intro st h;simp only[M.wp]at h ⊢;split at h
  ·exact ih _ _ _ h
  ·exact h
 |set i ver sv k ih=>intro st h;exact ih _ h
 |done=>intro st h;exact hQ _ h
 |chk p=>intro st h;exact h
 |fail=>intro st h;exact h
 |Hh p k ih=>intro st ⟨h1,h2⟩;exact⟨h1,ih _ _ h2⟩
 |all p k ih=>intro st h b hb;exact ih _ _ (h b hb)
 |any l k ih=>intro st h;exact⟨fun i hi=>ih _ _ (h.out i hi)⟩
 |fact p k ih=>intro st h hp;exact ih _ (h hp)
 |ite b x y ihx ihy=>
  intro st h;exact⟨fun hb=>ihx _ (h.1 hb),fun hb=>ihy _ (h.2 hb)⟩
 |call f args k ih=>intro st ⟨Ad3,h1,h2⟩;exact⟨Ad3,h1,fun r az hp=>ih _ _ _ (h2 r az hp)⟩
inductive D6 where
 |t (n:Nat)
 |c (x:I)
 |Ahc (e:TypeId) (sz:Nat)
 deriving Inhabited
def Gj(d:Option Nat)(sv:SV)(k:M):M:=match d with
 |some d=>.get d fun ver _=>.set d (ver+1) sv k
 |none=>k
def rdI(x:D6)(k:I→M):M:=match x with
 | .c x=>k x
 | .Ahc _ _=>k (.list [])
 | .t n=>.get n fun _ sv=>match sv with
   | .v x=>k x
   |_=>.fail
section
variable{P:Program}{N:Nat}{G:Mem}{σ:Lab}{Fr:Mem}{w0:Base}{w:World}{st:St}{a:Act}
theorem Rel.slot(h:Rel G σ Fr w0 st a w){n ver:Nat}{sv:SV}(Ze:n<w0.n)(hn:st[n]?=some (ver,sv)):Ait G σ w st (val a w0) n sv (a.eval (.tmp n)):=by
 have:=h.Eb n ver sv hn;rwa [J2 (by rw[h.n];exact Ze)]at this
def Sound(P:Program)(N:Nat)(o:Oper)(m:M):Prop:=
 ∀(G:Mem) (σ:Lab) (Fr:Mem) (w0:Base) (st:St) (a:Act) (w:World) (Q:St→Prop) (next:Act→World→Prop) (E:Exit→Act→World→Prop),
  w0.n=N→Rel G σ Fr w0 st a w→m.wp P Q st→
  (∀G' σ' st' a' w',G.le G'→Rel G' σ' Fr w0 st' a' w'→Q st'→next a' w')→(∀d,o.dst=some d→d<w0.n)→o.wp P a w next E
theorem Jt{o:Oper}{next:Act→World→Prop}{E:Exit→Act→World→Prop}{v:Value}{w':World}
 (h:(execOp a.eval o).run P w= .ok (.value v) w') (k:next (a.put o.dst v) w'):o.wp P a w next E:=by
 unfold Oper.wp;rw[h];exact k
theorem Pz{o:Oper}{next:Act→World→Prop}{E:Exit→Act→World→Prop}{w':World}
 (h:(execOp a.eval o).run P w= .ok .skip w') (k:next (a.put o.dst undef) w'):o.wp P a w next E:=by
 unfold Oper.wp;rw[h];exact k
theorem Rel.Gj{Q:St→Prop}{d:Option Nat}{sv:SV}{c:Value}(h:Rel G σ Fr w0 st a w)(hb:∀d',d=some d'→d'<w0.n)
 (Ak3:∀d',d=some d'→∀ver,(st.set d' (ver,sv))[d']?=some (ver,sv)→Ait G (σ.drop d') w (st.set d' (ver,sv)) (val (a.put (some d') c) w0) d' sv c)
 (hq:(Gj d sv .done).wp P Q st) (hp:∀h,sv= .par h→c=val a w0 h∧w0.n≤h:=by intro _ e;cases e)
 (hno:∀inv t,sv≠ .own inv t:=by intro _ _ e;cases e):∃σ' st',Rel G σ' Fr w0 st' (a.put d c) w∧Q st':=by
 cases d with
 |none=>exact⟨σ,st,h,hq⟩
 |some d=>
  simp only[Ab.Gj,M.wp]at hq;cases hd:st[d]? with
  |none=>simp[hd]at hq
  |some cur=>
   simp only[hd]at hq;have Ze:d<st.length:=(A7.1 hd).1;exact⟨σ.drop d,_,h.put (hb d rfl) (h.Fc.drop d) (Mem.le.refl G) hd (Ej _) (fun s' hs=>Kept.drop σ w hs)
    (Ak3 d rfl (cur.1+1) (by simp[Ze])) hp (fun inv t e=>absurd e (hno inv t)),hq⟩
theorem Y1{x:D6}{k:I→M}{Q:St→Prop}(h:(rdI x k).wp P Q st):
 ∃i,(k i).wp P Q st∧((∃n ver,x= .t n∧st[n]?=some (ver,.v i))∨x= .c i∨(∃e sz,x= .Ahc e sz∧i= .list [])):=by
 cases x with
 |c i=>exact⟨i,h,.inr (.inl rfl)⟩
 |Ahc e sz=>exact⟨_,h,.inr (.inr ⟨e,sz,rfl,rfl⟩)⟩
 |t n=>
  simp only[rdI,M.wp]at h;cases hn:st[n]? with
  |none=>simp[hn]at h
  |some cur=>
   obtain⟨ver,sv⟩:=cur;simp only[hn]at h;cases sv with
   |v i=>exact⟨i,h,.inl ⟨n,ver,rfl,hn⟩⟩
   |_=>simp[M.wp]at h
end
def cOk:I→Value→Bool
 | .int k n,.int k' n'=>k==k'&&n==n'
 | .bool b,.bool b'=>b==b'
 | .str s,.string t=>s==t.data.toList&&s.length≤maxLen
 | .fn f,.func (.func g) a b=>f==g&&a.isEmpty&&b.isEmpty
 | .A1v,.nilIface=>true
 | .Aw9,.pointer none=>true
 | .A3c,.map none=>true
 | .list [],.slice none 0 0=>true
 |_,_=>false
theorem Yk{x:I}{c:Value}(h:cOk x c=true)(G:Mem):C7 G x c:=by
 unfold cOk at h;split at h
 ·simp only[Ap,beq_iff_eq]at h;simp[C7,I.isAgg,D8,h]
 ·simp only[beq_iff_eq]at h;simp[C7,I.isAgg,D8,h]
 ·rename_i s t;simp only[Ap,beq_iff_eq,decide_eq_true_eq]at h;obtain⟨h1,h2⟩:=h;subst h1;unfold C7;rw[if_neg (by simp[I.isAgg])]
  exact⟨rfl,h2⟩
 ·simp only[Ap,beq_iff_eq,Array.isEmpty_iff]at h;obtain⟨⟨h1,h2⟩,h3⟩:=h;simp[C7,I.isAgg,D8,h1,h2,h3]
 ·simp[C7,I.isAgg,D8]
 ·simp[C7,I.isAgg,D8]
 ·simp[C7,I.isAgg,D8]
 ·unfold C7;rw[if_neg (by simp[I.isAgg])]
  exact⟨none,0,rfl,Bz _,by simp[maxLen],.inl rfl⟩
 ·cases h
def Jj(N:Nat):Operand→D6→Bool
 | .tmp n,.t m=>n==m&&n<N
 | .const c,.c x=>cOk x c
 | .const (.slice none 0 0),.Ahc _ _=>true
 | .func f,.c (.fn g)=>f==g
 |_,_=>false
theorem J0{N:Nat}{x:Operand}{n:Nat}(h:Jj N x (.t n)=true):x= .tmp n∧n<N:=by
 cases x<;>simp only[Jj,Ap,beq_iff_eq,decide_eq_true_eq]at h
 ·obtain⟨rfl,h⟩:=h;exact⟨rfl,h⟩
 ·cases h
 ·cases h
 ·cases h
section
variable{P:Program}{N:Nat}{G:Mem}{σ:Lab}{Fr:Mem}{w0:Base}{w:World}{st:St}{a:Act}
theorem Nn{x:Operand}{i:I}(h:Jj N x (.c i)=true)(G:Mem):C7 G i (a.eval x):=by
 unfold Jj at h;split at h
 ·simp_all
 ·rename_i c y he;cases he;exact Yk h G
 ·simp_all
 ·rename_i f g he;cases he;simp only[beq_iff_eq]at h;subst h;simp[C7,I.isAgg,D8,Act.eval]
 ·cases h
theorem Le{x:Operand}{e:TypeId}{sz:Nat}(h:Jj N x (.Ahc e sz)=true):a.eval x= .slice none 0 0:=by
 unfold Jj at h;split at h<;>simp_all [Act.eval]
theorem J8{x:Operand}{y:D6}{k:I→M}{Q:St→Prop}(h:Rel G σ Fr w0 st a w)(ho:Jj w0.n x y=true)(hq:(rdI y k).wp P Q st):
 ∃i,(k i).wp P Q st∧C7 G i (a.eval x):=by
 obtain⟨i,h1,h2⟩:=Y1 hq;refine⟨i,h1,?_⟩;rcases h2 with⟨n,ver,rfl,hn⟩|rfl|⟨e,sz,rfl,rfl⟩
 ·obtain⟨rfl,Agv⟩:=J0 ho;exact h.slot Agv hn
 ·exact Nn ho G
 ·rw[Le ho];unfold C7;rw[if_neg (by simp[I.isAgg])]
  exact⟨none,0,rfl,Bz _,by simp[maxLen],.inl rfl⟩
end

open Go.Op
def Ac7(d:Option Nat)(x:D6):M:=match x with
 | .c x=>Gj d (.v x) .done
 | .Ahc e sz=>Gj d (.vec e sz []) .done
 | .t n=>.get n fun ver sv=>match sv with
   | .v x=>Gj d (.v x) .done
   | .vec _ _ _=>.Hh (d≠some n) fun _=>Gj d (.bor n 0 ver) .done
   | .box _=>.Hh (d≠some n) fun _=>Gj d (.pt n 0 ver 0 []) .done
   | .bor s k ver=>.Hh (d≠some s) fun _=>Gj d (.bor s k ver) .done
   | .sub s k ver m=>.Hh (d≠some s) fun _=>Gj d (.sub s k ver m) .done
   | .suf s k ver m=>.Hh (d≠some s) fun _=>Gj d (.suf s k ver m) .done
   | .pt s k ver off r=>.Hh (d≠some s) fun _=>Gj d (.pt s k ver off r) .done
   | .rp x=>Gj d (.rp x) .done
   | .tup _=>.fail
   | .Ati _=>.fail
   | .sit _ _=>.fail
   | .mit _ _ _ _=>.fail
   | .yl _=>.Hh (d≠some n) fun _=>Gj d (.al n ver) .done
   | .al _ _=>.fail
   | .cl f fs cs=>.Hh (∀e∈fs++cs,d≠some e.1) fun _=>Gj d (.cl f fs cs) .done
   | .kcl _ _ _ _=>.fail
   | .bp _ _ _=>.fail
   | .ocl _ _ _ _ _=>.fail
   | .pdt _ _ _ _=>.fail
   | .st _=>.fail
   | .no=>Gj d .no .done
   | .par h=>.get h fun ver sv=>.Hh (d≠some h) fun _=>match sv with
     | .box _=>Gj d (.pt h 0 ver 0 []) .done
     | .vec _ _ _=>Gj d (.bor h 0 ver) .done
     | .own _ t=>match t with
       | .ptr _=>Gj d (.pd h ver [0]) .done
       | .vec _ _ _=>Gj d (.bd h ver []) .done
       | .map _ _=>Gj d (.bd h ver []) .done
       |_=>.fail
     |_=>.fail
   | .own _ t=>.Hh (d≠some n) fun _=>match t with
     | .ptr _=>Gj d (.pd n ver [0]) .done
     | .vec _ _ _=>Gj d (.bd n ver []) .done
     | .map _ _=>Gj d (.bd n ver []) .done
     |_=>.fail
   | .pd s ver p=>.Hh (d≠some s) fun _=>Gj d (.pd s ver p) .done
   | .bd s ver p=>.Hh (d≠some s) fun _=>Gj d (.bd s ver p) .done
   | .bs s ver p lo m=>.Hh (d≠some s) fun _=>Gj d (.bs s ver p lo m) .done
def Z9(op:BinOp)(k:IntKind)(a b:Int):Option I:=match op with
 | .add=>some (.int k (k.wrap (a+b)))
 | .sub=>some (.int k (k.wrap (a - b)))
 | .mul=>some (.int k (k.wrap (a*b)))
 | .eql=>some (.bool (decide (a=b)))
 | .neq=>some (.bool (!decide (a=b)))
 | .lss=>some (.bool (decide (a<b)))
 | .leq=>some (.bool (decide (a≤b)))
 | .gtr=>some (.bool (decide (b<a)))
 | .geq=>some (.bool (decide (b≤a)))
 |_=>none
def Ae4(op:BinOp)(s t:List UInt8):Option I:=match op with
 | .eql=>some (.bool (decide (s=t)))
 | .neq=>some (.bool (!decide (s=t)))
 | .lss=>some (.bool (bytesLess s t))
 | .leq=>some (.bool (bytesLess s t||decide (s=t)))
 | .gtr=>some (.bool (!(bytesLess s t||decide (s=t))))
 | .geq=>some (.bool (!bytesLess s t))
 |_=>none
def Bca(b:Bool)(x y:I)(k:I→M):M:=match b with
 |true=>k x
 |false=>k y
def Bmk(op:BinOp)(x y:I)(k:I→M):M:=match x,y with
 | .int ka a,.int kb b=>if ka=kb then match Z9 op ka a b with
  |some r=>k r
  |none=>.fail
   else .fail
 | .str s,.str t=>match op with
   | .add=>.Hh (s.length+t.length≤maxLen) fun _=>k (.str (s++t))
   |op=>match Ae4 op s t with
    |some r=>k r
    |none=>.fail
 |_,_=>.fail
def Af7(d:Option Nat)(op:BinOp)(x y:D6):M:=rdI x fun i=>rdI y fun j=>Bmk op i j fun r=>Gj d (.v r) .done
section
variable{P:Program}{N:Nat}{G:Mem}{σ:Lab}{Fr:Mem}{w0:Base}{w:World}{st:St}{a:Act}
theorem C7.int{k:IntKind}{n:Int}{c:Value}:C7 G (.int k n) c↔c= .int k n:=by simp[C7,I.isAgg,D8]
theorem C7.bool{b:Bool}{c:Value}:C7 G (.bool b) c↔c= .bool b:=by simp[C7,I.isAgg,D8]
theorem C7.str{s:List UInt8}{c:Value}:C7 G (.str s) c↔c= .string ⟨⟨s⟩⟩∧s.length≤maxLen:=by simp[C7,I.isAgg,D8]
theorem beq_eq(m n:Int):(m==n)=decide (m=n):=by rw[Bool.eq_iff_iff];simp
theorem bne_eq(m n:Int):(m != n)= !decide (m=n):=by simp[bne,beq_eq]
theorem Rel.A8n{Q:St→Prop}{d:Option Nat}{x:I}{c:Value}(h:Rel G σ Fr w0 st a w)(hb:∀d',d=some d'→d'<w0.n)(hc:C7 G x c)(hq:(Ab.Gj d (.v x) .done).wp P Q st):
 ∃σ' st',Rel G σ' Fr w0 st' (a.put d c) w∧Q st':=h.Gj hb (sv:=.v x) (fun _ _ _ _=>hc) hq
theorem Ag1{op:BinOp}{s t:List UInt8}{r:I}(h:Ae4 op s t=some r):∃b,r= .bool b∧Op.stringOp op ⟨⟨s⟩⟩ ⟨⟨t⟩⟩= .pure (.bool b):=by
 have e:∀l:List UInt8,(⟨⟨l⟩⟩:ByteArray).toList=l:=fun l=>by simp
 cases op<;>simp only[Ae4]at h<;>first|cases h|skip
 all_goals refine⟨_,rfl,?_⟩
 all_goals simp only[Op.stringOp,e]
 all_goals first
  |rfl
  |(have:(s==t)=decide (s=t):=by(rw[Bool.eq_iff_iff];simp)
    rw[this];rfl)
theorem Ae7{op:BinOp}{k:IntKind}{m n:Int}{r:I}(h:Z9 op k m n=some r)(G:Mem):∃v,C7 G r v∧
 ∀t w,(binOp op t (.int k m) (.int k n)).run P w= .ok v w:=by
 cases op<;>simp only[Z9]at h<;>first|cases h|skip
 all_goals first
  |exact⟨_,C7.int.2 rfl,fun t w=>by simp[Go.binOp,Op.intArith]⟩
  |exact⟨_,C7.bool.2 rfl,fun t w=>by simp[Go.binOp,Op.intCmp,beq_eq,bne_eq]⟩
theorem Agf{o:Oper}{op:BinOp}{t u:TypeId}{x y:Operand}{x' y':D6}(ho:o.op= .binOp op t x y u)(hx:Jj N x x'=true)(hy:Jj N y y'=true):
 Sound P N o (Af7 o.dst op x' y'):=by
 intro G σ Fr w0 st a w Q next E hN hr hw hn C2
 subst hN;obtain⟨i,h1,hi⟩:=J8 hr hx hw;clear hw;obtain⟨j,hw,hj⟩:=J8 hr hy h1;clear h1;unfold Bmk at hw;split at hw
 ·rename_i ka m kb n;split at hw
  ·rename_i hk;subst hk;split at hw
   ·rename_i r hop;obtain⟨v,hv,Aih⟩:=Ae7 (P:=P) hop G;obtain⟨σ',st',h1,h2⟩:=hr.A8n C2 hv hw;refine Jt (v:=v) (w':=w) ?_ (hn G σ' st' _ w (Mem.le.refl G) h1 h2);rw[C7.int]at hi hj;simp only[execOp,ho,hi,hj];simp[eqGuard,Aih]
   ·exact hw.elim
  ·exact hw.elim
 ·rename_i s s' ;rw[C7.str]at hi hj;split at hw
  ·obtain⟨hl,hw⟩:=hw;obtain⟨σ',st',h1,h2⟩:=hr.A8n C2 (c:=.string ⟨⟨s++s'⟩⟩) (C7.str.2 ⟨rfl,by simpa using hl⟩) hw
   refine Jt (v:=.string ⟨⟨s++s'⟩⟩) (w':=w) ?_ (hn G σ' st' _ w (Mem.le.refl G) h1 h2);simp only[execOp,ho,hi.1,hj.1];have h63:¬(((⟨⟨s⟩⟩:ByteArray).size+(⟨⟨s'⟩⟩:ByteArray).size:Nat):Int)>IntKind.i64.max:=by
    simp only[maxLen]at hl;show ¬((s.length+s'.length:Nat):Int)>9223372036854775807;omega
   have he:(⟨⟨s⟩⟩:ByteArray)++⟨⟨s'⟩⟩=⟨⟨s++s'⟩⟩:=by
    apply ByteArray.ext;simp
   simp only[eqGuard,Go.binOp,Op.stringOp];rw[if_neg h63];simp[he]
  ·split at hw
   ·rename_i r hop;obtain⟨b,rfl,Aih⟩:=Ag1 hop;obtain⟨σ',st',h1,h2⟩:=hr.A8n C2 (c:=.bool b) (C7.bool.2 rfl) hw;refine Jt (v:=.bool b) (w':=w) ?_ (hn G σ' st' _ w (Mem.le.refl G) h1 h2);simp only[execOp,ho,hi.1,hj.1];simp[eqGuard,Go.binOp,Aih]
   ·exact hw.elim
 ·exact hw.elim
theorem J1{o:Oper}{Q:St→Prop}{next:Act→World→Prop}{E:Exit→Act→World→Prop}{r:I}{v:Value}(hr:Rel G σ Fr w0 st a w)
 (hn:∀G' σ' st' a' w',G.le G'→Rel G' σ' Fr w0 st' a' w'→Q st'→next a' w') (C2:∀d,o.dst=some d→d<w0.n) (hv:C7 G r v) (hq:(Gj o.dst (.v r) .done).wp P Q st)
 (Aih:(execOp a.eval o).run P w= .ok (.value v) w):o.wp P a w next E:=by
 obtain⟨σ',st',h1,h2⟩:=hr.A8n C2 hv hq;exact Jt Aih (hn G σ' st' _ w (Mem.le.refl G) h1 h2)
def Agc(d:Option Nat)(x:D6):M:=rdI x fun i=>match i with
 | .bool b=>Gj d (.v (.bool (!b))) .done
 |_=>.fail
theorem Agq{o:Oper}{t:TypeId}{x:Operand}{x':D6}(ho:o.op= .unOp .not t x)(hx:Jj N x x'=true):Sound P N o (Agc o.dst x'):=by
 intro G σ Fr w0 st a w Q next E hN hr hw hn C2
 subst hN;obtain⟨i,h1,hi⟩:=J8 hr hx hw;clear hw;split at h1
 ·rename_i b;rw[C7.bool]at hi;exact J1 hr hn C2 (C7.bool.2 rfl) h1 (by simp[execOp,ho,hi,Op.unary])
 ·exact h1.elim
def Ab9(d:Option Nat)(c x y:D6):M:=rdI c fun i=>match i with
 | .bool b=>.ite b (rdI x fun j=>Gj d (.v j) .done) (rdI y fun j=>Gj d (.v j) .done)
 |_=>.fail
theorem Aeu{o:Oper}{c x y:Operand}{c' x' y':D6}(ho:o.op= .pick c x y)(hc:Jj N c c'=true)(hx:Jj N x x'=true)(hy:Jj N y y'=true):
 Sound P N o (Ab9 o.dst c' x' y'):=by
 intro G σ Fr w0 st a w Q next E hN hr hw hn C2
 subst hN;obtain⟨i,h1,hi⟩:=J8 hr hc hw;clear hw;split at h1
 ·rename_i b;rw[C7.bool]at hi;cases hb:b with
  |true=>
   obtain⟨j,h2,hj⟩:=J8 hr hx (h1.1 hb);exact J1 hr hn C2 hj h2 (by simp[execOp,ho,hi,hb,asBool])
  |false=>
   obtain⟨j,h2,hj⟩:=J8 hr hy (h1.2 hb);exact J1 hr hn C2 hj h2 (by simp[execOp,ho,hi,hb,asBool])
 ·exact h1.elim
theorem Z5{o:Oper}{x:Operand}{x':D6}(ho:o.op= .move x∨o.op= .assign x)(hx:Jj N x x'=true):Sound P N o (Ac7 o.dst x'):=by
 intro G σ Fr w0 st a w Q next E hN hr hw hn C2
 subst hN;have Aih:(execOp a.eval o).run P w= .ok (.value (a.eval x)) w:=by
  rcases ho with ho|ho<;>simp[execOp,ho]
 have fin:∀{sv:SV} (_:(Gj o.dst sv .done).wp P Q st)
  (_:∀d',o.dst=some d'→∀ver,(st.set d' (ver,sv))[d']?=some (ver,sv)→Ait G (σ.drop d') w (st.set d' (ver,sv)) (val (a.put (some d') (a.eval x)) w0) d' sv (a.eval x))
  (_:∀h,sv≠ .par h:=by intro _ e;cases e) (_:∀inv t,sv≠ .own inv t:=by intro _ _ e;cases e),o.wp P a w next E:=by
  intro sv hq Ak3 hnp hno;obtain⟨σ',st',h1,h2⟩:=hr.Gj C2 Ak3 hq (fun h e=>absurd e (hnp h)) hno
  exact Jt Aih (hn G σ' st' _ w (Mem.le.refl G) h1 h2)
 have look:∀{d' n:Nat} {p q:Nat × SV},o.dst=some d'→o.dst≠some n→st[n]?=some p→(st.set d' q)[n]?=some p:=by
  intro d' n p q hd Cf hp;rw[B3]
  ·exact hp
  ·rintro rfl;exact Cf hd
 cases x' with
 |c i=>exact J1 hr hn C2 (Nn hx G) hw Aih
 |Ahc e sz=>
  refine fin hw fun d' _ ver _=>?_
  rw[Le hx];exact⟨[],Arr.nil w e sz,by simp[F9],by simp,by simp[Value.ownBlock]⟩
 |t n=>
  obtain⟨rfl,Agv⟩:=J0 hx;simp only[Ac7,M.wp]at hw;cases hs:st[n]? with
  |none=>simp[hs]at hw
  |some cur=>
   obtain⟨ver,sv⟩:=cur;simp only[hs]at hw;have Dh:=hr.slot Agv hs;cases sv with
   |v y=>exact J1 hr hn C2 Dh hw Aih
   |no=>exact fin hw fun _ _ _ _=>trivial
   |rp y=>exact fin hw fun _ _ _ _=>Dh
   |vec e sz l=>
    obtain⟨Cf,hw⟩:=hw;refine fin hw fun d' hd _ _=>⟨_,look hd Cf hs,Bz _,fun _=>⟨e,sz,l,rfl,?_⟩⟩
    exact Aiu.tr Dh (Mem.le.refl G) fun b hb=>⟨Lab.Ade.2 ⟨fun e=>Cf (by rw[hd,e]),hb⟩,rfl⟩
   |box t=>
    obtain⟨Cf,hw⟩:=hw;obtain⟨b,cells,ty,h1,h2,_⟩:=Dh;refine fin hw fun d' hd _ _=>⟨_,look hd Cf hs,Bz _,fun _=>⟨b,Lab.Ade.2 ⟨fun e=>Cf (by rw[hd,e]),h2⟩,h1⟩⟩
   |bor s k Gu=>
    obtain⟨Cf,hw⟩:=hw;obtain⟨cur,h1,h2,h3⟩:=Dh;refine fin hw fun d' hd _ _=>⟨cur,look hd Cf h1,h2,fun e=>?_⟩
    obtain⟨e,sz,l,h4,h5⟩:=h3 e;exact⟨e,sz,l,h4,h5.tr (Mem.le.refl G) fun b hb=>⟨Lab.Ade.2 ⟨fun e=>Cf (by rw[hd,e]),hb⟩,rfl⟩⟩
   |sub s k Gu m=>
    obtain⟨Cf,hw⟩:=hw;obtain⟨cur,h1,h2,h3⟩:=Dh;refine fin hw fun d' hd _ _=>⟨cur,look hd Cf h1,h2,fun e=>?_⟩
    obtain⟨e,sz,l,h4,h5⟩:=h3 e;exact⟨e,sz,l,h4,h5.tr (Mem.le.refl G) fun b hb=>⟨Lab.Ade.2 ⟨fun e=>Cf (by rw[hd,e]),hb⟩,rfl⟩⟩
   |suf s k Gu m=>
    obtain⟨Cf,hw⟩:=hw;obtain⟨cur,h1,h2,h3⟩:=Dh;refine fin hw fun d' hd _ _=>⟨cur,look hd Cf h1,h2,fun e=>?_⟩
    obtain⟨e,sz,l,c0,h4,h5,h6⟩:=h3 e;exact⟨e,sz,l,c0,h4,h5.tr (Mem.le.refl G) fun b hb=>⟨Lab.Ade.2 ⟨fun e=>Cf (by rw[hd,e]),hb⟩,rfl⟩,h6⟩
   |pt s k Gu off r=>
    obtain⟨Cf,hw⟩:=hw;obtain⟨cur,h1,h2,h3⟩:=Dh;refine fin hw fun d' hd _ _=>⟨cur,look hd Cf h1,h2,fun e=>?_⟩
    obtain⟨b,h4,h5⟩:=h3 e;exact⟨b,Lab.Ade.2 ⟨fun e=>Cf (by rw[hd,e]),h4⟩,h5⟩
   |tup fs=>exact hw.elim
   |Ati fs=>exact hw.elim
   |sit _ _=>exact hw.elim
   |mit _ _ _ _=>exact hw.elim
   |yl _=>
    obtain⟨Cf,hw⟩:=hw;refine fin hw fun d' hd _ _=>⟨_,look hd Cf hs,Bz _,fun _=>?_⟩
    rw[Jr (by rintro rfl;exact Cf hd)]
    exact(J2 (by rw[hr.n];exact Agv)).symm
   |al _ _=>exact hw.elim
   |cl f fs cs=>
    obtain⟨Cf,hw⟩:=hw;obtain⟨us,ws,e1,e2,e3⟩:=Dh;refine fin hw fun d' hd ver _=>⟨us,ws,e1,Anm.put (fun h hh=>Jr hh) (fun e he ed=>Cf e (Aau _ he) (by rw[hd,ed])) e2,Anm.put (fun h hh=>Jr hh) (fun e he ed=>Cf e (Ac6 _ he) (by rw[hd,ed])) e3⟩
   |kcl _ _ _ _=>exact hw.elim
   |bp _ _ _=>exact hw.elim
   |ocl _ _ _ _ _=>exact hw.elim
   |pdt _ _ _ _=>exact hw.elim
   |st fs=>exact hw.elim
   |par h=>
    obtain⟨hv,hle⟩:=hr.As8 n ver h hs;rw[J2 (by rw[hr.n];exact Agv)]at hv
    simp only[M.wp]at hw;cases hh:st[h]? with
    |none=>simp[hh]at hw
    |some cur=>
     obtain⟨Gu,sv'⟩:=cur;simp only[hh]at hw;obtain⟨Cf,hw⟩:=hw;have Ak4:=hr.Eb h Gu sv' hh;rw[←hv]at Ak4;split at hw
     ·obtain⟨b,cells,ty,h1,h2,_⟩:=Ak4;refine fin hw fun d' hd _ _=>⟨_,look hd Cf hh,Bz _,fun _=>⟨b,Lab.Ade.2 ⟨fun e=>Cf (by rw[hd,e]),h2⟩,h1⟩⟩
     ·rename_i e sz l;refine fin hw fun d' hd _ _=>⟨_,look hd Cf hh,Bz _,fun _=>⟨e,sz,l,rfl,?_⟩⟩
      exact Aiu.tr Ak4 (Mem.le.refl G) fun b hb=>⟨Lab.Ade.2 ⟨fun e=>Cf (by rw[hd,e]),hb⟩,rfl⟩
     ·rename_i inv t;have Akd:Ac5 G σ w h t (val a w0 h):=by rw[←hv];exact Ak4
      split at hw
      ·refine fin hw fun d' hd _ _=>⟨_,look hd Cf hh,Bz _,fun Ap9 t' e _ _=>?_⟩
       cases e;rw[Jr (fun e=>Cf (by rw[hd,e])),hv]
       exact Akd.pt
      ·refine fin hw fun d' hd _ _=>⟨_,look hd Cf hh,Bz _,fun Ap9 t' e _=>?_⟩
       cases e;rw[Jr (fun e=>Cf (by rw[hd,e])),hv]
       exact Akd.hd rfl
      ·refine fin hw fun d' hd _ _=>⟨_,look hd Cf hh,Bz _,fun Ap9 t' e _=>?_⟩
       cases e;rw[Jr (fun e=>Cf (by rw[hd,e])),hv]
       exact Akd.hd rfl
      ·exact hw.elim
     ·exact hw.elim
   |own inv t=>
    obtain⟨Cf,hw⟩:=hw;have hv:val a w0 n=a.eval (.tmp n):=J2 (by rw[hr.n];exact Agv)
    have Akd:Ac5 G σ w n t (val a w0 n):=by rw[hv];exact Dh
    split at hw
    ·refine fin hw fun d' hd _ _=>⟨_,look hd Cf hs,Bz _,fun Ap9 t' e _ _=>?_⟩
     cases e;rw[Jr (fun e=>Cf (by rw[hd,e])), ←hv]
     exact Akd.pt
    ·refine fin hw fun d' hd _ _=>⟨_,look hd Cf hs,Bz _,fun Ap9 t' e _=>?_⟩
     cases e;rw[Jr (fun e=>Cf (by rw[hd,e])), ←hv]
     exact Akd.hd rfl
    ·refine fin hw fun d' hd _ _=>⟨_,look hd Cf hs,Bz _,fun Ap9 t' e _=>?_⟩
     cases e;rw[Jr (fun e=>Cf (by rw[hd,e])), ←hv]
     exact Akd.hd rfl
    ·exact hw.elim
   |pd s Gu p=>
    obtain⟨Cf,hw⟩:=hw;obtain⟨cur,h1,h2,h3⟩:=Dh;refine fin hw fun d' hd _ _=>⟨cur,look hd Cf h1,h2,fun inv t e hp ha=>?_⟩
    rw[Jr (fun e=>Cf (by rw[hd,e]))]
    exact h3 inv t e hp ha
   |bs s Gu p lo m=>
    obtain⟨Cf,hw⟩:=hw;obtain⟨cur,h1,h2,h3⟩:=Dh;refine fin hw fun d' hd _ _=>⟨cur,look hd Cf h1,h2,fun e0 inv t e=>?_⟩
    rw[Jr (fun e=>Cf (by rw[hd,e]))]
    exact h3 e0 inv t e
   |bd s Gu p=>
    obtain⟨Cf,hw⟩:=hw;obtain⟨cur,h1,h2,h3⟩:=Dh;refine fin hw fun d' hd _ _=>⟨cur,look hd Cf h1,h2,fun inv t e ha=>?_⟩
    rw[Jr (fun e=>Cf (by rw[hd,e]))]
    exact h3 inv t e ha
end

section
variable{P:Program}{N:Nat}{G:Mem}{σ:Lab}{Fr:Mem}{w0:Base}{w:World}{st:St}{a:Act}
def Lab.move(σ:Lab)(n d:Nat):Lab:=fun b=>match σ b with
 |some (s,k)=>if s=n then some (d,k)else if s=d then none else some (s,k)
 |none=>none
theorem Lab.Bhc{n d b k:Nat}(h:σ b=some (n,k)):σ.move n d b=some (d,k):=by simp[Lab.move,h]
theorem Lab.Bi3{n d b s k:Nat}(h:σ b=some (s,k))(h1:s≠n)(h2:s≠d):σ.move n d b=some (s,k):=by simp[Lab.move,h,h1,h2]
theorem Lab.A6k{n d b s k:Nat}(h:σ.move n d b=some (s,k)):(s=d∧σ b=some (n,k))∨(s≠n∧s≠d∧σ b=some (s,k)):=by
 unfold Lab.move at h;split at h
 ·rename_i s' k' hb;split at h
  ·rename_i e;simp only[A0,He]at h;obtain⟨rfl,rfl⟩:=h;exact .inl ⟨rfl,by rw[hb,e]⟩
  ·rename_i e;split at h
   ·cases h
   ·rename_i e';simp only[A0,He]at h;obtain⟨rfl,rfl⟩:=h;exact .inr ⟨e,e',hb⟩
 ·cases h
theorem WOk.move(h:WOk G σ Fr w0 w)(n d:Nat):WOk G (σ.move n d) Fr w0 w:=by
 refine⟨h.fixed,?_,?_,h.frame,h.os,h.tape,h.output,h.size,h.apart,h.amb⟩
 ·rintro b ⟨s,k⟩ hb;rcases Lab.A6k hb with⟨_,hb⟩|⟨_,_,hb⟩<;>exact h.own b _ hb
 ·rintro b b' ⟨s,k⟩ hb Sy;rcases Lab.A6k hb with⟨h1,hb⟩|⟨h1,h2,hb⟩<;>rcases Lab.A6k Sy with⟨h3,Sy⟩|⟨h3,h4,Sy⟩
  ·exact h.inj b b' _ hb Sy
  ·exact absurd h1 h4
  ·exact absurd h3 h2
  ·exact h.inj b b' _ hb Sy
theorem Rel.move{n d ver Gu:Nat}{sv:SV}{old:Nat × SV}{v1:Nat}{c:Value}(h:Rel G σ Fr w0 st a w)(hdn:d<w0.n)(hn:st[n]?=some (v1,sv))(hd:st[d]?=some old)(Cf:d≠n)
 (hv:v1<ver) (hv':old.1<Gu) (hr:sv.root=none) (hc:Ab1 G σ w n sv c) (hnp:∀h,sv≠ .par h:=by intro _ e;cases e):
 Rel G (σ.move n d) Fr w0 ((st.set n (ver,.no)).set d (Gu,sv.fresh Gu)) (a.put (some d) c) w:=by
 have h1:=h.drop hn hv;refine h1.put hdn (h.Fc.move n d) (Mem.le.refl G) (old:=old) (by rw[B3 (Ne.symm Cf)];exact hd) hv' ?_ ?_ (fun h e=>absurd (Te.1 e) (hnp h)) Nx
 ·intro s' hs' b k hb;obtain⟨h2,h3⟩:=Lab.Ade.1 hb;exact⟨Lab.Bi3 h3 h2 hs',rfl⟩
 ·rw[Ait.own (by rw[Sm];exact hr),Tf]
  exact Ab1.tr hc (Mem.le.refl G) fun b k hb=>⟨Lab.Bhc hb,rfl⟩
def SV.A08:SV→Nat→SV
 | .vec _ _ l,0=>.v (.list l)
 | .box (.one (.vec _ _ l)),1=>.box (.one (.i (.list l)))
 | .box (.st fs),j+1=>match fs[j]? with
   |some (.vec _ _ l)=>.box (.st (fs.set j (.i (.list l))))
   |_=>.box (.st fs)
 |sv,_=>sv
theorem Aiu.list{G':Mem}{Gf:Nat × Nat}{e:TypeId}{sz:Nat}{l:List I}{c:Value}(h:Aiu G σ w Gf e sz l c)(hG:G.le G')
 (hb:∀b,σ b=some Gf→G' b=w.heap[b]?):C7 G' (.list l) c:=by
 obtain⟨xs,h1,h2,h3,h4⟩:=h;unfold C7;rw[if_neg (by simp[I.isAgg])]
 rcases h1.2 with⟨rfl,h0⟩|⟨g,cap,cur,rfl,_,hg,hn,hm,hs,ht⟩
 ·refine⟨none,0,by rw[h0],by omega,by simp[maxLen],.inl (Aby h0)⟩
 ·obtain⟨ty,fz,hg,_⟩:=hg;refine⟨_,cap,rfl,hn,hm,.inr ⟨g,0,cur,ty,fz,sz,rfl,?_,h3,?_,?_⟩⟩
  ·rw[hb g (h4 g (by simp[Value.ownBlock]))];exact hg
  ·rw[hs,E3];exact Jh _ hn
  ·rw[List.drop_zero,ht];exact F9.mono hG l xs h2
theorem Pp{l:List I}{c:Value}(h:C7 G (.list l) c):D8 G (.list l) [c]:=by
 unfold C7 at h;rwa [if_neg (by simp[I.isAgg])]at h
theorem Amt.Bfd{G':Mem}{σ':Lab}{w':World}{s:Nat}{f':F}(hG:G.le G'):∀{fs:List F} {j i:Nat} {cs:List Value} {f:F},Amt G σ w s j fs cs→fs[i]?=some f→
 (∀b k,k≠j+i+1→σ b=some (s,k)→σ' b=some (s,k)∧w'.heap[b]?=w.heap[b]?)→(∀c,Avi G σ w (s,j+i+1) f c→Avi G' σ' w' (s,j+i+1) f' c)→
 Amt G' σ' w' s j (fs.set i f') cs
 | [],_,i,_,_,_,h,_,_=>by simp at h
 |f::fs,j,0,cs,f0,h,hi,hk,hv=>by
  simp only[Fa,A0]at hi;subst hi;obtain⟨c,d,ecs,h1,h2⟩:=h;simp only[Akm,Amt];exact⟨c,d,ecs,hv c h1,Amt.tr hG h2 fun b k hjk hb=>hk b k (by omega) hb⟩
 |f::fs,j,i+1,cs,f0,h,hi,hk,hv=>by
  simp only[Du]at hi;obtain⟨c,d,ecs,h1,h2⟩:=h;simp only[Ais,Amt];refine⟨c,d,ecs,Avi.tr h1 hG fun b hb=>hk b (j+1) (by omega) hb,?_⟩
  have e:j+(i+1)+1=j+1+i+1:=by omega
  rw[e]at hv;exact Amt.Bfd hG h2 hi (fun b k Cf hb=>hk b k (by omega) hb) hv
def Lab.Ave(σ:Lab)(Gf:Nat × Nat):Lab:=fun b=>if σ b=some Gf then none else σ b
theorem Lab.Aom{Gf Avk:Nat × Nat}{b:Nat}:σ.Ave Gf b=some Avk↔Avk≠Gf∧σ b=some Avk:=by
 unfold Lab.Ave;split
 ·rename_i h;constructor
  ·intro x;cases x
  ·rintro⟨h1,h2⟩;rw[h]at h2;cases h2;exact absurd rfl h1
 ·rename_i h;constructor
  ·intro x;exact⟨fun e=>h (by rw[x,e]),x⟩
  ·exact fun x=>x.2
def Mem.fix(G:Mem)(σ:Lab)(w:World)(Gf:Nat × Nat):Mem:=fun b=>if σ b=some Gf then w.heap[b]? else G b
theorem Mem.Bmu(H2:WOk G σ Fr w0 w)(Gf:Nat × Nat):G.le (G.fix σ w Gf):=by
 intro b o hb;unfold Mem.fix;split
 ·rename_i h;rw[(H2.own b Gf h).1]at hb;cases hb
 ·exact hb
theorem Mem.Bhy{Gf:Nat × Nat}{b:Nat}(h:σ b=some Gf):G.fix σ w Gf b=w.heap[b]?:=by simp[Mem.fix,h]
theorem Rel.freeze{s k ver Gu:Nat}{sv:SV}{e:TypeId}{sz:Nat}{l:List I}(h:Rel G σ Fr w0 st a w)(hs:st[s]?=some (ver,sv))(hv:sv.Aka k=some (e,sz,l))(Ze:ver<Gu):
 ∃G' σ',G.le G'∧Rel G' σ' Fr w0 (st.set s (Gu,sv.A08 k)) a w∧
  (∀m c,Aiu G σ w (s,k) e sz m c→C7 G' (.list m) c)∧∀b,σ b=none→G b=none→σ' b=none∧G' b=none:=by
 have hG:=Mem.Bmu h.Fc (s,k);have A9z:∀m c,Aiu G σ w (s,k) e sz m c→C7 (G.fix σ w (s,k)) (.list m) c:=fun m c hc=>hc.list hG fun b hb=>Mem.Bhy hb
 refine⟨G.fix σ w (s,k),σ.Ave (s,k),hG,?_,A9z,fun b h1 h2=>⟨by simp[Lab.Ave,h1],by simp[Mem.fix,h1,h2]⟩⟩
 have H2:WOk (G.fix σ w (s,k)) (σ.Ave (s,k)) Fr w0 w:=by
  refine⟨?_,?_,?_,h.Fc.frame,h.Fc.os,h.Fc.tape,h.Fc.output,h.Fc.size,?_,Amb.mono hG h.Fc.amb⟩
  rotate_right
  ·intro b o hb;unfold Mem.fix;rw[if_neg (by intro e;have:=(h.Fc.own b _ e).2.1;rw[hb]at this;cases this)]
   exact h.Fc.apart b o hb
  ·intro b o hb;unfold Mem.fix at hb;split at hb
   ·exact hb
   ·exact h.Fc.fixed b o hb
  ·intro b Gf hb;obtain⟨h1,h2⟩:=Lab.Aom.1 hb;obtain⟨h3,h4,h5⟩:=h.Fc.own b Gf h2;refine⟨?_,h4,h5⟩;unfold Mem.fix;rw[if_neg (by rw[h2];intro e;cases e;exact h1 rfl)]
   exact h3
  ·intro b b' Gf hb Sy;exact h.Fc.inj b b' Gf (Lab.Aom.1 hb).2 (Lab.Aom.1 Sy).2
 refine Rel.self (new:=sv.A08 k) (ver:=Gu) h H2 hG hs Ze
  (fun s' hs' b k' hb=>⟨Lab.Aom.2 ⟨fun e=>hs' (by cases e;rfl),hb⟩,rfl⟩) ?_ (by
    intro h e;unfold SV.A08 at e;repeat' split at e
    all_goals first|(subst e;rw[Tr]at hv;cases hv)|cases e) (by
    intro inv t e;exfalso;unfold SV.A08 at e;repeat' split at e
    all_goals first|(subst e;cases k<;>cases hv)|cases e)
 ·have hold:=h.Eb s ver sv hs;generalize val a w0 s=c at hold ⊢;unfold SV.Aka at hv;split at hv
  ·cases hv;exact A9z _ _ hold
  ·cases hv;obtain⟨b,cells,ty,h1,h2,h3,h4⟩:=hold;refine⟨b,cells,ty,h1,Lab.Aom.2 ⟨by simp,h2⟩,h3,?_⟩
   obtain⟨c',hc',h4⟩:=h4;show D8 _ _ _;rw[hc'];exact Pp (A9z _ _ h4)
  ·rename_i fs j;split at hv
   ·rename_i e' sz' l' hf;cases hv;obtain⟨b,cells,ty,h1,h2,h3,h4⟩:=hold;simp only[SV.A08,hf];refine⟨b,cells,ty,h1,Lab.Aom.2 ⟨by simp,h2⟩,h3,?_⟩
    refine Amt.Bfd hG h4 hf (fun b k Cf hb=>⟨Lab.Aom.2 ⟨fun e=>Cf (by cases e;omega),hb⟩,rfl⟩) fun c hc=>?_
    obtain⟨c',rfl,hc⟩:=hc;exact Pp (A9z _ _ (by rw[E3]at hc;exact hc))
   ·cases hv
  ·cases hv
end

def F.size:F→Nat
 | .i x=>x.size
 | .vec _ _ _=>1
def A19:List F→Nat
 | []=>0
 |f::fs=>f.size+A19 fs
def allI:List F→Option (List I)
 | []=>some []
 | .i x::fs=>match allI fs with
   |some l=>some (x::l)
   |none=>none
 | .vec _ _ _::_=>none
inductive Hit where
 |item (u:I)
 |vec (k:Nat)
 deriving Inhabited
def A4u(o:Nat):Option (Nat × I)→Option (Nat × Hit)
 |some (p,u)=>some (o+p,.item u)
 |none=>none
def A8b(sz:Nat)(l:List I):List Nat→Option (Nat × Hit)
 |i::r=>match l[i]? with
  |some y=>A4u (i*sz) (y.sub r)
  |none=>none
 | []=>none
def SV.hit(sv:SV)(k:Nat)(r:List Nat):Option (Nat × Hit):=match k with
 |0=>match sv with
  | .box (.one (.i x))=>A4u 0 (x.sub r)
  | .box (.one (.vec _ _ _))=>match r with
    | []=>some (0,.vec 1)
    |_::_=>none
  | .box (.st fs)=>match r with
    | []=>match allI fs with
      |some l=>some (0,.item (.agg l))
      |none=>none
    |j::r=>match fs[j]? with
     |some (.i y)=>A4u (A19 (fs.take j)) (y.sub r)
     |some (.vec _ _ _)=>match r with
      | []=>some (A19 (fs.take j),.vec (j+1))
      |_::_=>none
     |none=>none
  | .vec _ sz l=>A8b sz l r
  |_=>none
 |j+1=>match sv.Aka (j+1)with
  |some (_,sz,l)=>A8b sz l r
  |none=>none
def A3j(l:List I)(r:List Nat)(u:I):List I:=match r with
 |i::r=>match l[i]? with
  |some y=>l.set i (y.put r u)
  |none=>l
 | []=>l
def SV.putAt(sv:SV)(k:Nat)(r:List Nat)(u:I):SV:=match k with
 |0=>match sv with
  | .box (.one (.i x))=>.box (.one (.i (x.put r u)))
  | .box (.st fs)=>match r with
    |j::r=>match fs[j]? with
     |some (.i y)=>.box (.st (fs.set j (.i (y.put r u))))
     |_=>sv
    | []=>.box (.one (.i u))
  | .vec e sz l=>.vec e sz (A3j l r u)
  |sv=>sv
 |j+1=>match sv with
  | .box (.one (.vec e sz l))=>.box (.one (.vec e sz (A3j l r u)))
  | .box (.st fs)=>match fs[j]? with
    |some (.vec e sz l)=>.box (.st (fs.set j (.vec e sz (A3j l r u))))
    |_=>sv
  |sv=>sv
section
variable{P:Program}{N:Nat}{G:Mem}{σ:Lab}{Fr:Mem}{w0:Base}{w:World}{st:St}{a:Act}
theorem Pg{o off:Nat}{q:Option (Nat × I)}{u:Hit}(h:A4u o q=some (off,u)):∃p v,q=some (p,v)∧off=o+p∧u= .item v:=by
 cases q with
 |none=>cases h
 |some q=>
  obtain⟨p,v⟩:=q;simp only[A4u,A0,He]at h;exact⟨p,v,rfl,h.1.symm,h.2.symm⟩
theorem Avi.length{Gf:Nat × Nat}{f:F}{cs:List Value}(h:Avi G σ w Gf f cs):cs.length=f.size:=by
 cases f with
 |i x=>exact D8.length x cs h
 |vec e sz l=>obtain⟨c,rfl,_⟩:=h;rfl
theorem Amt.nth{s:Nat}:∀{fs:List F} {j i:Nat} {cs:List Value} {f:F},Amt G σ w s j fs cs→fs[i]?=some f→
 ∃c1 c c2,cs=c1++c++c2∧c1.length=A19 (fs.take i)∧Avi G σ w (s,j+i+1) f c∧
  (∀f' c',Avi G σ w (s,j+i+1) f' c'→Amt G σ w s j (fs.set i f') (c1++c'++c2))
 | [],_,i,_,_,_,h=>by simp at h
 |f::fs,j,0,cs,f',h,hi=>by
  simp only[Fa,A0]at hi;subst hi;obtain⟨c,d,e,h1,h2⟩:=h;refine⟨[],c,d,by simpa using e,by simp[A19],h1,?_⟩
  intro g c' hg;exact⟨c',d,by simp,hg,h2⟩
 |f::fs,j,i+1,cs,f',h,hi=>by
  simp only[Du]at hi;obtain⟨c,d,e,h1,h2⟩:=h;obtain⟨c1,cc,c2,e2,hl,hr,Akv⟩:=Amt.nth h2 hi;have hlc:=Avi.length h1;refine⟨c++c1,cc,c2,by simp[e,e2],by simp[A19,hlc,hl],by rw[show j+(i+1)+1=j+1+i+1 by omega];exact hr,?_⟩
  intro g c' hg;refine⟨c,c1++c'++c2,by simp,h1,Akv g c' (by rw[show j+(i+1)+1=j+1+i+1 by omega]at hg;exact hg)⟩
theorem Amt.allI{s:Nat}:∀{fs:List F} {j:Nat} {cs:List Value} {l:List I},Amt G σ w s j fs cs→allI fs=some l→F9 G l cs
 | [],_,_,_,h,hl=>by
   simp only[Ab.allI,A0]at hl;subst hl;simpa only[F9,Amt]using h
 | .i x::fs,j,cs,l,h,hl=>by
   simp only[Ab.allI]at hl;split at hl
   ·rename_i m hm;simp only[A0]at hl;subst hl;obtain⟨c,d,e,h1,h2⟩:=h;simp only[F9];exact⟨c,d,e,h1,Amt.allI h2 hm⟩
   ·cases hl
 | .vec _ _ _::fs,j,cs,l,h,hl=>by simp[Ab.allI]at hl
theorem Aiu.row{Gf:Nat × Nat}{e:TypeId}{sz:Nat}{l:List I}{c:Value}{b:Nat}(h:Aiu G σ w Gf e sz l c)(H2:WOk G σ Fr w0 w)(hb:σ b=some Gf)(Cf:l≠[]):
 ∃bl xs post cap,c= .slice (some ⟨b,0,none⟩) l.length cap∧l.length≤cap∧cap≤maxLen∧bl.size=cap*sz∧Row w b e bl∧bl.toList=xs++post∧F9 G l xs∧(∀x∈l,x.size=sz):=by
 obtain⟨xs,h1,h2,h3,h4⟩:=h;rcases h1.2 with⟨rfl,h0⟩|⟨g,cap,cur,rfl,_,hg,hn,hm,hs,ht⟩
 ·exact absurd (Aby h0) Cf
 ·obtain rfl:=H2.inj b g Gf hb (h4 g (by simp[Value.ownBlock]))
  exact⟨cur,xs,cur.toList.drop (l.length*sz),cap,rfl,hn,hm,hs,hg,by rw[←ht,Fj],h2,h3⟩
theorem Q5{Gf:Nat × Nat}{e:TypeId}{sz:Nat}{l:List I}{c:Value}{b off:Nat}{r:List Nat}{q:Hit}(h:Aiu G σ w Gf e sz l c)(H2:WOk G σ Fr w0 w)(hb:σ b=some Gf)
 (hh:A8b sz l r=some (off,q)):∃u,q= .item u∧∃bl pre cs post,Row w b e bl∧bl.toList=pre++cs++post∧pre.length=off∧D8 G u cs∧
   (∀u' cs',u'.size=u.size→D8 G u' cs'→Aiu G σ (w.setRow b (pre++cs'++post).toArray) Gf e sz (A3j l r u') c):=by
 cases r with
 |nil=>cases hh
 |cons i r=>
  simp only[A8b]at hh;cases hy:l[i]? with
  |none=>simp[hy]at hh
  |some y=>
   simp only[hy]at hh;obtain⟨p,v,h1,rfl,rfl⟩:=Pg hh;have hi:i<l.length:=(A7.1 hy).1;obtain⟨bl,xs,post,cap,hc,hn,hm,hs,hg,hbl,hr,Hr⟩:=h.row H2 hb (by intro e;subst e;simp at hi)
   obtain⟨c1,cc,c2,e1,e2,e3,Akv⟩:=F9.nth i hr hy;obtain⟨d1,d,d2,e4,e5,e6,Aof⟩:=D8.put r e3 h1;have Beu:sizes (l.take i)=i*sz:=by
    rw[J3 (sz:=sz) fun z hz=>Hr z (P2 hz),Hg,U6 (Nat.le_of_lt hi)]
   refine⟨v,rfl,bl,c1++d1,d,d2++c2++post,hg,by simp[hbl,e1,e4],by simp[e2,e5,Beu],e6,?_⟩
   intro u' cs' hu hcs;have Ak3:=Akv _ _ (Aof u' cs' hu hcs);have hl1:=D8.length _ _ e6;have hl2:=D8.length _ _ hcs;have hxl:xs.length=l.length*sz:=by rw[F9.length _ _ hr,J3 Hr]
   have hnl:(c1++(d1++cs'++d2)++c2).length=l.length*sz:=by
    rw[←hxl,e1,e4];simp[hl1,hl2,hu]
   have A6i:∀x∈A3j l (i::r) u',x.size=sz:=by
    intro x hx;simp only[A3j,hy]at hx;rcases Ain hx with hx|hx
    ·exact Hr x hx
    ·subst hx;rw[I.Bb5 r h1 hu];exact Hr y (Cb hy)
   have hlen:(A3j l (i::r) u').length=l.length:=by simp[A3j,hy]
   have Btf:(c1++d1++cs'++(d2++c2++post)).toArray.size=bl.size:=by
    have:bl.size=bl.toList.length:=by simp
    rw[this,hbl,e1,e4];simp[hl1,hl2,hu]
   refine⟨c1++(d1++cs'++d2)++c2,⟨by rw[hlen];exact hnl,.inr ⟨b,cap,_,by rw[hlen];exact hc,Cr _,hg.set Btf,by rw[hlen];exact hn,hm,?_,?_⟩⟩,?_,A6i,?_⟩
   ·have:bl.size=bl.toList.length:=by simp
    rw[←hs,this,hbl,e1,e4];simp[hl1,hl2,hu]
   ·rw[hlen,show(c1++d1++cs'++(d2++c2++post)).toArray.toList=(c1++(d1++cs'++d2)++c2)++post by simp, ←hnl]
    exact Amq
   ·simpa only[A3j,hy]using Ak3
   ·intro b' Sy;rw[hc]at Sy;simp only[Value.ownBlock,A0]at Sy;subst Sy;exact hb
theorem Avi.far{Gf:Nat × Nat}{f:F}{cs:List Value}{b:Nat}(h:Avi G σ w Gf f cs)(hb:σ b≠some Gf)(row:Array Value):Avi G σ (w.setRow b row) Gf f cs:=
 h.tr (Mem.le.refl G) fun b' Sy=>⟨Sy,setRow_other w b b' row (by rintro rfl;exact hb Sy)⟩
theorem Amt.far{s j:Nat}{fs:List F}{cs:List Value}{b:Nat}(h:Amt G σ w s j fs cs)(hb:∀k,j<k→σ b≠some (s,k))(row:Array Value):Amt G σ (w.setRow b row) s j fs cs:=
 Amt.tr (Mem.le.refl G) h fun b' k hj Sy=>⟨Sy,setRow_other w b b' row (by rintro rfl;exact hb k hj Sy)⟩
theorem Qv{s k off b:Nat}{sv:SV}{r:List Nat}{u:I}{c:Value}(H2:WOk G σ Fr w0 w)(ho:Ab1 G σ w s sv c)(hh:sv.hit k r=some (off,.item u))(hb:σ b=some (s,k)):
 ∃bl ty fz pre cs post,w.heap[b]?=some (.cells bl ty fz)∧(fz=(0,0)∨bl.size≤fz.1)∧bl.toList=pre++cs++post∧pre.length=off∧D8 G u cs∧
  ∀u' cs',u'.size=u.size→D8 G u' cs'→Ab1 G σ (w.setRow b (pre++cs'++post).toArray) s (sv.putAt k r u') c:=by
 cases k with
 |zero=>
  simp only[SV.hit]at hh;cases sv with
  |vec e sz l=>
   obtain⟨u',hu,bl,pre,cs,post,h1,h2,h3,h4,h5⟩:=Q5 ho H2 hb hh;cases hu;obtain⟨ty,fz,h1,h1',_⟩:=h1;exact⟨bl,ty,fz,pre,cs,post,h1,h1',h2,h3,h4,h5⟩
  |box t=>
   obtain⟨b',cells,ty,h1,h2,h3,h4⟩:=ho;obtain rfl:=H2.inj b b' _ hb h2;cases t with
   |one f=>
    cases f with
    |i x=>
     obtain⟨p,v,h5,rfl,h6⟩:=Pg hh;cases h6;obtain⟨c1,cc,c2,e1,e2,e3,Aof⟩:=D8.put r h4 h5;refine⟨cells,ty,(0,0),c1,cc,c2,h3,.inl rfl,e1,by simpa using e2,e3,?_⟩
     intro u' cs' hu hcs;refine⟨b,_,ty,h1,h2,setRow_heap w b cells _ ty (0,0) h3,?_⟩;exact Aof u' cs' hu hcs
    |vec e sz l=>cases r<;>simp at hh
   |st fs=>
    cases r with
    |nil=>
     simp only at hh;split at hh
     ·rename_i l hl;cases hh;refine⟨cells,ty,(0,0),[],cells.toList,[],h3,.inl rfl,by simp,rfl,Amt.allI h4 hl,?_⟩
      intro u' cs' _ hcs;refine⟨b,_,ty,h1,h2,setRow_heap w b cells _ ty (0,0) h3,?_⟩;show D8 _ _ _;simpa[SV.putAt]using hcs
     ·cases hh
    |cons j r=>
     simp only at hh;split at hh
     ·rename_i y hy;obtain⟨p,v,h5,rfl,h6⟩:=Pg hh;cases h6;obtain⟨c1,cc,c2,e1,e2,e3,Akv⟩:=Amt.nth h4 hy;obtain⟨d1,d,d2,e4,e5,e6,Aof⟩:=D8.put r e3 h5;refine⟨cells,ty,(0,0),c1++d1,d,d2++c2,h3,.inl rfl,by simp[e1,e4],by simp[e2,e5],e6,?_⟩
      intro u' cs' hu hcs;simp only[SV.putAt,hy];refine⟨b,_,ty,h1,h2,setRow_heap w b cells _ ty (0,0) h3,?_⟩;have:=Akv (.i (y.put r u')) _ (Aof u' cs' hu hcs);have:=Amt.far (b:=b) this (fun k hk e=>by rw[h2]at e;cases e;omega) (c1++d1++cs'++(d2++c2)).toArray
      show Amt _ _ _ _ _ _ _;simpa using this
     ·split at hh<;>cases hh
     ·cases hh
  |_=>cases hh
 |succ j=>
  simp only[SV.hit]at hh;cases sv with
  |box t=>
   obtain⟨b',cells,ty,h1,h2,h3,h4⟩:=ho;have hbb:b'≠b:=by rintro rfl;rw[h2]at hb;cases hb
   cases t with
   |one f=>
    cases f with
    |i x=>simp[SV.Aka]at hh
    |vec e sz l=>
     obtain⟨c',hc',h4⟩:=h4;by_cases hj:j=0
     ·subst hj;simp only[SV.Aka]at hh;obtain⟨u',hu,bl,pre,cs,post,g1,g2,g3,g4,g5⟩:=Q5 h4 H2 hb hh;cases hu;obtain⟨ty1,fz1,g1,g1',Bsy⟩:=g1;refine⟨bl,ty1,fz1,pre,cs,post,g1,g1',g2,g3,g4,?_⟩;intro u' cs' hu hcs;refine⟨b',cells,ty,h1,h2,by rw[setRow_other w b b' _ hbb];exact h3,?_⟩
      exact⟨c',hc',g5 u' cs' hu hcs⟩
     ·have:(SV.box (.one (.vec e sz l))).Aka (j+1)=none:=by
       unfold SV.Aka;split<;>simp_all
      simp[this]at hh
   |st fs=>
    simp only[SV.Aka]at hh;cases hf:fs[j]? with
    |none=>simp[hf]at hh
    |some f=>
     cases f with
     |i x=>simp[hf]at hh
     |vec e sz l=>
      simp only[hf]at hh;obtain⟨c1,cc,c2,e1,e2,e3,Akv⟩:=Amt.nth h4 hf;rw[E3]at e3 Akv;obtain⟨c',hc',e3⟩:=e3;obtain⟨u',hu,bl,pre,cs,post,g1,g2,g3,g4,g5⟩:=Q5 e3 H2 hb hh;cases hu;obtain⟨ty1,fz1,g1,g1',Bsy⟩:=g1;refine⟨bl,ty1,fz1,pre,cs,post,g1,g1',g2,g3,g4,?_⟩;intro u' cs' hu hcs;simp only[SV.putAt,hf];refine⟨b',cells,ty,h1,h2,by rw[setRow_other w b b' _ hbb];exact h3,?_⟩
      show Amt _ _ _ _ _ _ _;refine Amt.Bfd (Mem.le.refl G) h4 hf (fun b'' k Cf Bh3=>⟨Bh3,setRow_other w b b'' _ ?_⟩) fun cc hcc=>?_
      ·rintro rfl;rw[hb]at Bh3;cases Bh3;omega
      ·rw[E3]at hcc ⊢;obtain⟨c'',Btg,hcc⟩:=hcc;obtain⟨u'',hu2,bl2,Bpm,cs2,Be7,k1,k2,k3,k4,k5⟩:=Q5 hcc H2 hb hh;cases hu2;obtain⟨ty2,fz2,k1,_⟩:=k1;rw[g1]at k1;cases k1;refine⟨c'',Btg,?_⟩;have Aw5:Bpm=pre∧cs2++Be7=cs++post:=by
        have:Bpm++(cs2++Be7)=pre++(cs++post):=by rw[←Df, ←k2,g2,Df]
        exact List.append_inj this (by rw[k3,g3])
       have A7h:Be7=post:=(List.append_inj Aw5.2 (by rw[D8.length _ _ k4,D8.length _ _ g4])).2
       have:=k5 u' cs' hu hcs;rwa [Aw5.1,A7h]at this
  |_=>simp[SV.Aka]at hh
end
end Go.Ab

