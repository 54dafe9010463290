/- Lemmas -/
import Derived.Test.YtkpojedpcabojaaGreatDoorAbD
import Derived.Lib.DecodeN
set_option linter.unusedVariables false
set_option linter.unusedSimpArgs false
namespace Go.Ab
def Amb.p(G:Mem):Prop:=∀w:World,(∀b o,G b=some o→w.heap[b]?=some o)→
 (∀c,c<256→w.cell? ⟨0,c,none⟩=some (.int .u8 (Go.Lib.firstT c)))∧
 (∀i,i<16→w.cell? ⟨1,2*i,none⟩=some (.int .u8 (Go.Lib.accLo i))∧w.cell? ⟨1,2*i+1,none⟩=some (.int .u8 (Go.Lib.accHi i)))
theorem Amb.mono{G G':Mem}(h:G.le G')(hp:Amb.p G):Amb.p G':=fun w hw=>hp w fun b o hb=>hw b o (h b o hb)

inductive F where
 |i (x:I)
 |vec (e:TypeId) (sz:Nat) (l:List I)
 deriving Inhabited
inductive T where
 |one (f:F)
 |st (fs:List F)
 deriving Inhabited
inductive YV where
 |ready (l:Nat) (rec:Loop)
 |jump (l:Nat) (rec:Loop) (j:Option Nat)
 deriving Inhabited
def Ao4:Option Nat→Code
 |none=>.ret
 |some id=>.exit id
inductive SV where
 |no
 |v (x:I)
 |vec (e:TypeId) (sz:Nat) (l:List I)
 |box (t:T)
 |st (fs:List F)
 |F4 (fs:List F)
 |Km (s k ver:Nat)
 |sub (s k ver n:Nat)
 |Q2 (s k ver n:Nat)
 |pt (s k ver off:Nat) (r:List Nat)
 |rp (x:I)
 |par (h:Nat)
 |own (inv:List (List Nat × Nat)) (d:D)
 |pd (s ver:Nat) (p:List Nat)
 |bd (s ver:Nat) (p:List Nat)
 |Lv (s ver:Nat) (p:List Nat) (b:Bool)
 |bs (s ver:Nat) (p:List Nat) (lo n:Nat)
 |Mp (l:List D)
 |sit (str:List UInt8) (pos:Nat)
 |mit (ks:List I) (vs:List D) (left:List Nat) (cur:Option Nat)
 |yl (y:YV)
 |cl (f:FuncId) (fs cs:List (Nat × Nat))
 |Qg (f:FuncId) (s ver:Nat) (p:List Nat)
 |bp (s ver:Nat) (p:List Nat)
 |Px (f:FuncId) (x:I) (s ver:Nat) (p:List Nat)
 |al (s ver:Nat)
 deriving Inhabited
abbrev St:=List (Nat × SV)
abbrev Lab:=Nat→Option (Nat × Nat)
def SV.Fu:SV→Nat→Option (TypeId × Nat × List I)
 | .vec e sz l,0=>some (e,sz,l)
 | .box (.one (.vec e sz l)),1=>some (e,sz,l)
 | .box (.st fs),j+1=>match fs[j]? with
   |some (.vec e sz l)=>some (e,sz,l)
   |_=>none
 |_,_=>none
theorem Aon(h k:Nat):(SV.par h).Fu k=none:=by cases k<;>rfl
theorem Row.set{w:World}{g:Nat}{e:TypeId}{cur row:Array Value}(h:Row w g e cur)(hs:row.size=cur.size):Row (w.setRow g row) g e row:=by
 obtain⟨ty,fz,h1,h2,h3⟩:=h;exact⟨ty,fz,setRow_heap w g cur row ty fz h1,by rw[hs];exact h2,h3⟩
def Lx(w:World)(e:TypeId)(sz:Nat)(c:Value)(n:Nat)(xs:List Value):Prop:=
 xs.length=n*sz∧
 ((c= .slice none 0 0∧n=0)∨
  ∃g cap cur,c= .slice (some ⟨g,0,none⟩) n cap∧0≤g∧Row w g e cur∧n≤cap∧cap≤maxLen∧cur.size=cap*sz∧cur.toList.take (n*sz)=xs)
theorem Lx.nil(w:World)(e:TypeId)(sz:Nat):Lx w e sz (.slice none 0 0) 0 []:=⟨by simp,.inl ⟨rfl,rfl⟩⟩
theorem Lx.of{w:World}{e:TypeId}{sz n:Nat}{c:Value}{xs:List Value}(h:w.ownsRow 0 e sz c n xs):Lx w e sz c n xs:=by
 refine⟨h.1,?_⟩;rcases h.2 with h|⟨g,cap,cur,h1,h2,h3,h4⟩
 ·exact .inl h
 ·exact .inr ⟨g,cap,cur,h1,h2,.of h3,h4⟩
theorem Lx.lt{w:World}{e:TypeId}{sz n:Nat}{c:Value}{xs:List Value}(h:Lx w e sz c n xs)(b:Nat)(hb:c.ownBlock=some b):b<w.heap.size:=by
 rcases h.2 with⟨rfl,_⟩|⟨g,cap,cur,rfl,_,⟨ty,fz,h3,_⟩,_⟩
 ·simp[Value.ownBlock]at hb
 ·simp only[Value.ownBlock,Af]at hb;subst hb;exact(C3.1 h3).1
theorem Lx.to{w:World}{e:TypeId}{sz n:Nat}{c:Value}{xs:List Value}(h:Lx w e sz c n xs)(he:e<1000000):w.ownsRow 0 e sz c n xs:=by
 refine⟨h.1,?_⟩;rcases h.2 with h|⟨g,cap,cur,h1,h2,h3,h4⟩
 ·exact .inl h
 ·exact .inr ⟨g,cap,cur,h1,h2,h3.to he,h4⟩
def Fg(G:Mem)(σ:Lab)(w:World)(Ca:Nat × Nat)(e:TypeId)(sz:Nat)(l:List I)(c:Value):Prop:=
 ∃xs,Lx w e sz c l.length xs∧B4 G l xs∧(∀x∈l,x.size=sz)∧∀b,c.ownBlock=some b→σ b=some Ca
def S6(G:Mem)(σ:Lab)(w:World)(Ca:Nat × Nat):F→List Value→Prop
 | .i x,cs=>Bi G x cs
 | .vec e sz l,cs=>∃c,cs=[c]∧Fg G σ w Ca e sz l c
def Gw(G:Mem)(σ:Lab)(w:World)(s:Nat):Nat→List F→List Value→Prop
 |_,[],cs=>cs=[]
 |j,f::fs,cs=>∃c d,cs=c++d∧S6 G σ w (s,j+1) f c∧Gw G σ w s (j+1) fs d
def Avw(G:Mem)(σ:Lab)(w:World)(s:Nat):T→List Value→Prop
 | .one f,cs=>S6 G σ w (s,1) f cs
 | .st fs,cs=>Gw G σ w s 0 fs cs
def F3(G:Mem)(σ:Lab)(w:World)(s:Nat):Nat→List F→List Value→Prop
 |_,[],cs=>cs=[]
 |j,.i x::fs,cs=>∃c d,cs=c::d∧Bb G x c∧F3 G σ w s (j+1) fs d
 |j,.vec e sz l::fs,cs=>∃c d,cs=c::d∧Fg G σ w (s,j+1) e sz l c∧F3 G σ w s (j+1) fs d
def Aa2(G:Mem)(x:I)(c:Value):Prop:=
 ∃b off bl ty fz pre cs post,c= .pointer (some ⟨b,off,none⟩)∧G b=some (.cells bl ty fz)∧bl.toList=pre++cs++post∧pre.length=off∧Bi G x cs
def Bs5(sz n len:Nat)(c0 c:Value):Prop:=∃ad cap,c0= .slice ad len cap∧n≤len∧len≤cap∧c= .slice (if cap=n then ad else ad.map (·.add (n*sz))) (len - n) (cap - n)
def Dr(G:Mem)(σ:Lab)(w:World)(s:Nat)(d:D)(c:Value):Prop:=
 ∃bs,Bp G w d c.cells.toList bs∧valOf d.isAgg c=true∧bs.Nodup∧∀b∈bs,∃k,σ b=some (s,k)
theorem Dr.tr{G G':Mem}{σ σ':Lab}{w w':World}{s s':Nat}{d:D}{c:Value}(h:Dr G σ w s d c)(hG:G.le G')
 (hk:∀b k,σ b=some (s,k)→σ' b=some (s',k)∧w'.heap[b]?=w.heap[b]?):Dr G' σ' w' s' d c:=by
 obtain⟨bs,h1,h2,h3,h4⟩:=h;refine⟨bs,h1.tr hG fun b hb=>?_,h2,h3,fun b hb=>?_⟩
 ·obtain⟨k,Jn⟩:=h4 b hb;exact(hk b k Jn).2
 ·obtain⟨k,Jn⟩:=h4 b hb;exact⟨k,(hk b k Jn).1⟩
def A0v(G:Mem)(σ:Lab)(w:World)(s:Nat)(l:List D)(c:Value):Prop:=
 ∃a bs,c= .tuple a∧Ff G w l a.toList bs∧bs.Nodup∧∀b∈bs,∃k,σ b=some (s,k)
theorem A0v.tr{G G':Mem}{σ σ':Lab}{w w':World}{s s':Nat}{l:List D}{c:Value}(h:A0v G σ w s l c)(hG:G.le G')
 (hk:∀b k,σ b=some (s,k)→σ' b=some (s',k)∧w'.heap[b]?=w.heap[b]?):A0v G' σ' w' s' l c:=by
 obtain⟨a,bs,h0,h1,h3,h4⟩:=h;refine⟨a,bs,h0,h1.tr hG fun b hb=>?_,h3,fun b hb=>?_⟩
 ·obtain⟨k,Jn⟩:=h4 b hb;exact(hk b k Jn).2
 ·obtain⟨k,Jn⟩:=h4 b hb;exact⟨k,(hk b k Jn).1⟩
abbrev Inv:=List (List Nat × Nat)
def alive(v:Nat)(inv:Inv)(q:List Nat):Bool:=inv.all fun e=>Nat.ble e.2 v||(Nat.ble q.length e.1.length||Lr e.1 q)
def Hv(v:Nat)(inv:Inv)(q:List Nat):Bool:=inv.all fun e=>Nat.ble e.2 v||(Nat.blt q.length e.1.length||Lr e.1 q)
theorem Ws{v x:Nat}{inv:Inv}{q:List Nat}(h:v<x)(hm:q≠[]):alive v (([],x)::inv) q=false:=by
 have h1:Nat.ble x v=false:=by cases hh:Nat.ble x v<;>simp_all [Nat.ble_eq];omega
 have h2:Nat.ble q.length 0=false:=by cases q<;>simp_all [Nat.ble]
 have h3:Lr [] q=false:=by cases q<;>rfl
 simp[alive,h1,h2,h3]
theorem Ae7{v x:Nat}{inv:Inv}{q:List Nat}(h:v<x):Hv v (([],x)::inv) q=false:=by
 have h1:Nat.ble x v=false:=by cases hh:Nat.ble x v<;>simp_all [Nat.ble_eq];omega
 have h2:Nat.blt q.length 0=false:=by simp[Nat.blt,Nat.ble]
 have h3:Lr [] q=false:=by cases q<;>rfl
 simp[Hv,h1,h2,h3]
def Qc(w:World)(d:D)(cr:Value)(p:List Nat)(c:Value):Prop:=∃v b o cs,d.at p=some v∧spot w p d (none,cr.cells.toList)=some (some (b,o),cs)∧c= .pointer (some ⟨b,o,none⟩)
def R7(w:World)(d:D)(cr:Value)(p:List Nat)(c:Value):Prop:=∃v h,d.at p=some v∧v.head=true∧spot w p d (none,cr.cells.toList)=some (h,[c])
theorem Dr.spot{G:Mem}{σ σ':Lab}{w w':World}{s:Nat}{d:D}{c:Value}(h:Dr G σ w s d c)(hk:∀b k,σ b=some (s,k)→σ' b=some (s,k)∧w'.heap[b]?=w.heap[b]?){p:List Nat}{v:D}(hv:d.at p=some v)(here:Option (Nat × Nat)):
 Ab.spot w' p d (here,c.cells.toList)=Ab.spot w p d (here,c.cells.toList):=by
 obtain⟨bs,h1,h2,h3,h4⟩:=h;exact Ajo h1 h3 (fun b hb=>(h4 b hb).elim fun k Jn=>(hk b k Jn).2) v hv
theorem Qc.tr{G:Mem}{σ σ':Lab}{w w':World}{s:Nat}{d:D}{cr:Value}{p:List Nat}{c:Value}(h:Qc w d cr p c)(ho:Dr G σ w s d cr)(hk:∀b k,σ b=some (s,k)→σ' b=some (s,k)∧w'.heap[b]?=w.heap[b]?):Qc w' d cr p c:=by
 obtain⟨v,b,o,cs,h1,h2,h3⟩:=h;exact⟨v,b,o,cs,h1,by rw[ho.spot hk h1];exact h2,h3⟩
def BsD(w:World)(d:D)(cr:Value)(p:List Nat)(lo n:Nat)(c:Value):Prop:=(∃e sz l c0 ad cap,d.at p=some (.vec e sz l)∧R7 w d cr p c0∧c0= .slice ad l.length cap∧l.length≤cap∧lo+n≤l.length∧
 c= .slice (if cap=lo then ad else ad.map (·.add (lo*sz))) n (cap - lo))∨∃u hh,d.at p=some u∧u.isAgg=true∧valOf true c=true∧spot w p d (none,cr.cells.toList)=some (hh,c.cells.toList)
theorem R7.tr{G:Mem}{σ σ':Lab}{w w':World}{s:Nat}{d:D}{cr:Value}{p:List Nat}{c:Value}(h:R7 w d cr p c)(ho:Dr G σ w s d cr)(hk:∀b k,σ b=some (s,k)→σ' b=some (s,k)∧w'.heap[b]?=w.heap[b]?):R7 w' d cr p c:=by
 obtain⟨v,hh,h1,h2,h3⟩:=h;exact⟨v,hh,h1,h2,by rw[ho.spot hk h1];exact h3⟩
theorem BsD.tr{G:Mem}{σ σ':Lab}{w w':World}{s:Nat}{d:D}{cr:Value}{p:List Nat}{lo n:Nat}{c:Value}(h:BsD w d cr p lo n c)(ho:Dr G σ w s d cr)(hk:∀b k,σ b=some (s,k)→σ' b=some (s,k)∧w'.heap[b]?=w.heap[b]?):BsD w' d cr p lo n c:=by
 rcases h with⟨e,sz,l,c0,ad,cap,h1,h2,h3⟩|⟨u,hh,h1,h2,h3,h4⟩
 ·exact .inl ⟨e,sz,l,c0,ad,cap,h1,h2.tr ho hk,h3⟩
 ·exact .inr ⟨u,hh,h1,h2,h3,by rw[ho.spot hk h1];exact h4⟩
theorem G7{c:Value}(h:valOf false c=true):c.cells.toList=[c]:=by
 cases c<;>first|rfl|cases h
theorem Wk{c:Value}(h:valOf true c=true):∃a,c= .agg a:=by
 cases c<;>first|exact⟨_,rfl⟩|cases h
theorem Dr.pt{G:Mem}{σ:Lab}{w:World}{s:Nat}{d:D}{c:Value}(h:Dr G σ w s (.ptr d) c):Qc w (.ptr d) c [0] c:=by
 obtain⟨bs,h1,h2,_⟩:=h;rw[G7 h2]at h1;simp only[Bp]at h1;obtain⟨b,cells,ty,Et,h3,h4,_⟩:=h1;injection h3 with h3
 subst h3;exact⟨d,b,0,cells.toList,rfl,by simp[Ab.spot,D.Cr,Dz,Value.cells,h4],rfl⟩
theorem Dr.A0i{G:Mem}{σ:Lab}{w:World}{s:Nat}{d:D}{c cr:Value}(h:Dr G σ w s (.ptr d) cr)(hp:Qc w (.ptr d) cr [0] c):c=cr:=by
 obtain⟨bs,h1,h2,_⟩:=h;rw[G7 h2]at h1;simp only[Bp]at h1;obtain⟨b,cells,ty,Et,h3,h4,_⟩:=h1;injection h3 with h3
 subst h3;obtain⟨v,b',o,cs,_,h5,rfl⟩:=hp;simp[Ab.spot,D.Cr,Dz,Value.cells,h4]at h5;obtain⟨⟨rfl,rfl⟩,_⟩:=h5;rfl
theorem Dr.hd{G:Mem}{σ:Lab}{w:World}{s:Nat}{d:D}{c:Value}(h:Dr G σ w s d c)(hh:d.head=true):R7 w d c [] c:=by
 obtain⟨bs,h1,h2,_⟩:=h;have:d.isAgg=false:=by cases d<;>first|rfl|cases hh
 rw[this]at h2;exact⟨d,none,rfl,hh,by simp[Ab.spot,G7 h2]⟩
def A0c(rec:Loop)(j:Option Nat):Loop:={rec with state:=.done,pending:=some (Ao4 j)}
def Ahu(σ:Lab)(w:World)(s:Nat):YV→Value→Prop
 | .ready l rec,c=>c= .func (.yield l) #[] #[]∧σ l=some (s,0)∧w.heap[l]?=some (.loop rec)
 | .jump l rec j,c=>c= .func (.yield l) #[] #[]∧σ l=some (s,0)∧w.heap[l]?=some (.loop (A0c rec j))
theorem Ahu.tr{σ σ':Lab}{w w':World}{s s':Nat}{y:YV}{c:Value}(h:Ahu σ w s y c)(hk:∀b k,σ b=some (s,k)→σ' b=some (s',k)∧w'.heap[b]?=w.heap[b]?):Ahu σ' w' s' y c:=by
 cases y with
 |ready l rec=>exact⟨h.1,(hk l 0 h.2.1).1,by rw[(hk l 0 h.2.1).2];exact h.2.2⟩
 |jump l rec j=>exact⟨h.1,(hk l 0 h.2.1).1,by rw[(hk l 0 h.2.1).2];exact h.2.2⟩
def Hu(st:St)(vv:Nat→Value):List (Nat × Nat)→List Value→Prop
 | [],[]=>True
 |(h,v)::r,c::cs=>(∃cur,st[h]?=some cur∧v≤cur.1∧(v=cur.1→c=vv h))∧Hu st vv r cs
 |_,_=>False
theorem Hu.tr{st st':St}{vv vv':Nat→Value}(hk:∀h cur,st[h]?=some cur→∃Gu,st'[h]?=some Gu∧cur.1≤Gu.1∧(cur.1=Gu.1→vv' h=vv h)):
 ∀{r:List (Nat × Nat)} {cs:List Value},Hu st vv r cs→Hu st' vv' r cs
 | [],[],_=>trivial
 |(h,v)::r,c::cs,⟨⟨cur,h1,h2,h3⟩,h4⟩=>by
  obtain⟨Gu,k1,k2,k3⟩:=hk h cur h1;exact⟨⟨Gu,k1,by omega,fun e=>by rw[k3 (by omega)];exact h3 (by omega)⟩,Hu.tr hk h4⟩
 | [],_::_,h=>h.elim
 |_::_,[],h=>by cases h
def Ba6(st:St)(r:List (Nat × Nat)):Bool:=r.all fun e=>match st[e.1]? with
 |some cur=>Nat.beq cur.1 e.2
 |none=>false
def Bc1(r:List (Nat × Nat)):List (Nat × Nat):=r.map fun e=>(e.1,0)
theorem Hu.norm{st st':St}{vv:Nat→Value}(hz:∀(h:Nat) (cur:Nat × SV),st[h]?=some cur→∃sv,st'[h]?=some (0,sv)):
 ∀{r:List (Nat × Nat)} {cs:List Value},Ba6 st r=true→Hu st vv r cs→Hu st' vv (Bc1 r) cs
 | [],[],_,_=>trivial
 |(h,v)::r,c::cs,hn,⟨⟨cur,h1,h2,h3⟩,h4⟩=>by
  simp only[Ba6,List.all_cons,Ad,h1]at hn;obtain⟨sv,hs⟩:=hz h cur h1;exact⟨⟨(0,sv),hs,Ay _,fun _=>h3 (Nat.eq_of_beq_eq_true hn.1).symm⟩,Hu.norm hz hn.2 h4⟩
 | [],_::_,_,h=>h.elim
 |_::_,[],_,h=>by cases h
theorem Hu.put{st:St}{vv vv':Nat→Value}{d:Nat}{x:Nat × SV}(hv:∀h,h≠d→vv' h=vv h):
 ∀{r:List (Nat × Nat)} {cs:List Value},(∀e∈r,e.1≠d)→Hu st vv r cs→Hu (st.set d x) vv' r cs
 | [],[],_,_=>trivial
 |(h,v)::r,c::cs,hn,⟨⟨cur,h1,h2,h3⟩,h4⟩=>by
  have A2:=hn (h,v) (Ar ..);exact⟨⟨cur,by rw[Az (Ne.symm A2)];exact h1,h2,fun e=>by rw[hv h A2];exact h3 e⟩,Hu.put hv (fun e he=>hn e (Au _ he)) h4⟩
 | [],_::_,_,h=>h.elim
 |_::_,[],_,h=>by cases h
def Y3(st:St)(vv:Nat→Value)(f:FuncId)(fs cs:List (Nat × Nat))(c:Value):Prop:=∃us ws:List Value,c= .func (.func f) us.toArray ws.toArray∧Hu st vv fs us∧Hu st vv cs ws
theorem Y3.tr{st st':St}{vv vv':Nat→Value}{f:FuncId}{fs cs:List (Nat × Nat)}{c:Value}(h:Y3 st vv f fs cs c)(hk:∀h cur,st[h]?=some cur→∃Gu,st'[h]?=some Gu∧cur.1≤Gu.1∧(cur.1=Gu.1→vv' h=vv h)):Y3 st' vv' f fs cs c:=by
 obtain⟨us,ws,h1,h2,h3⟩:=h;exact⟨us,ws,h1,h2.tr hk,h3.tr hk⟩
def Ak8(G:Mem)(σ:Lab)(w:World)(s:Nat)(ks:List I)(vs:List D)(left:List Nat)(cur:Option Nat)(c:Value):Prop:=
 ∃g b clock:Nat,∃(seen:Array Nat) (es:Array MapEntry) (bs:List Nat),c= .pointer (some ⟨g,0,none⟩)∧w.heap[g]?=some (.mapIter (some b) clock seen clock)∧w.heap[b]?=some (.map es clock)∧
  J2 G ks (es.toList.map (·.key))∧Ff G w vs (es.toList.map (·.val)) bs∧(∀x∈g::b::bs,∃k,σ x=some (s,k))∧(g::b::bs).Nodup∧
  (es.toList.map (·.born)).Pairwise (· < ·)∧(∀e∈es.toList,e.born<clock)∧left.Nodup∧(∀i∈left,i<es.toList.length)∧(∀i e,es.toList[i]?=some e→(i∈left↔seen.contains e.born=false))∧∀i,cur=some i→∃e Bt0,es.toList[i]?=some e∧seen=Array.push Bt0 e.born
theorem Ak8.tr{G G':Mem}{σ σ':Lab}{w w':World}{s s':Nat}{ks:List I}{vs:List D}{left:List Nat}{cur:Option Nat}{c:Value}(h:Ak8 G σ w s ks vs left cur c)(hG:G.le G')
 (hk:∀b k,σ b=some (s,k)→σ' b=some (s',k)∧w'.heap[b]?=w.heap[b]?):Ak8 G' σ' w' s' ks vs left cur c:=by
 obtain⟨g,b,clock,seen,es,bs,h1,h2,h3,h4,h5,h6,h7⟩:=h;have hx:∀x∈g::b::bs,w'.heap[x]?=w.heap[x]?:=fun x hx=>by
  obtain⟨k,Jn⟩:=h6 x hx;exact(hk x k Jn).2
 refine⟨g,b,clock,seen,es,bs,h1,by rw[hx g (by simp)];exact h2,by rw[hx b (by simp)];exact h3,J2.mono hG h4,h5.tr hG fun x hb=>hx x (by simp[hb]),fun x hx=>?_,h7⟩
 obtain⟨k,Jn⟩:=h6 x hx;exact⟨k,(hk x k Jn).1⟩
def Dx(G:Mem)(σ:Lab)(w:World)(s:Nat):SV→Value→Prop
 | .v x,c=>Bb G x c
 | .vec e sz l,c=>Fg G σ w (s,0) e sz l c
 | .box t,c=>∃b cells ty,c= .pointer (some ⟨b,0,none⟩)∧σ b=some (s,0)∧w.heap[b]?=some (.cells cells ty (0,0))∧Avw G σ w s t cells.toList
 | .st fs,c=>∃a,c= .agg a∧Gw G σ w s 0 fs a.toList
 | .F4 fs,c=>∃a,c= .tuple a∧F3 G σ w s 0 fs a.toList
 | .rp x,c=>Aa2 G x c
 | .own _ d,c=>Dr G σ w s d c
 | .Mp l,c=>A0v G σ w s l c
 | .sit str pos,c=>∃b,c= .pointer (some ⟨b,0,none⟩)∧σ b=some (s,0)∧w.heap[b]?=some (.stringIter ⟨⟨str⟩⟩ pos)
 | .mit ks vs left cur,c=>Ak8 G σ w s ks vs left cur c
 | .yl y,c=>Ahu σ w s y c
 |_,_=>True
def Fa(G:Mem)(σ:Lab)(w:World)(st:St)(vv:Nat→Value)(s:Nat):SV→Value→Prop
 | .Km s' k ver,c=>∃cur,st[s']?=some cur∧ver≤cur.1∧(ver=cur.1→∃e sz l,cur.2.Fu k=some (e,sz,l)∧Fg G σ w (s',k) e sz l c)
 | .sub s' k ver n,c=>∃cur,st[s']?=some cur∧ver≤cur.1∧(ver=cur.1→∃e sz l,cur.2.Fu k=some (e,sz,l)∧Fg G σ w (s',k) e sz (l.take n) c)
 | .Q2 s' k ver n,c=>∃cur,st[s']?=some cur∧ver≤cur.1∧(ver=cur.1→∃e sz l c0,cur.2.Fu k=some (e,sz,l)∧Fg G σ w (s',k) e sz l c0∧Bs5 sz n l.length c0 c)
 | .pt s' k ver off _,c=>∃cur,st[s']?=some cur∧ver≤cur.1∧(ver=cur.1→∃b,σ b=some (s',k)∧c= .pointer (some ⟨b,off,none⟩))
 | .pd s' ver p,c=>∃cur,st[s']?=some cur∧ver≤cur.1∧∀inv d,cur.2= .own inv d→p≠[]→alive ver inv p=true→Qc w d (vv s') p c
 | .Lv s' ver p b,c=>∃c0,c= .tuple #[c0,.bool b]∧∃cur,st[s']?=some cur∧ver≤cur.1∧∀inv d,cur.2= .own inv d→p≠[]→alive ver inv p=true→Qc w d (vv s') p c0
 | .bd s' ver p,c=>∃cur,st[s']?=some cur∧ver≤cur.1∧∀inv d,cur.2= .own inv d→Hv ver inv p=true→R7 w d (vv s') p c
 | .bs s' ver p lo n,c=>∃cur,st[s']?=some cur∧ver≤cur.1∧(ver=cur.1→∀inv d,cur.2= .own inv d→Hv ver inv p=true∧BsD w d (vv s') p lo n c)
 | .cl f fs cs,c=>Y3 st vv f fs cs c
 | .al s' ver,c=>∃cur,st[s']?=some cur∧ver≤cur.1∧(ver=cur.1→c=vv s')
 | .Qg f s' ver p,c=>∃g c0 ty k,c= .func (.func f) #[] #[.pointer (some ⟨g,0,none⟩)]∧σ g=some (s,k)∧w.heap[g]?=some (.cells #[c0] ty (0,0))∧∃cur,st[s']?=some cur∧ver≤cur.1∧∀inv d,cur.2= .own inv d→Hv ver inv p=true→R7 w d (vv s') p c0
 | .bp s' ver p,c=>∃g c0 ty k,c= .pointer (some ⟨g,0,none⟩)∧σ g=some (s,k)∧w.heap[g]?=some (.cells #[c0] ty (0,0))∧∃cur,st[s']?=some cur∧ver≤cur.1∧∀inv d,cur.2= .own inv d→p≠[]→alive ver inv p=true→Qc w d (vv s') p c0
 | .Px f x s' ver p,c=>∃g1 xs ty1 k1,σ g1=some (s,k1)∧w.heap[g1]?=some (.cells xs ty1 (0,0))∧Bi G x xs.toList∧∃g c0 ty k,(c= .func (.func f) #[] #[.pointer (some ⟨g1,0,none⟩),.pointer (some ⟨g,0,none⟩)]∧g1≠g)∧σ g=some (s,k)∧w.heap[g]?=some (.cells #[c0] ty (0,0))∧∃cur,st[s']?=some cur∧ver≤cur.1∧∀inv d,cur.2= .own inv d→p≠[]→alive ver inv p=true→Qc w d (vv s') p c0
 |sv,c=>Dx G σ w s sv c
structure Base where
 w:World
 n:Nat
 Lk:Array Value
def val(a:Act)(B:Base)(s:Nat):Value:=(a.tmps++B.Lk).getD s undef
structure Gc(G:Mem)(σ:Lab)(Fr:Mem)(w0:Base)(w:World):Prop where
 fixed:∀b o,G b=some o→w.heap[b]?=some o
 own:∀b Ca,σ b=some Ca→G b=none∧Fr b=none∧b<w.heap.size
 inj:∀b b' Ca,σ b=some Ca→σ b'=some Ca→b=b'
 frame:∀b o,Fr b=some o→w.heap[b]?=some o
 os:w.os=w0.w.os
 tape:w.tape=w0.w.tape
 output:w.output=w0.w.output
 size:w0.w.heap.size≤w.heap.size
 apart:∀b o,Fr b=some o→G b=none
 Mv:Amb.p G
def mark(r:Nat):Deferred:={target:=.collected r,args:= #[]}
def Marks(Fr:Mem)(w0:World)(ds:List Deferred):Prop:=∃rs:List Nat,ds=rs.map mark∧rs.Nodup∧∀r∈rs,w0.heap.size≤r∧Fr r=some (.deferred (some []))
theorem Marks.nil(Fr:Mem)(w0:World):Marks Fr w0 []:=⟨[],rfl,Dn,by simp⟩
structure Rel(G:Mem)(σ:Lab)(Fr:Mem)(w0:Base)(st:St)(a:Act)(w:World):Prop where
 Bz:Gc G σ Fr w0 w
 defers:Marks Fr w0.w a.defers
 n:a.tmps.size=w0.n
 len:a.tmps.size+w0.Lk.size=st.length
 Bj:∀s ver sv,st[s]?=some (ver,sv)→Fa G σ w st (val a w0) s sv (val a w0 s)
 Nv:∀s ver h,st[s]?=some (ver,.par h)→val a w0 s=val a w0 h∧w0.n≤h
def Kept(σ σ':Lab)(w w':World)(s:Nat):Prop:=∀b k,σ b=some (s,k)→σ' b=some (s,k)∧w'.heap[b]?=w.heap[b]?
theorem Kept.refl(σ:Lab)(w:World)(s:Nat):Kept σ σ w w s:=fun _ _ h=>⟨h,rfl⟩
theorem Lx.same{w w':World}{e:TypeId}{sz n:Nat}{c:Value}{xs:List Value}(h:Lx w e sz c n xs)
 (hk:∀b,c.ownBlock=some b→w'.heap[b]?=w.heap[b]?):Lx w' e sz c n xs:=by
 refine⟨h.1,?_⟩;rcases h.2 with hn|⟨g,cap,cur,rfl,hb,hg,r⟩
 ·exact .inl hn
 ·exact .inr ⟨g,cap,cur,rfl,hb,hg.same (hk g (by simp[Value.ownBlock])),r⟩
theorem Fg.tr{G G':Mem}{σ σ':Lab}{w w':World}{Ca Tb:Nat × Nat}{e:TypeId}{sz:Nat}{l:List I}{c:Value}(h:Fg G σ w Ca e sz l c)
 (hG:G.le G') (hk:∀b,σ b=some Ca→σ' b=some Tb∧w'.heap[b]?=w.heap[b]?):Fg G' σ' w' Tb e sz l c:=by
 obtain⟨xs,h1,h2,h3,h4⟩:=h;exact⟨xs,Lx.same h1 fun b hb=>(hk b (h4 b hb)).2,B4.mono hG l xs h2,h3,fun b hb=>(hk b (h4 b hb)).1⟩
theorem S6.tr{G G':Mem}{σ σ':Lab}{w w':World}{Ca Tb:Nat × Nat}{f:F}{cs:List Value}(h:S6 G σ w Ca f cs)
 (hG:G.le G') (hk:∀b,σ b=some Ca→σ' b=some Tb∧w'.heap[b]?=w.heap[b]?):S6 G' σ' w' Tb f cs:=by
 cases f with
 |i x=>exact Bi.mono hG x cs h
 |vec e sz l=>
  obtain⟨c,hc,h⟩:=h;exact⟨c,hc,h.tr hG hk⟩
theorem Gw.tr{G G':Mem}{σ σ':Lab}{w w':World}{s s':Nat}(hG:G.le G'):∀{fs:List F} {j:Nat} {cs:List Value},Gw G σ w s j fs cs→
 (∀b k,j<k→σ b=some (s,k)→σ' b=some (s',k)∧w'.heap[b]?=w.heap[b]?)→Gw G' σ' w' s' j fs cs
 | [],_,_,h,_=>h
 |f::fs,j,cs,h,hk=>by
  obtain⟨c,d,e,h1,h2⟩:=h;exact⟨c,d,e,h1.tr hG fun b hb=>hk b (j+1) (by omega) hb,Gw.tr hG h2 fun b k hj hb=>hk b k (by omega) hb⟩
theorem F3.tr{G G':Mem}{σ σ':Lab}{w w':World}{s s':Nat}(hG:G.le G'):∀{fs:List F} {j:Nat} {cs:List Value},F3 G σ w s j fs cs→
 (∀b k,j<k→σ b=some (s,k)→σ' b=some (s',k)∧w'.heap[b]?=w.heap[b]?)→F3 G' σ' w' s' j fs cs
 | [],_,_,h,_=>h
 | .i x::fs,j,cs,h,hk=>by
   obtain⟨c,d,e,h1,h2⟩:=h;exact⟨c,d,e,h1.mono hG,F3.tr hG h2 fun b k hj hb=>hk b k (by omega) hb⟩
 | .vec _ _ _::fs,j,cs,h,hk=>by
   obtain⟨c,d,e,h1,h2⟩:=h;exact⟨c,d,e,h1.tr hG fun b hb=>hk b (j+1) (by omega) hb,F3.tr hG h2 fun b k hj hb=>hk b k (by omega) hb⟩
theorem Avw.tr{G G':Mem}{σ σ':Lab}{w w':World}{s s':Nat}{t:T}{cs:List Value}(h:Avw G σ w s t cs)(hG:G.le G')
 (hk:∀b k,0<k→σ b=some (s,k)→σ' b=some (s',k)∧w'.heap[b]?=w.heap[b]?):Avw G' σ' w' s' t cs:=by
 cases t with
 |one f=>exact S6.tr h hG fun b hb=>hk b 1 (by omega) hb
 |st fs=>exact Gw.tr hG h hk
theorem Aa2.mono{G G':Mem}(hG:G.le G'){x:I}{c:Value}(h:Aa2 G x c):Aa2 G' x c:=by
 obtain⟨b,off,bl,ty,fz,pre,cs,post,h1,h2,h3,h4,h5⟩:=h;exact⟨b,off,bl,ty,fz,pre,cs,post,h1,hG _ _ h2,h3,h4,Bi.mono hG x cs h5⟩
theorem Dx.tr{G G':Mem}{σ σ':Lab}{w w':World}{s s':Nat}{sv:SV}{c:Value}(h:Dx G σ w s sv c)(hG:G.le G')
 (hk:∀b k,σ b=some (s,k)→σ' b=some (s',k)∧w'.heap[b]?=w.heap[b]?):Dx G' σ' w' s' sv c:=by
 cases sv with
 |v x=>exact Bb.mono hG h
 |vec e sz l=>exact Fg.tr h hG fun b hb=>hk b 0 hb
 |box t=>
  obtain⟨b,cells,ty,h1,h2,h3,h4⟩:=h;obtain⟨k1,k2⟩:=hk b 0 h2;exact⟨b,cells,ty,h1,k1,by rw[k2];exact h3,Avw.tr h4 hG fun b k _ hb=>hk b k hb⟩
 |st fs=>
  obtain⟨a,h1,h2⟩:=h;exact⟨a,h1,Gw.tr hG h2 fun b k _ hb=>hk b k hb⟩
 |F4 fs=>
  obtain⟨a,h1,h2⟩:=h;exact⟨a,h1,F3.tr hG h2 fun b k _ hb=>hk b k hb⟩
 |rp x=>exact Aa2.mono hG h
 |own _ d=>exact Dr.tr h hG hk
 |Mp l=>exact A0v.tr h hG hk
 |sit str pos=>
  obtain⟨b,h1,h2,h3⟩:=h;exact⟨b,h1,(hk b 0 h2).1,by rw[(hk b 0 h2).2];exact h3⟩
 |mit ks vs left cur=>exact Ak8.tr h hG hk
 |yl y=>exact Ahu.tr h hk
 |_=>trivial
def SV.root:SV→Option Nat
 | .Km s _ _| .sub s _ _ _| .Q2 s _ _ _| .pt s _ _ _ _| .pd s _ _| .Lv s _ _ _| .bd s _ _| .bs s _ _ _ _=>some s
 | .cl _ _ _=>some 0
 | .Qg _ s _ _=>some s
 | .bp s _ _=>some s
 | .Px _ _ s _ _=>some s
 | .al s _=>some s
 |_=>none
theorem Fa.own{G:Mem}{σ:Lab}{w:World}{st:St}{vv:Nat→Value}{s:Nat}{sv:SV}{c:Value}(hr:sv.root=none):Fa G σ w st vv s sv c=Dx G σ w s sv c:=by
 cases sv<;>first|rfl|simp[SV.root]at hr
theorem Fa.tr{G G':Mem}{σ σ':Lab}{w w':World}{st:St}{vv vv':Nat→Value}{s d ver:Nat}{sv new:SV}{old:Nat × SV}{c:Value}(h:Fa G σ w st vv s sv c)(hG:G.le G')(hs:s≠d)
 (hd:st[d]?=some old) (hv:old.1<ver) (hk:∀s',s'≠d→Kept σ σ' w w' s') (Tw:∀s',s'≠d→vv' s'=vv s') (Vq:∀inv t,new= .own inv t→∃r,inv=([],ver)::r)
 (Jd:∀s ver sv,st[s]?=some (ver,sv)→Fa G σ w st vv s sv (vv s)):Fa G' σ' w' (st.set d (ver,new)) vv' s sv c:=by
 have look:∀s' cur,s'≠d→st[s']?=some cur→(st.set d (ver,new))[s']?=some cur:=fun s' cur A2 hc=>by
  rw[Az (Ne.symm A2)];exact hc
 have here:(st.set d (ver,new))[d]?=some (ver,new):=by
  have:d<st.length:=(Ak.1 hd).1;simp[this]
 cases sv with
 |Km s' k Cn=>
  obtain⟨cur,h1,h2,h3⟩:=h;by_cases A2:s'=d
  ·subst A2;rw[hd]at h1;cases h1;exact⟨_,here,by show Cn≤ver;omega,fun e=>by exfalso;have:Cn=ver:=e;omega⟩
  ·refine⟨cur,look s' cur A2 h1,h2,fun e=>?_⟩
   obtain⟨e,sz,l,h4,h5⟩:=h3 e;exact⟨e,sz,l,h4,h5.tr hG fun b hb=>hk s' A2 b k hb⟩
 |sub s' k Cn n=>
  obtain⟨cur,h1,h2,h3⟩:=h;by_cases A2:s'=d
  ·subst A2;rw[hd]at h1;cases h1;exact⟨_,here,by show Cn≤ver;omega,fun e=>by exfalso;have:Cn=ver:=e;omega⟩
  ·refine⟨cur,look s' cur A2 h1,h2,fun e=>?_⟩
   obtain⟨e,sz,l,h4,h5⟩:=h3 e;exact⟨e,sz,l,h4,h5.tr hG fun b hb=>hk s' A2 b k hb⟩
 |Q2 s' k Cn n=>
  obtain⟨cur,h1,h2,h3⟩:=h;by_cases A2:s'=d
  ·subst A2;rw[hd]at h1;cases h1;exact⟨_,here,by show Cn≤ver;omega,fun e=>by exfalso;have:Cn=ver:=e;omega⟩
  ·refine⟨cur,look s' cur A2 h1,h2,fun e=>?_⟩
   obtain⟨e,sz,l,c0,h4,h5,h6⟩:=h3 e;exact⟨e,sz,l,c0,h4,h5.tr hG fun b hb=>hk s' A2 b k hb,h6⟩
 |pt s' k Cn off r=>
  obtain⟨cur,h1,h2,h3⟩:=h;by_cases A2:s'=d
  ·subst A2;rw[hd]at h1;cases h1;exact⟨_,here,by show Cn≤ver;omega,fun e=>by exfalso;have:Cn=ver:=e;omega⟩
  ·refine⟨cur,look s' cur A2 h1,h2,fun e=>?_⟩
   obtain⟨b,h4,h5⟩:=h3 e;exact⟨b,(hk s' A2 b k h4).1,h5⟩
 |Lv s' Cn p b=>
  obtain⟨c0,Gq,h⟩:=h;obtain⟨cur,h1,h2,h3⟩:=h;refine⟨c0,Gq,?_⟩;by_cases A2:s'=d
  ·subst A2;rw[hd]at h1;cases h1;refine⟨_,here,by show Cn≤ver;omega,fun inv t e hp ha=>?_⟩
   obtain⟨r,rfl⟩:=Vq inv t e;cases p with
   |nil=>exact absurd rfl hp
   |cons i p=>rw[Ws (by omega) (by simp)]at ha;cases ha
  ·refine⟨cur,look s' cur A2 h1,h2,fun inv t e hp ha=>?_⟩
   rw[Tw s' A2];obtain⟨v,Ek⟩:=cur;simp only at e;subst e;exact(h3 inv t rfl hp ha).tr (show Dr G σ w s' t (vv s')from Jd s' v _ h1) (hk s' A2)
 |pd s' Cn p=>
  obtain⟨cur,h1,h2,h3⟩:=h;by_cases A2:s'=d
  ·subst A2;rw[hd]at h1;cases h1;refine⟨_,here,by show Cn≤ver;omega,fun inv t e hp ha=>?_⟩
   obtain⟨r,rfl⟩:=Vq inv t e;cases p with
   |nil=>exact absurd rfl hp
   |cons i p=>rw[Ws (by omega) (by simp)]at ha;cases ha
  ·refine⟨cur,look s' cur A2 h1,h2,fun inv t e hp ha=>?_⟩
   rw[Tw s' A2];obtain⟨v,Ek⟩:=cur;simp only at e;subst e;exact(h3 inv t rfl hp ha).tr (show Dr G σ w s' t (vv s')from Jd s' v _ h1) (hk s' A2)
 |bs s' Cn p lo n=>
  obtain⟨cur,h1,h2,h3⟩:=h;by_cases A2:s'=d
  ·subst A2;rw[hd]at h1;cases h1;exact⟨_,here,by show Cn≤ver;omega,fun e=>by exfalso;have:Cn=ver:=e;omega⟩
  ·refine⟨cur,look s' cur A2 h1,h2,fun e0 inv t e=>?_⟩
   rw[Tw s' A2];obtain⟨v,Ek⟩:=cur;simp only at e;subst e;exact⟨(h3 e0 inv t rfl).1,(h3 e0 inv t rfl).2.tr (show Dr G σ w s' t (vv s')from Jd s' v _ h1) (hk s' A2)⟩
 |Qg f s' Cn p=>
  obtain⟨g,c0,ty,kk,Gq,Le,Kh,h⟩:=h;obtain⟨cur,h1,h2,h3⟩:=h;have La:=hk s hs g kk Le;refine⟨g,c0,ty,kk,Gq,La.1,by rw[La.2];exact Kh,?_⟩
  by_cases A2:s'=d
  ·subst A2;rw[hd]at h1;cases h1;refine⟨_,here,by show Cn≤ver;omega,fun inv t e ha=>?_⟩
   obtain⟨r,rfl⟩:=Vq inv t e;rw[Ae7 (by omega)]at ha
   cases ha
  ·refine⟨cur,look s' cur A2 h1,h2,fun inv t e ha=>?_⟩
   rw[Tw s' A2];obtain⟨v,Ek⟩:=cur;simp only at e;subst e;exact(h3 inv t rfl ha).tr (show Dr G σ w s' t (vv s')from Jd s' v _ h1) (hk s' A2)
 |bp s' Cn p=>
  obtain⟨g,c0,ty,kk,Gq,Le,Kh,h⟩:=h;obtain⟨cur,h1,h2,h3⟩:=h;have La:=hk s hs g kk Le;refine⟨g,c0,ty,kk,Gq,La.1,by rw[La.2];exact Kh,?_⟩
  by_cases A2:s'=d
  ·subst A2;rw[hd]at h1;cases h1;refine⟨_,here,by show Cn≤ver;omega,fun inv t e hp ha=>?_⟩
   obtain⟨r,rfl⟩:=Vq inv t e;cases p with
   |nil=>exact absurd rfl hp
   |cons i p=>rw[Ws (by omega) (by simp)]at ha;cases ha
  ·refine⟨cur,look s' cur A2 h1,h2,fun inv t e hp ha=>?_⟩
   rw[Tw s' A2];obtain⟨v,Ek⟩:=cur;simp only at e;subst e;exact(h3 inv t rfl hp ha).tr (show Dr G σ w s' t (vv s')from Jd s' v _ h1) (hk s' A2)
 |Px fb yb s' Cn p=>
  obtain⟨gb,xb,tb,kb,Jx,Ku,Nq,h⟩:=h;obtain⟨g,c0,ty,kk,Gq,Le,Kh,h⟩:=h;obtain⟨cur,h1,h2,h3⟩:=h;have La:=hk s hs g kk Le;have hbk:=hk s hs gb kb Jx;refine⟨gb,xb,tb,kb,hbk.1,by rw[hbk.2];exact Ku,(by first|exact Bi.mono hG yb _ Nq|exact Nq),?_⟩
  refine⟨g,c0,ty,kk,Gq,La.1,by rw[La.2];exact Kh,?_⟩
  by_cases A2:s'=d
  ·subst A2;rw[hd]at h1;cases h1;refine⟨_,here,by show Cn≤ver;omega,fun inv t e hp ha=>?_⟩
   obtain⟨r,rfl⟩:=Vq inv t e;cases p with
   |nil=>exact absurd rfl hp
   |cons i p=>rw[Ws (by omega) (by simp)]at ha;cases ha
  ·refine⟨cur,look s' cur A2 h1,h2,fun inv t e hp ha=>?_⟩
   rw[Tw s' A2];obtain⟨v,Ek⟩:=cur;simp only at e;subst e;exact(h3 inv t rfl hp ha).tr (show Dr G σ w s' t (vv s')from Jd s' v _ h1) (hk s' A2)
 |bd s' Cn p=>
  obtain⟨cur,h1,h2,h3⟩:=h;by_cases A2:s'=d
  ·subst A2;rw[hd]at h1;cases h1;refine⟨_,here,by show Cn≤ver;omega,fun inv t e ha=>?_⟩
   obtain⟨r,rfl⟩:=Vq inv t e;rw[Ae7 (by omega)]at ha
   cases ha
  ·refine⟨cur,look s' cur A2 h1,h2,fun inv t e ha=>?_⟩
   rw[Tw s' A2];obtain⟨v,Ek⟩:=cur;simp only at e;subst e;exact(h3 inv t rfl ha).tr (show Dr G σ w s' t (vv s')from Jd s' v _ h1) (hk s' A2)
 |cl f fs cs=>
  refine Y3.tr h fun s' cur h1=>?_
  by_cases A2:s'=d
  ·subst A2;rw[hd]at h1;cases h1;exact⟨_,here,by show old.1≤ver;omega,fun e=>by exfalso;have:old.1=ver:=e;omega⟩
  ·exact⟨cur,look s' cur A2 h1,Ay _,fun _=>Tw s' A2⟩
 |al s' Cn=>
  obtain⟨cur,h1,h2,h3⟩:=h;by_cases A2:s'=d
  ·subst A2;rw[hd]at h1;cases h1;exact⟨_,here,by show Cn≤ver;omega,fun e=>by exfalso;have:Cn=ver:=e;omega⟩
  ·exact⟨cur,look s' cur A2 h1,h2,fun e=>by rw[Tw s' A2];exact h3 e⟩
 |_=>
  rw[Fa.own rfl]at h ⊢;exact Dx.tr h hG fun b k hb=>hk s hs b k hb
def SV.fresh(sv:SV)(ver:Nat):SV:=match sv with
 | .own _ t=>.own [([],ver)] t
 |sv=>sv
theorem W0{sv:SV}{ver:Nat}:∀inv t,sv.fresh ver= .own inv t→∃r,inv=([],ver)::r:=by
 intro inv t e;cases sv<;>simp only[SV.fresh,SV.own.injEq,reduceCtorEq]at e;exact⟨[],e.1.symm⟩
def SV.Ua(sv old:SV)(ver:Nat):SV:=match sv with
 | .own _ t=>match t with
   | .ptr d=>match old with
     | .own inv t0=>match t0 with
       | .ptr _=>.own (([0],ver)::inv) (.ptr d)
       |_=>.own [([],ver)] (.ptr d)
     |_=>.own [([],ver)] (.ptr d)
   |d=>.own [([],ver)] d
 |sv=>sv
theorem Vp(sv old:SV)(ver:Nat):sv.Ua old ver=sv.fresh ver∨∃i0 i1 t0 t1,old= .own i0 (.ptr t0)∧sv= .own i1 (.ptr t1)∧sv.Ua old ver= .own (([0],ver)::i0) (.ptr t1):=by
 unfold SV.Ua;split
 ·rename_i i t;split
  ·rename_i d;split
   ·rename_i inv t0;split
    ·rename_i d0;exact .inr ⟨_,_,_,_,rfl,rfl,rfl⟩
    ·exact .inl rfl
   ·exact .inl rfl
  ·exact .inl rfl
 ·exact .inl (by cases sv<;>first|rfl|(rename_i h;exact absurd rfl (h _ _)))
theorem A1o{sv old:SV}{ver:Nat}:(sv.Ua old ver).root=sv.root:=by
 rcases Vp sv old ver with h|⟨i0,i1,t0,t1,rfl,rfl,h⟩
 ·rw[h];cases sv<;>rfl
 ·rw[h];rfl
theorem A55{sv old:SV}{ver h:Nat}(e:sv.Ua old ver= .par h):sv= .par h:=by
 rcases Vp sv old ver with h1|⟨i0,i1,t0,t1,rfl,rfl,h1⟩
 ·rw[h1]at e;cases sv<;>simp_all [SV.fresh]
 ·rw[h1]at e;cases e
theorem A56{G:Mem}{σ:Lab}{w:World}{s:Nat}{sv old:SV}{ver:Nat}{c:Value}:Dx G σ w s (sv.Ua old ver) c=Dx G σ w s sv c:=by
 rcases Vp sv old ver with h1|⟨i0,i1,t0,t1,rfl,rfl,h1⟩
 ·rw[h1];cases sv<;>rfl
 ·rw[h1];rfl
def Af4(old:SV)(ver:Nat)(inv:Inv)(t:D):Prop:=(∃r,inv=([],ver)::r)∨∃i0 t0 t1,old= .own i0 (.ptr t0)∧t= .ptr t1∧inv=([0],ver)::i0
theorem A1n{sv old:SV}{ver:Nat}:∀inv t,sv.Ua old ver= .own inv t→Af4 old ver inv t:=by
 intro inv t e;rcases Vp sv old ver with h1|⟨i0,i1,t0,t1,rfl,rfl,h1⟩
 ·rw[h1]at e;exact .inl (W0 _ _ e)
 ·rw[h1]at e;cases e;exact .inr ⟨_,_,_,rfl,rfl,rfl⟩
theorem Af4.pt{G G':Mem}{σ σ':Lab}{w w':World}{s:Nat}{old:SV}{ver v:Nat}{inv:Inv}{t:D}{c cr:Value}{p:List Nat}(h:Af4 old ver inv t)(hv:v<ver)(hp:p≠[])(ha:alive v inv p=true)
 (ho:∀i0 t0,old= .own i0 t0→Dr G σ w s t0 cr) (hn:Dr G' σ' w' s t cr) (hold:∀i0 t0,old= .own i0 t0→alive v i0 p=true→Qc w t0 cr p c):Qc w' t cr p c:=by
 rcases h with⟨r,rfl⟩|⟨i0,t0,t1,rfl,rfl,rfl⟩
 ·cases p with
  |nil=>exact absurd rfl hp
  |cons i p=>rw[Ws hv (by simp)]at ha;cases ha
 ·have h1:Nat.ble ver v=false:=by cases hh:Nat.ble ver v<;>simp_all [Nat.ble_eq];omega
  simp only[alive,List.all_cons,h1,Bool.false_or,Ad]at ha;obtain⟨ha1,ha2⟩:=ha;have h2:=hold _ _ rfl ha2
  match p,hp,ha1,h2 with
  | [i],_,_,h2=>
    have h3:=h2;obtain⟨v0,b,o,cs,g1,_,_⟩:=h3;have hi:i=0:=by
     cases i with
     |zero=>rfl
     |succ i=>simp[D.at,D.Cr]at g1
    subst hi;have:=Dr.A0i (ho _ _ rfl) h2;subst this;exact hn.pt
  |i::j::p,_,ha1,_=>exfalso;simp[Lr,Nat.ble]at ha1
theorem Af4.hd{G G':Mem}{σ σ':Lab}{w w':World}{s:Nat}{old:SV}{ver v:Nat}{inv:Inv}{t:D}{c cr:Value}{p:List Nat}(h:Af4 old ver inv t)(hv:v<ver)(ha:Hv v inv p=true)
 (ho:∀i0 t0,old= .own i0 t0→Dr G σ w s t0 cr) (hn:Dr G' σ' w' s t cr) (hold:∀i0 t0,old= .own i0 t0→Hv v i0 p=true→R7 w t0 cr p c):R7 w' t cr p c:=by
 rcases h with⟨r,rfl⟩|⟨i0,t0,t1,rfl,rfl,rfl⟩
 ·rw[Ae7 hv]at ha;cases ha
 ·have h1:Nat.ble ver v=false:=by cases hh:Nat.ble ver v<;>simp_all [Nat.ble_eq];omega
  simp only[Hv,List.all_cons,h1,Bool.false_or,Ad]at ha;obtain⟨ha1,ha2⟩:=ha;have h2:=hold _ _ rfl ha2
  match p,ha1,h2 with
  | [],_,h2=>
    obtain⟨v0,hh,g1,g2,g3⟩:=h2;have h4:=(ho _ _ rfl).hd rfl;obtain⟨v1,hh1,k1,k2,k3⟩:=h4;rw[g3]at k3;simp only[Af,B6,Em,and_true]at k3;rw[k3.2];exact hn.hd rfl
  | [i],ha1,_=>exfalso;simp[Lr,Nat.blt,Nat.ble]at ha1
  |i::j::p,ha1,_=>exfalso;simp[Lr,Nat.blt,Nat.ble]at ha1
theorem Aia{sv:SV}{ver:Nat}:(sv.fresh ver).root=sv.root:=by cases sv<;>rfl
theorem Amq{sv:SV}{ver h:Nat}:sv.fresh ver= .par h↔sv= .par h:=by cases sv<;>simp[SV.fresh]
theorem Amr{G:Mem}{σ:Lab}{w:World}{s:Nat}{sv:SV}{ver:Nat}{c:Value}:Dx G σ w s (sv.fresh ver) c=Dx G σ w s sv c:=by cases sv<;>rfl
theorem Aom{a:Act}{B:Base}{d:Nat}{c:Value}(h:d<a.tmps.size):val (a.put (some d) c) B d=c:=by
 unfold val Act.put;have:d<(a.tmps.setIfInBounds d c++B.Lk).size:=by simp;omega
 rw[Aq,D4 (by simpa using h)]
 simp[h]
theorem Db{a:Act}{B:Base}{d s:Nat}{c:Value}(h:s≠d):val (a.put (some d) c) B s=val a B s:=by
 unfold val Act.put;rw[Aq,Aq];by_cases hs:s<a.tmps.size
 ·rw[D4 (by simpa using hs),D4 hs,Array.getElem?_setIfInBounds_ne (Ne.symm h)]
 ·rw[Dm (by simp;omega),Dm (by omega)]
  simp
theorem G9{a:Act}{B:Base}{s:Nat}(h:s<a.tmps.size):val a B s=a.eval (.tmp s):=by
 unfold val;rw[Aq,D4 h];simp[Act.eval]
theorem Rel.self{G G':Mem}{σ σ':Lab}{Fr:Mem}{w0:Base}{w w':World}{st:St}{a:Act}{d ver:Nat}{new:SV}{old:Nat × SV}
 (h:Rel G σ Fr w0 st a w) (Dj:Gc G' σ' Fr w0 w') (hG:G.le G') (hd:st[d]?=some old) (hv:old.1<ver)
 (hk:∀s',s'≠d→Kept σ σ' w w' s') (Ge:Fa G' σ' w' (st.set d (ver,new)) (val a w0) d new (val a w0 d)) (hp:∀h,new= .par h→val a w0 d=val a w0 h∧w0.n≤h:=by intro _ e;cases e)
 (Vq:∀inv t,new= .own inv t→∃r,inv=([],ver)::r:=by intro _ _ e;cases e):
 Rel G' σ' Fr w0 (st.set d (ver,new)) a w':=by
 have Di:d<st.length:=(Ak.1 hd).1;have here:(st.set d (ver,new))[d]?=some (ver,new):=by simp[Di]
 refine⟨Dj,h.defers,h.n,by simp[h.len],?_,?_⟩
 ·intro s Cn sv hs;by_cases Rf:s=d
  ·subst Rf;rw[here]at hs;cases hs;exact Ge
  ·rw[Az (Ne.symm Rf)]at hs;exact(h.Bj s Cn sv hs).tr hG Rf hd hv hk (fun _ _=>rfl) Vq h.Bj
 ·intro s Cn h' hs;by_cases Rf:s=d
  ·subst Rf;rw[here]at hs;cases hs;exact hp h' rfl
  ·rw[Az (Ne.symm Rf)]at hs;exact h.Nv s Cn h' hs
theorem Rel.put{G G':Mem}{σ σ':Lab}{Fr:Mem}{w0:Base}{w w':World}{st:St}{a:Act}{d ver:Nat}{new:SV}{old:Nat × SV}{c:Value}
 (h:Rel G σ Fr w0 st a w) (Up:d<w0.n) (Dj:Gc G' σ' Fr w0 w') (hG:G.le G') (hd:st[d]?=some old) (hv:old.1<ver)
 (hk:∀s',s'≠d→Kept σ σ' w w' s') (Ge:Fa G' σ' w' (st.set d (ver,new)) (val (a.put (some d) c) w0) d new c) (hp:∀h,new= .par h→c=val a w0 h∧w0.n≤h:=by intro _ e;cases e)
 (Vq:∀inv t,new= .own inv t→∃r,inv=([],ver)::r:=by intro _ _ e;cases e):
 Rel G' σ' Fr w0 (st.set d (ver,new)) (a.put (some d) c) w':=by
 have Di:d<st.length:=(Ak.1 hd).1;have here:(st.set d (ver,new))[d]?=some (ver,new):=by simp[Di]
 refine⟨Dj,h.defers,by simpa[Act.put]using h.n,by simpa[Act.put]using h.len,?_,?_⟩
 ·intro s Cn sv hs;by_cases Rf:s=d
  ·subst Rf;rw[here]at hs;cases hs;rw[Aom (by rw[h.n];exact Up)]
   exact Ge
  ·rw[Az (Ne.symm Rf)]at hs;rw[Db Rf];exact(h.Bj s Cn sv hs).tr hG Rf hd hv hk (fun s' Hf=>Db Hf) Vq h.Bj
 ·intro s Cn h' hs;by_cases Rf:s=d
  ·subst Rf;rw[here]at hs;cases hs;obtain⟨h1,h2⟩:=hp h' rfl;rw[Aom (by rw[h.n];exact Up),Db (by omega)]
   exact⟨h1,h2⟩
  ·rw[Az (Ne.symm Rf)]at hs;obtain⟨h1,h2⟩:=h.Nv s Cn h' hs;rw[Db Rf,Db (by omega)]
   exact⟨h1,h2⟩
def Lab.drop(σ:Lab)(d:Nat):Lab:=fun b=>match σ b with
 |some (s,k)=>if s=d then none else some (s,k)
 |none=>none
theorem Lab.D1{σ:Lab}{d b:Nat}{s k:Nat}:σ.drop d b=some (s,k)↔s≠d∧σ b=some (s,k):=by
 unfold Lab.drop;split
 ·rename_i s' k' h;split
  ·rename_i e;subst e;simp[h];intro A2 e;exact absurd e.symm A2
  ·rename_i e;simp only[h,Af,B6];constructor
   ·rintro⟨rfl,rfl⟩;exact⟨e,rfl,rfl⟩
   ·exact fun x=>x.2
 ·rename_i h;simp[h]
theorem Lab.Ym{σ:Lab}{d b:Nat}{Ca:Nat × Nat}(h:σ.drop d b=some Ca):σ b=some Ca:=by
 obtain⟨s,k⟩:=Ca;exact(Lab.D1.1 h).2
theorem Gc.drop{G:Mem}{σ:Lab}{Fr:Mem}{w0:Base}{w:World}(h:Gc G σ Fr w0 w)(d:Nat):Gc G (σ.drop d) Fr w0 w:=
 ⟨h.fixed,fun b Ca hb=>h.own b Ca (Lab.Ym hb),fun b b' Ca hb Dc=>h.inj b b' Ca (Lab.Ym hb) (Lab.Ym Dc),h.frame,h.os,h.tape,h.output,h.size,h.apart,h.Mv⟩
theorem Kept.drop(σ:Lab)(w:World){d s:Nat}(hs:s≠d):Kept σ (σ.drop d) w w s:=fun _ _ hb=>⟨Lab.D1.2 ⟨hs,hb⟩,rfl⟩
theorem Rel.drop{G:Mem}{σ:Lab}{Fr:Mem}{w0:Base}{w:World}{st:St}{a:Act}{d ver:Nat}{old:Nat × SV}
 (h:Rel G σ Fr w0 st a w) (hd:st[d]?=some old) (hv:old.1<ver):Rel G (σ.drop d) Fr w0 (st.set d (ver,.no)) a w:=by
 exact Rel.self (new:=.no) h (h.Bz.drop d) (Mem.le.refl G) hd hv (fun s' hs=>Kept.drop σ w hs) trivial
theorem Rel.Bx1{G:Mem}{σ:Lab}{Fr:Mem}{w0:Base}{w w':World}{st:St}{a:Act}{d ver:Nat}{old new:SV}
 (h:Rel G σ Fr w0 st a w) (Dj:Gc G σ Fr w0 w') (hd:st[d]?=some (ver,old))
 (hk:∀s',s'≠d→Kept σ σ w w' s') (Ly:old.root=none) (hnr:new.root=none) (hnp:∀h,new≠ .par h) (X9:∀inv t,new≠ .own inv t)
 (Ge:∀c,Dx G σ w d old c→Dx G σ w' d new c)
 (hb:∀k e sz l c,old.Fu k=some (e,sz,l)→∃l',new.Fu k=some (e,sz,l')∧(Fg G σ w (d,k) e sz l c→Fg G σ w' (d,k) e sz l' c)∧
   ∀n,Fg G σ w (d,k) e sz (l.take n) c→Fg G σ w' (d,k) e sz (l'.take n) c):
 Rel G σ Fr w0 (st.set d (ver,new)) a w':=by
 have Di:d<st.length:=(Ak.1 hd).1;refine⟨Dj,h.defers,h.n,by simp[h.len],?_,?_⟩
 rotate_left
 ·intro s Cn h' hs;by_cases Rf:s=d
  ·subst Rf;have:(st.set s (ver,new))[s]?=some (ver,new):=by simp[Di]
   rw[this]at hs;cases hs;exact absurd rfl (hnp h')
  ·rw[Az (Ne.symm Rf)]at hs;exact h.Nv s Cn h' hs
 intro s Cn sv hs;have look:∀s' cur,s'≠d→st[s']?=some cur→(st.set d (ver,new))[s']?=some cur:=fun s' cur A2 hc=>by
  rw[Az (Ne.symm A2)];exact hc
 have here:(st.set d (ver,new))[d]?=some (ver,new):=by simp[Di]
 by_cases Rf:s=d
 ·subst Rf;rw[here]at hs;cases hs;rw[Fa.own hnr];have:=h.Bj s ver old hd;rw[Fa.own Ly]at this;exact Ge _ this
 ·rw[Az (Ne.symm Rf)]at hs;have h0:=h.Bj s Cn sv hs;generalize val a w0 s=c at h0;cases sv with
  |Km s' k Cn=>
   obtain⟨cur,h1,h2,h3⟩:=h0;by_cases A2:s'=d
   ·subst A2;rw[hd]at h1;cases h1;refine⟨_,here,h2,fun e=>?_⟩
    obtain⟨e,sz,l,h4,h5⟩:=h3 e;obtain⟨l',h6,h7,_⟩:=hb k e sz l c h4;exact⟨e,sz,l',h6,h7 h5⟩
   ·refine⟨cur,look s' cur A2 h1,h2,fun e=>?_⟩
    obtain⟨e,sz,l,h4,h5⟩:=h3 e;exact⟨e,sz,l,h4,h5.tr (Mem.le.refl G) fun b hb=>hk s' A2 b k hb⟩
  |sub s' k Cn n=>
   obtain⟨cur,h1,h2,h3⟩:=h0;by_cases A2:s'=d
   ·subst A2;rw[hd]at h1;cases h1;refine⟨_,here,h2,fun e=>?_⟩
    obtain⟨e,sz,l,h4,h5⟩:=h3 e;obtain⟨l',h6,_,h7⟩:=hb k e sz l c h4;exact⟨e,sz,l',h6,h7 n h5⟩
   ·refine⟨cur,look s' cur A2 h1,h2,fun e=>?_⟩
    obtain⟨e,sz,l,h4,h5⟩:=h3 e;exact⟨e,sz,l,h4,h5.tr (Mem.le.refl G) fun b hb=>hk s' A2 b k hb⟩
  |Q2 s' k Cn n=>
   obtain⟨cur,h1,h2,h3⟩:=h0;by_cases A2:s'=d
   ·subst A2;rw[hd]at h1;cases h1;refine⟨_,here,h2,fun e=>?_⟩
    obtain⟨e,sz,l,c0,h4,h5,h8⟩:=h3 e;obtain⟨l',h6,h7,_⟩:=hb k e sz l c0 h4;have h9:=h7 h5;refine⟨e,sz,l',c0,h6,h9,?_⟩;have:l'.length=l.length:=by
     obtain⟨x1,y1,_⟩:=h5;obtain⟨x2,y2,_⟩:=h9;obtain⟨ad,cap,e1,_⟩:=h8;rcases y1.2 with⟨p1,q1⟩|⟨g1,B1y,Bo9,p1,_⟩<;>rcases y2.2 with⟨p2,q2⟩|⟨g2,Bvw,Amj,p2,_⟩
     ·rw[q1,q2]
     ·rw[p1]at p2;cases p2
     ·rw[p1]at p2;cases p2
     ·rw[p1]at p2;injection p2 with _ e3 _
      exact e3.symm
    rw[this];exact h8
   ·refine⟨cur,look s' cur A2 h1,h2,fun e=>?_⟩
    obtain⟨e,sz,l,c0,h4,h5,h6⟩:=h3 e;exact⟨e,sz,l,c0,h4,h5.tr (Mem.le.refl G) fun b hb=>hk s' A2 b k hb,h6⟩
  |pt s' k Cn off r=>
   obtain⟨cur,h1,h2,h3⟩:=h0;by_cases A2:s'=d
   ·subst A2;rw[hd]at h1;cases h1;exact⟨_,here,h2,h3⟩
   ·exact⟨cur,look s' cur A2 h1,h2,h3⟩
  |Lv s' Cn p b=>
   obtain⟨c0,Gq,h0⟩:=h0;obtain⟨cur,h1,h2,h3⟩:=h0;refine⟨c0,Gq,?_⟩;by_cases A2:s'=d
   ·subst A2;rw[hd]at h1;cases h1;exact⟨_,here,h2,fun inv t e=>absurd e (X9 inv t)⟩
   ·refine⟨cur,look s' cur A2 h1,h2,fun inv t e hp ha=>?_⟩
    obtain⟨v,Ek⟩:=cur;simp only at e;subst e;exact(h3 inv t rfl hp ha).tr (show Dr G σ w s' t (val a w0 s')from h.Bj s' v _ h1) (hk s' A2)
  |pd s' Cn p=>
   obtain⟨cur,h1,h2,h3⟩:=h0;by_cases A2:s'=d
   ·subst A2;rw[hd]at h1;cases h1;exact⟨_,here,h2,fun inv t e=>absurd e (X9 inv t)⟩
   ·refine⟨cur,look s' cur A2 h1,h2,fun inv t e hp ha=>?_⟩
    obtain⟨v,Ek⟩:=cur;simp only at e;subst e;exact(h3 inv t rfl hp ha).tr (show Dr G σ w s' t (val a w0 s')from h.Bj s' v _ h1) (hk s' A2)
  |bs s' Cn p lo n=>
   obtain⟨cur,h1,h2,h3⟩:=h0;by_cases A2:s'=d
   ·subst A2;rw[hd]at h1;cases h1;exact⟨_,here,h2,fun _ inv t e=>absurd e (X9 inv t)⟩
   ·refine⟨cur,look s' cur A2 h1,h2,fun e0 inv t e=>?_⟩
    obtain⟨v,Ek⟩:=cur;simp only at e;subst e;exact⟨(h3 e0 inv t rfl).1,(h3 e0 inv t rfl).2.tr (show Dr G σ w s' t (val a w0 s')from h.Bj s' v _ h1) (hk s' A2)⟩
  |Qg f s' Cn p=>
   obtain⟨g,c0,ty,kk,Gq,Le,Kh,h0⟩:=h0;obtain⟨cur,h1,h2,h3⟩:=h0;have La:=hk s Rf g kk Le;refine⟨g,c0,ty,kk,Gq,La.1,by rw[La.2];exact Kh,?_⟩
   by_cases A2:s'=d
   ·subst A2;rw[hd]at h1;cases h1;exact⟨_,here,h2,fun inv t e=>absurd e (X9 inv t)⟩
   ·refine⟨cur,look s' cur A2 h1,h2,fun inv t e ha=>?_⟩
    obtain⟨v,Ek⟩:=cur;simp only at e;subst e;exact(h3 inv t rfl ha).tr (show Dr G σ w s' t (val a w0 s')from h.Bj s' v _ h1) (hk s' A2)
  |bp s' Cn p=>
   obtain⟨g,c0,ty,kk,Gq,Le,Kh,h0⟩:=h0;obtain⟨cur,h1,h2,h3⟩:=h0;have La:=hk s Rf g kk Le;refine⟨g,c0,ty,kk,Gq,La.1,by rw[La.2];exact Kh,?_⟩
   by_cases A2:s'=d
   ·subst A2;rw[hd]at h1;cases h1;exact⟨_,here,h2,fun inv t e=>absurd e (X9 inv t)⟩
   ·refine⟨cur,look s' cur A2 h1,h2,fun inv t e hp ha=>?_⟩
    obtain⟨v,Ek⟩:=cur;simp only at e;subst e;exact(h3 inv t rfl hp ha).tr (show Dr G σ w s' t (val a w0 s')from h.Bj s' v _ h1) (hk s' A2)
  |Px fb yb s' Cn p=>
   obtain⟨gb,xb,tb,kb,Jx,Ku,Nq,h0⟩:=h0;obtain⟨g,c0,ty,kk,Gq,Le,Kh,h0⟩:=h0;obtain⟨cur,h1,h2,h3⟩:=h0;have La:=hk s Rf g kk Le;have hbk:=hk s Rf gb kb Jx;refine⟨gb,xb,tb,kb,hbk.1,by rw[hbk.2];exact Ku,(by first|exact Bi.mono hG yb _ Nq|exact Nq),?_⟩
   refine⟨g,c0,ty,kk,Gq,La.1,by rw[La.2];exact Kh,?_⟩
   by_cases A2:s'=d
   ·subst A2;rw[hd]at h1;cases h1;exact⟨_,here,h2,fun inv t e=>absurd e (X9 inv t)⟩
   ·refine⟨cur,look s' cur A2 h1,h2,fun inv t e hp ha=>?_⟩
    obtain⟨v,Ek⟩:=cur;simp only at e;subst e;exact(h3 inv t rfl hp ha).tr (show Dr G σ w s' t (val a w0 s')from h.Bj s' v _ h1) (hk s' A2)
  |bd s' Cn p=>
   obtain⟨cur,h1,h2,h3⟩:=h0;by_cases A2:s'=d
   ·subst A2;rw[hd]at h1;cases h1;exact⟨_,here,h2,fun inv t e=>absurd e (X9 inv t)⟩
   ·refine⟨cur,look s' cur A2 h1,h2,fun inv t e ha=>?_⟩
    obtain⟨v,Ek⟩:=cur;simp only at e;subst e;exact(h3 inv t rfl ha).tr (show Dr G σ w s' t (val a w0 s')from h.Bj s' v _ h1) (hk s' A2)
  |cl f fs cs=>
   refine Y3.tr h0 fun s' cur h1=>?_
   by_cases A2:s'=d
   ·subst A2;rw[hd]at h1;cases h1;exact⟨_,here,Ay _,fun _=>rfl⟩
   ·exact⟨cur,look s' cur A2 h1,Ay _,fun _=>rfl⟩
  |al s' Cn=>
   obtain⟨cur,h1,h2,h3⟩:=h0;by_cases A2:s'=d
   ·subst A2;rw[hd]at h1;cases h1;exact⟨_,here,h2,h3⟩
   ·exact⟨cur,look s' cur A2 h1,h2,h3⟩
  |_=>
   rw[Fa.own rfl]at h0 ⊢;exact Dx.tr h0 (Mem.le.refl G) fun b k hb=>hk s Rf b k hb
end Go.Ab
