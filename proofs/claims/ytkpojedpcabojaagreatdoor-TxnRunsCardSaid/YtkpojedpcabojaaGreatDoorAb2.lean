/- Lemmas -/
import Derived.Test.YtkpojedpcabojaaGreatDoorAbD
import Derived.Lib.DecodeN
set_option linter.unusedVariables false
set_option linter.unusedSimpArgs false
namespace Go.Ab
def Amb.p(G:Mem):Prop:=∀w:World,(∀b o,G b=some o→w.heap[b]?=some o)→
 (∀c,c<256→w.cell? ⟨0,c,none⟩=some (.int .u8 (Go.Lib.firstT c)))∧
 (∀i,i<16→w.cell? ⟨1,2*i,none⟩=some (.int .u8 (Go.Lib.accLo i))∧w.cell? ⟨1,2*i+1,none⟩=some (.int .u8 (Go.Lib.accHi i)))
theorem Amb.mono{G G':Mem}(h:G.le G')(hp:Amb.p G):Amb.p G':=fun w hw=>hp w fun b o hb=>hw b o (h b o hb)

inductive F where
 |i (x:I)
 |vec (e:TypeId) (sz:Nat) (l:List I)
 deriving Inhabited
inductive T where
 |one (f:F)
 |st (fs:List F)
 deriving Inhabited
inductive YV where
 |ready (l:Nat) (rec:Loop)
 |jump (l:Nat) (rec:Loop) (j:Option Nat)
 deriving Inhabited
def A5m:Option Nat→Code
 |none=>.ret
 |some id=>.exit id
inductive SV where
 |no
 |v (x:I)
 |vec (e:TypeId) (sz:Nat) (l:List I)
 |box (t:T)
 |st (fs:List F)
 |tup (fs:List F)
 |bor (s k ver:Nat)
 |sub (s k ver n:Nat)
 |suf (s k ver n:Nat)
 |pt (s k ver off:Nat) (r:List Nat)
 |rp (x:I)
 |par (h:Nat)
 |own (inv:List (List Nat × Nat)) (d:D)
 |pd (s ver:Nat) (p:List Nat)
 |bd (s ver:Nat) (p:List Nat)
 |pdt (s ver:Nat) (p:List Nat) (b:Bool)
 |bs (s ver:Nat) (p:List Nat) (lo n:Nat)
 |Ati (l:List D)
 |sit (str:List UInt8) (pos:Nat)
 |mit (ks:List I) (vs:List D) (left:List Nat) (cur:Option Nat)
 |yl (y:YV)
 |cl (f:FuncId) (fs cs:List (Nat × Nat))
 |kcl (f:FuncId) (s ver:Nat) (p:List Nat)
 |bp (s ver:Nat) (p:List Nat)
 |ocl (f:FuncId) (x:I) (s ver:Nat) (p:List Nat)
 |al (s ver:Nat)
 deriving Inhabited
abbrev St:=List (Nat × SV)
abbrev Lab:=Nat→Option (Nat × Nat)
def SV.Aka:SV→Nat→Option (TypeId × Nat × List I)
 | .vec e sz l,0=>some (e,sz,l)
 | .box (.one (.vec e sz l)),1=>some (e,sz,l)
 | .box (.st fs),j+1=>match fs[j]? with
   |some (.vec e sz l)=>some (e,sz,l)
   |_=>none
 |_,_=>none
theorem Tr(h k:Nat):(SV.par h).Aka k=none:=by cases k<;>rfl
theorem Row.set{w:World}{g:Nat}{e:TypeId}{cur row:Array Value}(h:Row w g e cur)(hs:row.size=cur.size):Row (w.setRow g row) g e row:=by
 obtain⟨ty,fz,h1,h2,h3⟩:=h;exact⟨ty,fz,setRow_heap w g cur row ty fz h1,by rw[hs];exact h2,h3⟩
def Arr(w:World)(e:TypeId)(sz:Nat)(c:Value)(n:Nat)(xs:List Value):Prop:=
 xs.length=n*sz∧
 ((c= .slice none 0 0∧n=0)∨
  ∃g cap cur,c= .slice (some ⟨g,0,none⟩) n cap∧0≤g∧Row w g e cur∧n≤cap∧cap≤maxLen∧cur.size=cap*sz∧cur.toList.take (n*sz)=xs)
theorem Arr.nil(w:World)(e:TypeId)(sz:Nat):Arr w e sz (.slice none 0 0) 0 []:=⟨by simp,.inl ⟨rfl,rfl⟩⟩
theorem Arr.of{w:World}{e:TypeId}{sz n:Nat}{c:Value}{xs:List Value}(h:w.ownsRow 0 e sz c n xs):Arr w e sz c n xs:=by
 refine⟨h.1,?_⟩;rcases h.2 with h|⟨g,cap,cur,h1,h2,h3,h4⟩
 ·exact .inl h
 ·exact .inr ⟨g,cap,cur,h1,h2,.of h3,h4⟩
theorem Arr.lt{w:World}{e:TypeId}{sz n:Nat}{c:Value}{xs:List Value}(h:Arr w e sz c n xs)(b:Nat)(hb:c.ownBlock=some b):b<w.heap.size:=by
 rcases h.2 with⟨rfl,_⟩|⟨g,cap,cur,rfl,_,⟨ty,fz,h3,_⟩,_⟩
 ·simp[Value.ownBlock]at hb
 ·simp only[Value.ownBlock,A0]at hb;subst hb;exact(Ht.1 h3).1
theorem Arr.to{w:World}{e:TypeId}{sz n:Nat}{c:Value}{xs:List Value}(h:Arr w e sz c n xs)(he:e<1000000):w.ownsRow 0 e sz c n xs:=by
 refine⟨h.1,?_⟩;rcases h.2 with h|⟨g,cap,cur,h1,h2,h3,h4⟩
 ·exact .inl h
 ·exact .inr ⟨g,cap,cur,h1,h2,h3.to he,h4⟩
def Aiu(G:Mem)(σ:Lab)(w:World)(Gf:Nat × Nat)(e:TypeId)(sz:Nat)(l:List I)(c:Value):Prop:=
 ∃xs,Arr w e sz c l.length xs∧F9 G l xs∧(∀x∈l,x.size=sz)∧∀b,c.ownBlock=some b→σ b=some Gf
def Avi(G:Mem)(σ:Lab)(w:World)(Gf:Nat × Nat):F→List Value→Prop
 | .i x,cs=>D8 G x cs
 | .vec e sz l,cs=>∃c,cs=[c]∧Aiu G σ w Gf e sz l c
def Amt(G:Mem)(σ:Lab)(w:World)(s:Nat):Nat→List F→List Value→Prop
 |_,[],cs=>cs=[]
 |j,f::fs,cs=>∃c d,cs=c++d∧Avi G σ w (s,j+1) f c∧Amt G σ w s (j+1) fs d
def A74(G:Mem)(σ:Lab)(w:World)(s:Nat):T→List Value→Prop
 | .one f,cs=>Avi G σ w (s,1) f cs
 | .st fs,cs=>Amt G σ w s 0 fs cs
def Aki(G:Mem)(σ:Lab)(w:World)(s:Nat):Nat→List F→List Value→Prop
 |_,[],cs=>cs=[]
 |j,.i x::fs,cs=>∃c d,cs=c::d∧C7 G x c∧Aki G σ w s (j+1) fs d
 |j,.vec e sz l::fs,cs=>∃c d,cs=c::d∧Aiu G σ w (s,j+1) e sz l c∧Aki G σ w s (j+1) fs d
def Azz(G:Mem)(x:I)(c:Value):Prop:=
 ∃b off bl ty fz pre cs post,c= .pointer (some ⟨b,off,none⟩)∧G b=some (.cells bl ty fz)∧bl.toList=pre++cs++post∧pre.length=off∧D8 G x cs
def Ah3(sz n len:Nat)(c0 c:Value):Prop:=∃ad cap,c0= .slice ad len cap∧n≤len∧len≤cap∧c= .slice (if cap=n then ad else ad.map (·.add (n*sz))) (len - n) (cap - n)
def Ac5(G:Mem)(σ:Lab)(w:World)(s:Nat)(d:D)(c:Value):Prop:=
 ∃bs,Fe G w d c.cells.toList bs∧valOf d.isAgg c=true∧bs.Nodup∧∀b∈bs,∃k,σ b=some (s,k)
theorem Ac5.tr{G G':Mem}{σ σ':Lab}{w w':World}{s s':Nat}{d:D}{c:Value}(h:Ac5 G σ w s d c)(hG:G.le G')
 (hk:∀b k,σ b=some (s,k)→σ' b=some (s',k)∧w'.heap[b]?=w.heap[b]?):Ac5 G' σ' w' s' d c:=by
 obtain⟨bs,h1,h2,h3,h4⟩:=h;refine⟨bs,h1.tr hG fun b hb=>?_,h2,h3,fun b hb=>?_⟩
 ·obtain⟨k,hk'⟩:=h4 b hb;exact(hk b k hk').2
 ·obtain⟨k,hk'⟩:=h4 b hb;exact⟨k,(hk b k hk').1⟩
def Bac(G:Mem)(σ:Lab)(w:World)(s:Nat)(l:List D)(c:Value):Prop:=
 ∃a bs,c= .tuple a∧Aiz G w l a.toList bs∧bs.Nodup∧∀b∈bs,∃k,σ b=some (s,k)
theorem Bac.tr{G G':Mem}{σ σ':Lab}{w w':World}{s s':Nat}{l:List D}{c:Value}(h:Bac G σ w s l c)(hG:G.le G')
 (hk:∀b k,σ b=some (s,k)→σ' b=some (s',k)∧w'.heap[b]?=w.heap[b]?):Bac G' σ' w' s' l c:=by
 obtain⟨a,bs,h0,h1,h3,h4⟩:=h;refine⟨a,bs,h0,h1.tr hG fun b hb=>?_,h3,fun b hb=>?_⟩
 ·obtain⟨k,hk'⟩:=h4 b hb;exact(hk b k hk').2
 ·obtain⟨k,hk'⟩:=h4 b hb;exact⟨k,(hk b k hk').1⟩
abbrev Inv:=List (List Nat × Nat)
def alive(v:Nat)(inv:Inv)(q:List Nat):Bool:=inv.all fun e=>Nat.ble e.2 v||(Nat.ble q.length e.1.length||Ks e.1 q)
def J7(v:Nat)(inv:Inv)(q:List Nat):Bool:=inv.all fun e=>Nat.ble e.2 v||(Nat.blt q.length e.1.length||Ks e.1 q)
theorem Nu{v x:Nat}{inv:Inv}{q:List Nat}(h:v<x)(hm:q≠[]):alive v (([],x)::inv) q=false:=by
 have h1:Nat.ble x v=false:=by cases hh:Nat.ble x v<;>simp_all [Nat.ble_eq];omega
 have h2:Nat.ble q.length 0=false:=by cases q<;>simp_all [Nat.ble]
 have h3:Ks [] q=false:=by cases q<;>rfl
 simp[alive,h1,h2,h3]
theorem Rk{v x:Nat}{inv:Inv}{q:List Nat}(h:v<x):J7 v (([],x)::inv) q=false:=by
 have h1:Nat.ble x v=false:=by cases hh:Nat.ble x v<;>simp_all [Nat.ble_eq];omega
 have h2:Nat.blt q.length 0=false:=by simp[Nat.blt,Nat.ble]
 have h3:Ks [] q=false:=by cases q<;>rfl
 simp[J7,h1,h2,h3]
def PtD(w:World)(d:D)(cr:Value)(p:List Nat)(c:Value):Prop:=∃v b o cs,d.at p=some v∧spot w p d (none,cr.cells.toList)=some (some (b,o),cs)∧c= .pointer (some ⟨b,o,none⟩)
def HdD(w:World)(d:D)(cr:Value)(p:List Nat)(c:Value):Prop:=∃v h,d.at p=some v∧v.head=true∧spot w p d (none,cr.cells.toList)=some (h,[c])
theorem Ac5.spot{G:Mem}{σ σ':Lab}{w w':World}{s:Nat}{d:D}{c:Value}(h:Ac5 G σ w s d c)(hk:∀b k,σ b=some (s,k)→σ' b=some (s,k)∧w'.heap[b]?=w.heap[b]?){p:List Nat}{v:D}(hv:d.at p=some v)(here:Option (Nat × Nat)):
 Ab.spot w' p d (here,c.cells.toList)=Ab.spot w p d (here,c.cells.toList):=by
 obtain⟨bs,h1,h2,h3,h4⟩:=h;exact S6 h1 h3 (fun b hb=>(h4 b hb).elim fun k hk'=>(hk b k hk').2) v hv
theorem PtD.tr{G:Mem}{σ σ':Lab}{w w':World}{s:Nat}{d:D}{cr:Value}{p:List Nat}{c:Value}(h:PtD w d cr p c)(ho:Ac5 G σ w s d cr)(hk:∀b k,σ b=some (s,k)→σ' b=some (s,k)∧w'.heap[b]?=w.heap[b]?):PtD w' d cr p c:=by
 obtain⟨v,b,o,cs,h1,h2,h3⟩:=h;exact⟨v,b,o,cs,h1,by rw[ho.spot hk h1];exact h2,h3⟩
def BsD(w:World)(d:D)(cr:Value)(p:List Nat)(lo n:Nat)(c:Value):Prop:=(∃e sz l c0 ad cap,d.at p=some (.vec e sz l)∧HdD w d cr p c0∧c0= .slice ad l.length cap∧l.length≤cap∧lo+n≤l.length∧
 c= .slice (if cap=lo then ad else ad.map (·.add (lo*sz))) n (cap - lo))∨∃u hh,d.at p=some u∧u.isAgg=true∧valOf true c=true∧spot w p d (none,cr.cells.toList)=some (hh,c.cells.toList)
theorem HdD.tr{G:Mem}{σ σ':Lab}{w w':World}{s:Nat}{d:D}{cr:Value}{p:List Nat}{c:Value}(h:HdD w d cr p c)(ho:Ac5 G σ w s d cr)(hk:∀b k,σ b=some (s,k)→σ' b=some (s,k)∧w'.heap[b]?=w.heap[b]?):HdD w' d cr p c:=by
 obtain⟨v,hh,h1,h2,h3⟩:=h;exact⟨v,hh,h1,h2,by rw[ho.spot hk h1];exact h3⟩
theorem BsD.tr{G:Mem}{σ σ':Lab}{w w':World}{s:Nat}{d:D}{cr:Value}{p:List Nat}{lo n:Nat}{c:Value}(h:BsD w d cr p lo n c)(ho:Ac5 G σ w s d cr)(hk:∀b k,σ b=some (s,k)→σ' b=some (s,k)∧w'.heap[b]?=w.heap[b]?):BsD w' d cr p lo n c:=by
 rcases h with⟨e,sz,l,c0,ad,cap,h1,h2,h3⟩|⟨u,hh,h1,h2,h3,h4⟩
 ·exact .inl ⟨e,sz,l,c0,ad,cap,h1,h2.tr ho hk,h3⟩
 ·exact .inr ⟨u,hh,h1,h2,h3,by rw[ho.spot hk h1];exact h4⟩
theorem J9{c:Value}(h:valOf false c=true):c.cells.toList=[c]:=by
 cases c<;>first|rfl|cases h
theorem Nr{c:Value}(h:valOf true c=true):∃a,c= .agg a:=by
 cases c<;>first|exact⟨_,rfl⟩|cases h
theorem Ac5.pt{G:Mem}{σ:Lab}{w:World}{s:Nat}{d:D}{c:Value}(h:Ac5 G σ w s (.ptr d) c):PtD w (.ptr d) c [0] c:=by
 obtain⟨bs,h1,h2,_⟩:=h;rw[J9 h2]at h1;simp only[Fe]at h1;obtain⟨b,cells,ty,bs',h3,h4,_⟩:=h1;injection h3 with h3
 subst h3;exact⟨d,b,0,cells.toList,rfl,by simp[Ab.spot,D.Xw,Jx,Value.cells,h4],rfl⟩
theorem Ac5.Bk2{G:Mem}{σ:Lab}{w:World}{s:Nat}{d:D}{c cr:Value}(h:Ac5 G σ w s (.ptr d) cr)(hp:PtD w (.ptr d) cr [0] c):c=cr:=by
 obtain⟨bs,h1,h2,_⟩:=h;rw[J9 h2]at h1;simp only[Fe]at h1;obtain⟨b,cells,ty,bs',h3,h4,_⟩:=h1;injection h3 with h3
 subst h3;obtain⟨v,b',o,cs,_,h5,rfl⟩:=hp;simp[Ab.spot,D.Xw,Jx,Value.cells,h4]at h5;obtain⟨⟨rfl,rfl⟩,_⟩:=h5;rfl
theorem Ac5.hd{G:Mem}{σ:Lab}{w:World}{s:Nat}{d:D}{c:Value}(h:Ac5 G σ w s d c)(hh:d.head=true):HdD w d c [] c:=by
 obtain⟨bs,h1,h2,_⟩:=h;have:d.isAgg=false:=by cases d<;>first|rfl|cases hh
 rw[this]at h2;exact⟨d,none,rfl,hh,by simp[Ab.spot,J9 h2]⟩
def A91(rec:Loop)(j:Option Nat):Loop:={rec with state:=.done,pending:=some (A5m j)}
def A20(σ:Lab)(w:World)(s:Nat):YV→Value→Prop
 | .ready l rec,c=>c= .func (.yield l) #[] #[]∧σ l=some (s,0)∧w.heap[l]?=some (.loop rec)
 | .jump l rec j,c=>c= .func (.yield l) #[] #[]∧σ l=some (s,0)∧w.heap[l]?=some (.loop (A91 rec j))
theorem A20.tr{σ σ':Lab}{w w':World}{s s':Nat}{y:YV}{c:Value}(h:A20 σ w s y c)(hk:∀b k,σ b=some (s,k)→σ' b=some (s',k)∧w'.heap[b]?=w.heap[b]?):A20 σ' w' s' y c:=by
 cases y with
 |ready l rec=>exact⟨h.1,(hk l 0 h.2.1).1,by rw[(hk l 0 h.2.1).2];exact h.2.2⟩
 |jump l rec j=>exact⟨h.1,(hk l 0 h.2.1).1,by rw[(hk l 0 h.2.1).2];exact h.2.2⟩
def Anm(st:St)(vv:Nat→Value):List (Nat × Nat)→List Value→Prop
 | [],[]=>True
 |(h,v)::r,c::cs=>(∃cur,st[h]?=some cur∧v≤cur.1∧(v=cur.1→c=vv h))∧Anm st vv r cs
 |_,_=>False
theorem Anm.tr{st st':St}{vv vv':Nat→Value}(hk:∀h cur,st[h]?=some cur→∃Amr,st'[h]?=some Amr∧cur.1≤Amr.1∧(cur.1=Amr.1→vv' h=vv h)):
 ∀{r:List (Nat × Nat)} {cs:List Value},Anm st vv r cs→Anm st' vv' r cs
 | [],[],_=>trivial
 |(h,v)::r,c::cs,⟨⟨cur,h1,h2,h3⟩,h4⟩=>by
  obtain⟨Amr,k1,k2,k3⟩:=hk h cur h1;exact⟨⟨Amr,k1,by omega,fun e=>by rw[k3 (by omega)];exact h3 (by omega)⟩,Anm.tr hk h4⟩
 | [],_::_,h=>h.elim
 |_::_,[],h=>by cases h
def Be5(st:St)(r:List (Nat × Nat)):Bool:=r.all fun e=>match st[e.1]? with
 |some cur=>Nat.beq cur.1 e.2
 |none=>false
def Ae9(r:List (Nat × Nat)):List (Nat × Nat):=r.map fun e=>(e.1,0)
theorem Anm.norm{st st':St}{vv:Nat→Value}(hz:∀(h:Nat) (cur:Nat × SV),st[h]?=some cur→∃sv,st'[h]?=some (0,sv)):
 ∀{r:List (Nat × Nat)} {cs:List Value},Be5 st r=true→Anm st vv r cs→Anm st' vv (Ae9 r) cs
 | [],[],_,_=>trivial
 |(h,v)::r,c::cs,hn,⟨⟨cur,h1,h2,h3⟩,h4⟩=>by
  simp only[Be5,List.all_cons,Ap,h1]at hn;obtain⟨sv,hs⟩:=hz h cur h1;exact⟨⟨(0,sv),hs,Bz _,fun _=>h3 (Nat.eq_of_beq_eq_true hn.1).symm⟩,Anm.norm hz hn.2 h4⟩
 | [],_::_,_,h=>h.elim
 |_::_,[],_,h=>by cases h
theorem Anm.put{st:St}{vv vv':Nat→Value}{d:Nat}{x:Nat × SV}(hv:∀h,h≠d→vv' h=vv h):
 ∀{r:List (Nat × Nat)} {cs:List Value},(∀e∈r,e.1≠d)→Anm st vv r cs→Anm (st.set d x) vv' r cs
 | [],[],_,_=>trivial
 |(h,v)::r,c::cs,hn,⟨⟨cur,h1,h2,h3⟩,h4⟩=>by
  have Cf:=hn (h,v) (B2 ..);exact⟨⟨cur,by rw[B3 (Ne.symm Cf)];exact h1,h2,fun e=>by rw[hv h Cf];exact h3 e⟩,Anm.put hv (fun e he=>hn e (B4 _ he)) h4⟩
 | [],_::_,_,h=>h.elim
 |_::_,[],_,h=>by cases h
def Ay0(st:St)(vv:Nat→Value)(f:FuncId)(fs cs:List (Nat × Nat))(c:Value):Prop:=∃us ws:List Value,c= .func (.func f) us.toArray ws.toArray∧Anm st vv fs us∧Anm st vv cs ws
theorem Ay0.tr{st st':St}{vv vv':Nat→Value}{f:FuncId}{fs cs:List (Nat × Nat)}{c:Value}(h:Ay0 st vv f fs cs c)(hk:∀h cur,st[h]?=some cur→∃Amr,st'[h]?=some Amr∧cur.1≤Amr.1∧(cur.1=Amr.1→vv' h=vv h)):Ay0 st' vv' f fs cs c:=by
 obtain⟨us,ws,h1,h2,h3⟩:=h;exact⟨us,ws,h1,h2.tr hk,h3.tr hk⟩
def A4g(G:Mem)(σ:Lab)(w:World)(s:Nat)(ks:List I)(vs:List D)(left:List Nat)(cur:Option Nat)(c:Value):Prop:=
 ∃g b clock:Nat,∃(seen:Array Nat) (es:Array MapEntry) (bs:List Nat),c= .pointer (some ⟨g,0,none⟩)∧w.heap[g]?=some (.mapIter (some b) clock seen clock)∧w.heap[b]?=some (.map es clock)∧
  Aos G ks (es.toList.map (·.key))∧Aiz G w vs (es.toList.map (·.val)) bs∧(∀x∈g::b::bs,∃k,σ x=some (s,k))∧(g::b::bs).Nodup∧
  (es.toList.map (·.born)).Pairwise (· < ·)∧(∀e∈es.toList,e.born<clock)∧left.Nodup∧(∀i∈left,i<es.toList.length)∧(∀i e,es.toList[i]?=some e→(i∈left↔seen.contains e.born=false))∧∀i,cur=some i→∃e Bqr,es.toList[i]?=some e∧seen=Array.push Bqr e.born
theorem A4g.tr{G G':Mem}{σ σ':Lab}{w w':World}{s s':Nat}{ks:List I}{vs:List D}{left:List Nat}{cur:Option Nat}{c:Value}(h:A4g G σ w s ks vs left cur c)(hG:G.le G')
 (hk:∀b k,σ b=some (s,k)→σ' b=some (s',k)∧w'.heap[b]?=w.heap[b]?):A4g G' σ' w' s' ks vs left cur c:=by
 obtain⟨g,b,clock,seen,es,bs,h1,h2,h3,h4,h5,h6,h7⟩:=h;have hx:∀x∈g::b::bs,w'.heap[x]?=w.heap[x]?:=fun x hx=>by
  obtain⟨k,hk'⟩:=h6 x hx;exact(hk x k hk').2
 refine⟨g,b,clock,seen,es,bs,h1,by rw[hx g (by simp)];exact h2,by rw[hx b (by simp)];exact h3,Aos.mono hG h4,h5.tr hG fun x hb=>hx x (by simp[hb]),fun x hx=>?_,h7⟩
 obtain⟨k,hk'⟩:=h6 x hx;exact⟨k,(hk x k hk').1⟩
def Ab1(G:Mem)(σ:Lab)(w:World)(s:Nat):SV→Value→Prop
 | .v x,c=>C7 G x c
 | .vec e sz l,c=>Aiu G σ w (s,0) e sz l c
 | .box t,c=>∃b cells ty,c= .pointer (some ⟨b,0,none⟩)∧σ b=some (s,0)∧w.heap[b]?=some (.cells cells ty (0,0))∧A74 G σ w s t cells.toList
 | .st fs,c=>∃a,c= .agg a∧Amt G σ w s 0 fs a.toList
 | .tup fs,c=>∃a,c= .tuple a∧Aki G σ w s 0 fs a.toList
 | .rp x,c=>Azz G x c
 | .own _ d,c=>Ac5 G σ w s d c
 | .Ati l,c=>Bac G σ w s l c
 | .sit str pos,c=>∃b,c= .pointer (some ⟨b,0,none⟩)∧σ b=some (s,0)∧w.heap[b]?=some (.stringIter ⟨⟨str⟩⟩ pos)
 | .mit ks vs left cur,c=>A4g G σ w s ks vs left cur c
 | .yl y,c=>A20 σ w s y c
 |_,_=>True
def Ait(G:Mem)(σ:Lab)(w:World)(st:St)(vv:Nat→Value)(s:Nat):SV→Value→Prop
 | .bor s' k ver,c=>∃cur,st[s']?=some cur∧ver≤cur.1∧(ver=cur.1→∃e sz l,cur.2.Aka k=some (e,sz,l)∧Aiu G σ w (s',k) e sz l c)
 | .sub s' k ver n,c=>∃cur,st[s']?=some cur∧ver≤cur.1∧(ver=cur.1→∃e sz l,cur.2.Aka k=some (e,sz,l)∧Aiu G σ w (s',k) e sz (l.take n) c)
 | .suf s' k ver n,c=>∃cur,st[s']?=some cur∧ver≤cur.1∧(ver=cur.1→∃e sz l c0,cur.2.Aka k=some (e,sz,l)∧Aiu G σ w (s',k) e sz l c0∧Ah3 sz n l.length c0 c)
 | .pt s' k ver off _,c=>∃cur,st[s']?=some cur∧ver≤cur.1∧(ver=cur.1→∃b,σ b=some (s',k)∧c= .pointer (some ⟨b,off,none⟩))
 | .pd s' ver p,c=>∃cur,st[s']?=some cur∧ver≤cur.1∧∀inv d,cur.2= .own inv d→p≠[]→alive ver inv p=true→PtD w d (vv s') p c
 | .pdt s' ver p b,c=>∃c0,c= .tuple #[c0,.bool b]∧∃cur,st[s']?=some cur∧ver≤cur.1∧∀inv d,cur.2= .own inv d→p≠[]→alive ver inv p=true→PtD w d (vv s') p c0
 | .bd s' ver p,c=>∃cur,st[s']?=some cur∧ver≤cur.1∧∀inv d,cur.2= .own inv d→J7 ver inv p=true→HdD w d (vv s') p c
 | .bs s' ver p lo n,c=>∃cur,st[s']?=some cur∧ver≤cur.1∧(ver=cur.1→∀inv d,cur.2= .own inv d→J7 ver inv p=true∧BsD w d (vv s') p lo n c)
 | .cl f fs cs,c=>Ay0 st vv f fs cs c
 | .al s' ver,c=>∃cur,st[s']?=some cur∧ver≤cur.1∧(ver=cur.1→c=vv s')
 | .kcl f s' ver p,c=>∃g c0 ty k,c= .func (.func f) #[] #[.pointer (some ⟨g,0,none⟩)]∧σ g=some (s,k)∧w.heap[g]?=some (.cells #[c0] ty (0,0))∧∃cur,st[s']?=some cur∧ver≤cur.1∧∀inv d,cur.2= .own inv d→J7 ver inv p=true→HdD w d (vv s') p c0
 | .bp s' ver p,c=>∃g c0 ty k,c= .pointer (some ⟨g,0,none⟩)∧σ g=some (s,k)∧w.heap[g]?=some (.cells #[c0] ty (0,0))∧∃cur,st[s']?=some cur∧ver≤cur.1∧∀inv d,cur.2= .own inv d→p≠[]→alive ver inv p=true→PtD w d (vv s') p c0
 | .ocl f x s' ver p,c=>∃g1 xs ty1 k1,σ g1=some (s,k1)∧w.heap[g1]?=some (.cells xs ty1 (0,0))∧D8 G x xs.toList∧∃g c0 ty k,(c= .func (.func f) #[] #[.pointer (some ⟨g1,0,none⟩),.pointer (some ⟨g,0,none⟩)]∧g1≠g)∧σ g=some (s,k)∧w.heap[g]?=some (.cells #[c0] ty (0,0))∧∃cur,st[s']?=some cur∧ver≤cur.1∧∀inv d,cur.2= .own inv d→p≠[]→alive ver inv p=true→PtD w d (vv s') p c0
 |sv,c=>Ab1 G σ w s sv c
structure Base where
 w:World
 n:Nat
 hid:Array Value
def val(a:Act)(B:Base)(s:Nat):Value:=(a.tmps++B.hid).getD s undef
structure WOk(G:Mem)(σ:Lab)(Fr:Mem)(w0:Base)(w:World):Prop where
 fixed:∀b o,G b=some o→w.heap[b]?=some o
 own:∀b Gf,σ b=some Gf→G b=none∧Fr b=none∧b<w.heap.size
 inj:∀b b' Gf,σ b=some Gf→σ b'=some Gf→b=b'
 frame:∀b o,Fr b=some o→w.heap[b]?=some o
 os:w.os=w0.w.os
 tape:w.tape=w0.w.tape
 output:w.output=w0.w.output
 size:w0.w.heap.size≤w.heap.size
 apart:∀b o,Fr b=some o→G b=none
 amb:Amb.p G
def mark(r:Nat):Deferred:={target:=.collected r,args:= #[]}
def Marks(Fr:Mem)(w0:World)(ds:List Deferred):Prop:=∃rs:List Nat,ds=rs.map mark∧rs.Nodup∧∀r∈rs,w0.heap.size≤r∧Fr r=some (.deferred (some []))
theorem Marks.nil(Fr:Mem)(w0:World):Marks Fr w0 []:=⟨[],rfl,Ach,by simp⟩
structure Rel(G:Mem)(σ:Lab)(Fr:Mem)(w0:Base)(st:St)(a:Act)(w:World):Prop where
 Fc:WOk G σ Fr w0 w
 defers:Marks Fr w0.w a.defers
 n:a.tmps.size=w0.n
 len:a.tmps.size+w0.hid.size=st.length
 Eb:∀s ver sv,st[s]?=some (ver,sv)→Ait G σ w st (val a w0) s sv (val a w0 s)
 As8:∀s ver h,st[s]?=some (ver,.par h)→val a w0 s=val a w0 h∧w0.n≤h
def Kept(σ σ':Lab)(w w':World)(s:Nat):Prop:=∀b k,σ b=some (s,k)→σ' b=some (s,k)∧w'.heap[b]?=w.heap[b]?
theorem Kept.refl(σ:Lab)(w:World)(s:Nat):Kept σ σ w w s:=fun _ _ h=>⟨h,rfl⟩
theorem Arr.same{w w':World}{e:TypeId}{sz n:Nat}{c:Value}{xs:List Value}(h:Arr w e sz c n xs)
 (hk:∀b,c.ownBlock=some b→w'.heap[b]?=w.heap[b]?):Arr w' e sz c n xs:=by
 refine⟨h.1,?_⟩;rcases h.2 with hn|⟨g,cap,cur,rfl,hb,hg,r⟩
 ·exact .inl hn
 ·exact .inr ⟨g,cap,cur,rfl,hb,hg.same (hk g (by simp[Value.ownBlock])),r⟩
theorem Aiu.tr{G G':Mem}{σ σ':Lab}{w w':World}{Gf Avk:Nat × Nat}{e:TypeId}{sz:Nat}{l:List I}{c:Value}(h:Aiu G σ w Gf e sz l c)
 (hG:G.le G') (hk:∀b,σ b=some Gf→σ' b=some Avk∧w'.heap[b]?=w.heap[b]?):Aiu G' σ' w' Avk e sz l c:=by
 obtain⟨xs,h1,h2,h3,h4⟩:=h;exact⟨xs,Arr.same h1 fun b hb=>(hk b (h4 b hb)).2,F9.mono hG l xs h2,h3,fun b hb=>(hk b (h4 b hb)).1⟩
theorem Avi.tr{G G':Mem}{σ σ':Lab}{w w':World}{Gf Avk:Nat × Nat}{f:F}{cs:List Value}(h:Avi G σ w Gf f cs)
 (hG:G.le G') (hk:∀b,σ b=some Gf→σ' b=some Avk∧w'.heap[b]?=w.heap[b]?):Avi G' σ' w' Avk f cs:=by
 cases f with
 |i x=>exact D8.mono hG x cs h
 |vec e sz l=>
  obtain⟨c,hc,h⟩:=h;exact⟨c,hc,h.tr hG hk⟩
theorem Amt.tr{G G':Mem}{σ σ':Lab}{w w':World}{s s':Nat}(hG:G.le G'):∀{fs:List F} {j:Nat} {cs:List Value},Amt G σ w s j fs cs→
 (∀b k,j<k→σ b=some (s,k)→σ' b=some (s',k)∧w'.heap[b]?=w.heap[b]?)→Amt G' σ' w' s' j fs cs
 | [],_,_,h,_=>h
 |f::fs,j,cs,h,hk=>by
  obtain⟨c,d,e,h1,h2⟩:=h;exact⟨c,d,e,h1.tr hG fun b hb=>hk b (j+1) (by omega) hb,Amt.tr hG h2 fun b k hj hb=>hk b k (by omega) hb⟩
theorem Aki.tr{G G':Mem}{σ σ':Lab}{w w':World}{s s':Nat}(hG:G.le G'):∀{fs:List F} {j:Nat} {cs:List Value},Aki G σ w s j fs cs→
 (∀b k,j<k→σ b=some (s,k)→σ' b=some (s',k)∧w'.heap[b]?=w.heap[b]?)→Aki G' σ' w' s' j fs cs
 | [],_,_,h,_=>h
 | .i x::fs,j,cs,h,hk=>by
   obtain⟨c,d,e,h1,h2⟩:=h;exact⟨c,d,e,h1.mono hG,Aki.tr hG h2 fun b k hj hb=>hk b k (by omega) hb⟩
 | .vec _ _ _::fs,j,cs,h,hk=>by
   obtain⟨c,d,e,h1,h2⟩:=h;exact⟨c,d,e,h1.tr hG fun b hb=>hk b (j+1) (by omega) hb,Aki.tr hG h2 fun b k hj hb=>hk b k (by omega) hb⟩
theorem A74.tr{G G':Mem}{σ σ':Lab}{w w':World}{s s':Nat}{t:T}{cs:List Value}(h:A74 G σ w s t cs)(hG:G.le G')
 (hk:∀b k,0<k→σ b=some (s,k)→σ' b=some (s',k)∧w'.heap[b]?=w.heap[b]?):A74 G' σ' w' s' t cs:=by
 cases t with
 |one f=>exact Avi.tr h hG fun b hb=>hk b 1 (by omega) hb
 |st fs=>exact Amt.tr hG h hk
theorem Azz.mono{G G':Mem}(hG:G.le G'){x:I}{c:Value}(h:Azz G x c):Azz G' x c:=by
 obtain⟨b,off,bl,ty,fz,pre,cs,post,h1,h2,h3,h4,h5⟩:=h;exact⟨b,off,bl,ty,fz,pre,cs,post,h1,hG _ _ h2,h3,h4,D8.mono hG x cs h5⟩
theorem Ab1.tr{G G':Mem}{σ σ':Lab}{w w':World}{s s':Nat}{sv:SV}{c:Value}(h:Ab1 G σ w s sv c)(hG:G.le G')
 (hk:∀b k,σ b=some (s,k)→σ' b=some (s',k)∧w'.heap[b]?=w.heap[b]?):Ab1 G' σ' w' s' sv c:=by
 cases sv with
 |v x=>exact C7.mono hG h
 |vec e sz l=>exact Aiu.tr h hG fun b hb=>hk b 0 hb
 |box t=>
  obtain⟨b,cells,ty,h1,h2,h3,h4⟩:=h;obtain⟨k1,k2⟩:=hk b 0 h2;exact⟨b,cells,ty,h1,k1,by rw[k2];exact h3,A74.tr h4 hG fun b k _ hb=>hk b k hb⟩
 |st fs=>
  obtain⟨a,h1,h2⟩:=h;exact⟨a,h1,Amt.tr hG h2 fun b k _ hb=>hk b k hb⟩
 |tup fs=>
  obtain⟨a,h1,h2⟩:=h;exact⟨a,h1,Aki.tr hG h2 fun b k _ hb=>hk b k hb⟩
 |rp x=>exact Azz.mono hG h
 |own _ d=>exact Ac5.tr h hG hk
 |Ati l=>exact Bac.tr h hG hk
 |sit str pos=>
  obtain⟨b,h1,h2,h3⟩:=h;exact⟨b,h1,(hk b 0 h2).1,by rw[(hk b 0 h2).2];exact h3⟩
 |mit ks vs left cur=>exact A4g.tr h hG hk
 |yl y=>exact A20.tr h hk
 |_=>trivial
def SV.root:SV→Option Nat
 | .bor s _ _| .sub s _ _ _| .suf s _ _ _| .pt s _ _ _ _| .pd s _ _| .pdt s _ _ _| .bd s _ _| .bs s _ _ _ _=>some s
 | .cl _ _ _=>some 0
 | .kcl _ s _ _=>some s
 | .bp s _ _=>some s
 | .ocl _ _ s _ _=>some s
 | .al s _=>some s
 |_=>none
theorem Ait.own{G:Mem}{σ:Lab}{w:World}{st:St}{vv:Nat→Value}{s:Nat}{sv:SV}{c:Value}(hr:sv.root=none):Ait G σ w st vv s sv c=Ab1 G σ w s sv c:=by
 cases sv<;>first|rfl|simp[SV.root]at hr
theorem Ait.tr{G G':Mem}{σ σ':Lab}{w w':World}{st:St}{vv vv':Nat→Value}{s d ver:Nat}{sv new:SV}{old:Nat × SV}{c:Value}(h:Ait G σ w st vv s sv c)(hG:G.le G')(hs:s≠d)
 (hd:st[d]?=some old) (hv:old.1<ver) (hk:∀s',s'≠d→Kept σ σ' w w' s') (hvv:∀s',s'≠d→vv' s'=vv s') (Aw2:∀inv t,new= .own inv t→∃r,inv=([],ver)::r)
 (Anw:∀s ver sv,st[s]?=some (ver,sv)→Ait G σ w st vv s sv (vv s)):Ait G' σ' w' (st.set d (ver,new)) vv' s sv c:=by
 have look:∀s' cur,s'≠d→st[s']?=some cur→(st.set d (ver,new))[s']?=some cur:=fun s' cur Cf hc=>by
  rw[B3 (Ne.symm Cf)];exact hc
 have here:(st.set d (ver,new))[d]?=some (ver,new):=by
  have:d<st.length:=(A7.1 hd).1;simp[this]
 cases sv with
 |bor s' k Gu=>
  obtain⟨cur,h1,h2,h3⟩:=h;by_cases Cf:s'=d
  ·subst Cf;rw[hd]at h1;cases h1;exact⟨_,here,by show Gu≤ver;omega,fun e=>by exfalso;have:Gu=ver:=e;omega⟩
  ·refine⟨cur,look s' cur Cf h1,h2,fun e=>?_⟩
   obtain⟨e,sz,l,h4,h5⟩:=h3 e;exact⟨e,sz,l,h4,h5.tr hG fun b hb=>hk s' Cf b k hb⟩
 |sub s' k Gu n=>
  obtain⟨cur,h1,h2,h3⟩:=h;by_cases Cf:s'=d
  ·subst Cf;rw[hd]at h1;cases h1;exact⟨_,here,by show Gu≤ver;omega,fun e=>by exfalso;have:Gu=ver:=e;omega⟩
  ·refine⟨cur,look s' cur Cf h1,h2,fun e=>?_⟩
   obtain⟨e,sz,l,h4,h5⟩:=h3 e;exact⟨e,sz,l,h4,h5.tr hG fun b hb=>hk s' Cf b k hb⟩
 |suf s' k Gu n=>
  obtain⟨cur,h1,h2,h3⟩:=h;by_cases Cf:s'=d
  ·subst Cf;rw[hd]at h1;cases h1;exact⟨_,here,by show Gu≤ver;omega,fun e=>by exfalso;have:Gu=ver:=e;omega⟩
  ·refine⟨cur,look s' cur Cf h1,h2,fun e=>?_⟩
   obtain⟨e,sz,l,c0,h4,h5,h6⟩:=h3 e;exact⟨e,sz,l,c0,h4,h5.tr hG fun b hb=>hk s' Cf b k hb,h6⟩
 |pt s' k Gu off r=>
  obtain⟨cur,h1,h2,h3⟩:=h;by_cases Cf:s'=d
  ·subst Cf;rw[hd]at h1;cases h1;exact⟨_,here,by show Gu≤ver;omega,fun e=>by exfalso;have:Gu=ver:=e;omega⟩
  ·refine⟨cur,look s' cur Cf h1,h2,fun e=>?_⟩
   obtain⟨b,h4,h5⟩:=h3 e;exact⟨b,(hk s' Cf b k h4).1,h5⟩
 |pdt s' Gu p b=>
  obtain⟨c0,hc0,h⟩:=h;obtain⟨cur,h1,h2,h3⟩:=h;refine⟨c0,hc0,?_⟩;by_cases Cf:s'=d
  ·subst Cf;rw[hd]at h1;cases h1;refine⟨_,here,by show Gu≤ver;omega,fun inv t e hp ha=>?_⟩
   obtain⟨r,rfl⟩:=Aw2 inv t e;cases p with
   |nil=>exact absurd rfl hp
   |cons i p=>rw[Nu (by omega) (by simp)]at ha;cases ha
  ·refine⟨cur,look s' cur Cf h1,h2,fun inv t e hp ha=>?_⟩
   rw[hvv s' Cf];obtain⟨v,sv'⟩:=cur;simp only at e;subst e;exact(h3 inv t rfl hp ha).tr (show Ac5 G σ w s' t (vv s')from Anw s' v _ h1) (hk s' Cf)
 |pd s' Gu p=>
  obtain⟨cur,h1,h2,h3⟩:=h;by_cases Cf:s'=d
  ·subst Cf;rw[hd]at h1;cases h1;refine⟨_,here,by show Gu≤ver;omega,fun inv t e hp ha=>?_⟩
   obtain⟨r,rfl⟩:=Aw2 inv t e;cases p with
   |nil=>exact absurd rfl hp
   |cons i p=>rw[Nu (by omega) (by simp)]at ha;cases ha
  ·refine⟨cur,look s' cur Cf h1,h2,fun inv t e hp ha=>?_⟩
   rw[hvv s' Cf];obtain⟨v,sv'⟩:=cur;simp only at e;subst e;exact(h3 inv t rfl hp ha).tr (show Ac5 G σ w s' t (vv s')from Anw s' v _ h1) (hk s' Cf)
 |bs s' Gu p lo n=>
  obtain⟨cur,h1,h2,h3⟩:=h;by_cases Cf:s'=d
  ·subst Cf;rw[hd]at h1;cases h1;exact⟨_,here,by show Gu≤ver;omega,fun e=>by exfalso;have:Gu=ver:=e;omega⟩
  ·refine⟨cur,look s' cur Cf h1,h2,fun e0 inv t e=>?_⟩
   rw[hvv s' Cf];obtain⟨v,sv'⟩:=cur;simp only at e;subst e;exact⟨(h3 e0 inv t rfl).1,(h3 e0 inv t rfl).2.tr (show Ac5 G σ w s' t (vv s')from Anw s' v _ h1) (hk s' Cf)⟩
 |kcl f s' Gu p=>
  obtain⟨g,c0,ty,kk,hc0,hg1,hg2,h⟩:=h;obtain⟨cur,h1,h2,h3⟩:=h;have hgk:=hk s hs g kk hg1;refine⟨g,c0,ty,kk,hc0,hgk.1,by rw[hgk.2];exact hg2,?_⟩
  by_cases Cf:s'=d
  ·subst Cf;rw[hd]at h1;cases h1;refine⟨_,here,by show Gu≤ver;omega,fun inv t e ha=>?_⟩
   obtain⟨r,rfl⟩:=Aw2 inv t e;rw[Rk (by omega)]at ha
   cases ha
  ·refine⟨cur,look s' cur Cf h1,h2,fun inv t e ha=>?_⟩
   rw[hvv s' Cf];obtain⟨v,sv'⟩:=cur;simp only at e;subst e;exact(h3 inv t rfl ha).tr (show Ac5 G σ w s' t (vv s')from Anw s' v _ h1) (hk s' Cf)
 |bp s' Gu p=>
  obtain⟨g,c0,ty,kk,hc0,hg1,hg2,h⟩:=h;obtain⟨cur,h1,h2,h3⟩:=h;have hgk:=hk s hs g kk hg1;refine⟨g,c0,ty,kk,hc0,hgk.1,by rw[hgk.2];exact hg2,?_⟩
  by_cases Cf:s'=d
  ·subst Cf;rw[hd]at h1;cases h1;refine⟨_,here,by show Gu≤ver;omega,fun inv t e hp ha=>?_⟩
   obtain⟨r,rfl⟩:=Aw2 inv t e;cases p with
   |nil=>exact absurd rfl hp
   |cons i p=>rw[Nu (by omega) (by simp)]at ha;cases ha
  ·refine⟨cur,look s' cur Cf h1,h2,fun inv t e hp ha=>?_⟩
   rw[hvv s' Cf];obtain⟨v,sv'⟩:=cur;simp only at e;subst e;exact(h3 inv t rfl hp ha).tr (show Ac5 G σ w s' t (vv s')from Anw s' v _ h1) (hk s' Cf)
 |ocl fb yb s' Gu p=>
  obtain⟨gb,xb,tb,kb,hb1,hb2,hb3,h⟩:=h;obtain⟨g,c0,ty,kk,hc0,hg1,hg2,h⟩:=h;obtain⟨cur,h1,h2,h3⟩:=h;have hgk:=hk s hs g kk hg1;have hbk:=hk s hs gb kb hb1;refine⟨gb,xb,tb,kb,hbk.1,by rw[hbk.2];exact hb2,(by first|exact D8.mono hG yb _ hb3|exact hb3),?_⟩
  refine⟨g,c0,ty,kk,hc0,hgk.1,by rw[hgk.2];exact hg2,?_⟩
  by_cases Cf:s'=d
  ·subst Cf;rw[hd]at h1;cases h1;refine⟨_,here,by show Gu≤ver;omega,fun inv t e hp ha=>?_⟩
   obtain⟨r,rfl⟩:=Aw2 inv t e;cases p with
   |nil=>exact absurd rfl hp
   |cons i p=>rw[Nu (by omega) (by simp)]at ha;cases ha
  ·refine⟨cur,look s' cur Cf h1,h2,fun inv t e hp ha=>?_⟩
   rw[hvv s' Cf];obtain⟨v,sv'⟩:=cur;simp only at e;subst e;exact(h3 inv t rfl hp ha).tr (show Ac5 G σ w s' t (vv s')from Anw s' v _ h1) (hk s' Cf)
 |bd s' Gu p=>
  obtain⟨cur,h1,h2,h3⟩:=h;by_cases Cf:s'=d
  ·subst Cf;rw[hd]at h1;cases h1;refine⟨_,here,by show Gu≤ver;omega,fun inv t e ha=>?_⟩
   obtain⟨r,rfl⟩:=Aw2 inv t e;rw[Rk (by omega)]at ha
   cases ha
  ·refine⟨cur,look s' cur Cf h1,h2,fun inv t e ha=>?_⟩
   rw[hvv s' Cf];obtain⟨v,sv'⟩:=cur;simp only at e;subst e;exact(h3 inv t rfl ha).tr (show Ac5 G σ w s' t (vv s')from Anw s' v _ h1) (hk s' Cf)
 |cl f fs cs=>
  refine Ay0.tr h fun s' cur h1=>?_
  by_cases Cf:s'=d
  ·subst Cf;rw[hd]at h1;cases h1;exact⟨_,here,by show old.1≤ver;omega,fun e=>by exfalso;have:old.1=ver:=e;omega⟩
  ·exact⟨cur,look s' cur Cf h1,Bz _,fun _=>hvv s' Cf⟩
 |al s' Gu=>
  obtain⟨cur,h1,h2,h3⟩:=h;by_cases Cf:s'=d
  ·subst Cf;rw[hd]at h1;cases h1;exact⟨_,here,by show Gu≤ver;omega,fun e=>by exfalso;have:Gu=ver:=e;omega⟩
  ·exact⟨cur,look s' cur Cf h1,h2,fun e=>by rw[hvv s' Cf];exact h3 e⟩
 |_=>
  rw[Ait.own rfl]at h ⊢;exact Ab1.tr h hG fun b k hb=>hk s hs b k hb
def SV.fresh(sv:SV)(ver:Nat):SV:=match sv with
 | .own _ t=>.own [([],ver)] t
 |sv=>sv
theorem Nx{sv:SV}{ver:Nat}:∀inv t,sv.fresh ver= .own inv t→∃r,inv=([],ver)::r:=by
 intro inv t e;cases sv<;>simp only[SV.fresh,SV.own.injEq,reduceCtorEq]at e;exact⟨[],e.1.symm⟩
def SV.Awc(sv old:SV)(ver:Nat):SV:=match sv with
 | .own _ t=>match t with
   | .ptr d=>match old with
     | .own inv t0=>match t0 with
       | .ptr _=>.own (([0],ver)::inv) (.ptr d)
       |_=>.own [([],ver)] (.ptr d)
     |_=>.own [([],ver)] (.ptr d)
   |d=>.own [([],ver)] d
 |sv=>sv
theorem Na(sv old:SV)(ver:Nat):sv.Awc old ver=sv.fresh ver∨∃i0 i1 t0 t1,old= .own i0 (.ptr t0)∧sv= .own i1 (.ptr t1)∧sv.Awc old ver= .own (([0],ver)::i0) (.ptr t1):=by
 unfold SV.Awc;split
 ·rename_i i t;split
  ·rename_i d;split
   ·rename_i inv t0;split
    ·rename_i d0;exact .inr ⟨_,_,_,_,rfl,rfl,rfl⟩
    ·exact .inl rfl
   ·exact .inl rfl
  ·exact .inl rfl
 ·exact .inl (by cases sv<;>first|rfl|(rename_i h;exact absurd rfl (h _ _)))
theorem Yr{sv old:SV}{ver:Nat}:(sv.Awc old ver).root=sv.root:=by
 rcases Na sv old ver with h|⟨i0,i1,t0,t1,rfl,rfl,h⟩
 ·rw[h];cases sv<;>rfl
 ·rw[h];rfl
theorem Aaj{sv old:SV}{ver h:Nat}(e:sv.Awc old ver= .par h):sv= .par h:=by
 rcases Na sv old ver with h1|⟨i0,i1,t0,t1,rfl,rfl,h1⟩
 ·rw[h1]at e;cases sv<;>simp_all [SV.fresh]
 ·rw[h1]at e;cases e
theorem Aak{G:Mem}{σ:Lab}{w:World}{s:Nat}{sv old:SV}{ver:Nat}{c:Value}:Ab1 G σ w s (sv.Awc old ver) c=Ab1 G σ w s sv c:=by
 rcases Na sv old ver with h1|⟨i0,i1,t0,t1,rfl,rfl,h1⟩
 ·rw[h1];cases sv<;>rfl
 ·rw[h1];rfl
def A13(old:SV)(ver:Nat)(inv:Inv)(t:D):Prop:=(∃r,inv=([],ver)::r)∨∃i0 t0 t1,old= .own i0 (.ptr t0)∧t= .ptr t1∧inv=([0],ver)::i0
theorem Yq{sv old:SV}{ver:Nat}:∀inv t,sv.Awc old ver= .own inv t→A13 old ver inv t:=by
 intro inv t e;rcases Na sv old ver with h1|⟨i0,i1,t0,t1,rfl,rfl,h1⟩
 ·rw[h1]at e;exact .inl (Nx _ _ e)
 ·rw[h1]at e;cases e;exact .inr ⟨_,_,_,rfl,rfl,rfl⟩
theorem A13.pt{G G':Mem}{σ σ':Lab}{w w':World}{s:Nat}{old:SV}{ver v:Nat}{inv:Inv}{t:D}{c cr:Value}{p:List Nat}(h:A13 old ver inv t)(hv:v<ver)(hp:p≠[])(ha:alive v inv p=true)
 (ho:∀i0 t0,old= .own i0 t0→Ac5 G σ w s t0 cr) (hn:Ac5 G' σ' w' s t cr) (hold:∀i0 t0,old= .own i0 t0→alive v i0 p=true→PtD w t0 cr p c):PtD w' t cr p c:=by
 rcases h with⟨r,rfl⟩|⟨i0,t0,t1,rfl,rfl,rfl⟩
 ·cases p with
  |nil=>exact absurd rfl hp
  |cons i p=>rw[Nu hv (by simp)]at ha;cases ha
 ·have h1:Nat.ble ver v=false:=by cases hh:Nat.ble ver v<;>simp_all [Nat.ble_eq];omega
  simp only[alive,List.all_cons,h1,Bool.false_or,Ap]at ha;obtain⟨ha1,ha2⟩:=ha;have h2:=hold _ _ rfl ha2
  match p,hp,ha1,h2 with
  | [i],_,_,h2=>
    have h3:=h2;obtain⟨v0,b,o,cs,g1,_,_⟩:=h3;have hi:i=0:=by
     cases i with
     |zero=>rfl
     |succ i=>simp[D.at,D.Xw]at g1
    subst hi;have:=Ac5.Bk2 (ho _ _ rfl) h2;subst this;exact hn.pt
  |i::j::p,_,ha1,_=>exfalso;simp[Ks,Nat.ble]at ha1
theorem A13.hd{G G':Mem}{σ σ':Lab}{w w':World}{s:Nat}{old:SV}{ver v:Nat}{inv:Inv}{t:D}{c cr:Value}{p:List Nat}(h:A13 old ver inv t)(hv:v<ver)(ha:J7 v inv p=true)
 (ho:∀i0 t0,old= .own i0 t0→Ac5 G σ w s t0 cr) (hn:Ac5 G' σ' w' s t cr) (hold:∀i0 t0,old= .own i0 t0→J7 v i0 p=true→HdD w t0 cr p c):HdD w' t cr p c:=by
 rcases h with⟨r,rfl⟩|⟨i0,t0,t1,rfl,rfl,rfl⟩
 ·rw[Rk hv]at ha;cases ha
 ·have h1:Nat.ble ver v=false:=by cases hh:Nat.ble ver v<;>simp_all [Nat.ble_eq];omega
  simp only[J7,List.all_cons,h1,Bool.false_or,Ap]at ha;obtain⟨ha1,ha2⟩:=ha;have h2:=hold _ _ rfl ha2
  match p,ha1,h2 with
  | [],_,h2=>
    obtain⟨v0,hh,g1,g2,g3⟩:=h2;have h4:=(ho _ _ rfl).hd rfl;obtain⟨v1,hh1,k1,k2,k3⟩:=h4;rw[g3]at k3;simp only[A0,He,Ajg,and_true]at k3;rw[k3.2];exact hn.hd rfl
  | [i],ha1,_=>exfalso;simp[Ks,Nat.blt,Nat.ble]at ha1
  |i::j::p,ha1,_=>exfalso;simp[Ks,Nat.blt,Nat.ble]at ha1
theorem Sm{sv:SV}{ver:Nat}:(sv.fresh ver).root=sv.root:=by cases sv<;>rfl
theorem Te{sv:SV}{ver h:Nat}:sv.fresh ver= .par h↔sv= .par h:=by cases sv<;>simp[SV.fresh]
theorem Tf{G:Mem}{σ:Lab}{w:World}{s:Nat}{sv:SV}{ver:Nat}{c:Value}:Ab1 G σ w s (sv.fresh ver) c=Ab1 G σ w s sv c:=by cases sv<;>rfl
theorem Tq{a:Act}{B:Base}{d:Nat}{c:Value}(h:d<a.tmps.size):val (a.put (some d) c) B d=c:=by
 unfold val Act.put;have:d<(a.tmps.setIfInBounds d c++B.hid).size:=by simp;omega
 rw[Bt,Aez (by simpa using h)]
 simp[h]
theorem Jr{a:Act}{B:Base}{d s:Nat}{c:Value}(h:s≠d):val (a.put (some d) c) B s=val a B s:=by
 unfold val Act.put;rw[Bt,Bt];by_cases hs:s<a.tmps.size
 ·rw[Aez (by simpa using hs),Aez hs,Array.getElem?_setIfInBounds_ne (Ne.symm h)]
 ·rw[Aah (by simp;omega),Aah (by omega)]
  simp
theorem J2{a:Act}{B:Base}{s:Nat}(h:s<a.tmps.size):val a B s=a.eval (.tmp s):=by
 unfold val;rw[Bt,Aez h];simp[Act.eval]
theorem Rel.self{G G':Mem}{σ σ':Lab}{Fr:Mem}{w0:Base}{w w':World}{st:St}{a:Act}{d ver:Nat}{new:SV}{old:Nat × SV}
 (h:Rel G σ Fr w0 st a w) (H2:WOk G' σ' Fr w0 w') (hG:G.le G') (hd:st[d]?=some old) (hv:old.1<ver)
 (hk:∀s',s'≠d→Kept σ σ' w w' s') (Ak3:Ait G' σ' w' (st.set d (ver,new)) (val a w0) d new (val a w0 d)) (hp:∀h,new= .par h→val a w0 d=val a w0 h∧w0.n≤h:=by intro _ e;cases e)
 (Aw2:∀inv t,new= .own inv t→∃r,inv=([],ver)::r:=by intro _ _ e;cases e):
 Rel G' σ' Fr w0 (st.set d (ver,new)) a w':=by
 have Ze:d<st.length:=(A7.1 hd).1;have here:(st.set d (ver,new))[d]?=some (ver,new):=by simp[Ze]
 refine⟨H2,h.defers,h.n,by simp[h.len],?_,?_⟩
 ·intro s Gu sv hs;by_cases hsd:s=d
  ·subst hsd;rw[here]at hs;cases hs;exact Ak3
  ·rw[B3 (Ne.symm hsd)]at hs;exact(h.Eb s Gu sv hs).tr hG hsd hd hv hk (fun _ _=>rfl) Aw2 h.Eb
 ·intro s Gu h' hs;by_cases hsd:s=d
  ·subst hsd;rw[here]at hs;cases hs;exact hp h' rfl
  ·rw[B3 (Ne.symm hsd)]at hs;exact h.As8 s Gu h' hs
theorem Rel.put{G G':Mem}{σ σ':Lab}{Fr:Mem}{w0:Base}{w w':World}{st:St}{a:Act}{d ver:Nat}{new:SV}{old:Nat × SV}{c:Value}
 (h:Rel G σ Fr w0 st a w) (hdn:d<w0.n) (H2:WOk G' σ' Fr w0 w') (hG:G.le G') (hd:st[d]?=some old) (hv:old.1<ver)
 (hk:∀s',s'≠d→Kept σ σ' w w' s') (Ak3:Ait G' σ' w' (st.set d (ver,new)) (val (a.put (some d) c) w0) d new c) (hp:∀h,new= .par h→c=val a w0 h∧w0.n≤h:=by intro _ e;cases e)
 (Aw2:∀inv t,new= .own inv t→∃r,inv=([],ver)::r:=by intro _ _ e;cases e):
 Rel G' σ' Fr w0 (st.set d (ver,new)) (a.put (some d) c) w':=by
 have Ze:d<st.length:=(A7.1 hd).1;have here:(st.set d (ver,new))[d]?=some (ver,new):=by simp[Ze]
 refine⟨H2,h.defers,by simpa[Act.put]using h.n,by simpa[Act.put]using h.len,?_,?_⟩
 ·intro s Gu sv hs;by_cases hsd:s=d
  ·subst hsd;rw[here]at hs;cases hs;rw[Tq (by rw[h.n];exact hdn)]
   exact Ak3
  ·rw[B3 (Ne.symm hsd)]at hs;rw[Jr hsd];exact(h.Eb s Gu sv hs).tr hG hsd hd hv hk (fun s' hs'=>Jr hs') Aw2 h.Eb
 ·intro s Gu h' hs;by_cases hsd:s=d
  ·subst hsd;rw[here]at hs;cases hs;obtain⟨h1,h2⟩:=hp h' rfl;rw[Tq (by rw[h.n];exact hdn),Jr (by omega)]
   exact⟨h1,h2⟩
  ·rw[B3 (Ne.symm hsd)]at hs;obtain⟨h1,h2⟩:=h.As8 s Gu h' hs;rw[Jr hsd,Jr (by omega)]
   exact⟨h1,h2⟩
def Lab.drop(σ:Lab)(d:Nat):Lab:=fun b=>match σ b with
 |some (s,k)=>if s=d then none else some (s,k)
 |none=>none
theorem Lab.Ade{σ:Lab}{d b:Nat}{s k:Nat}:σ.drop d b=some (s,k)↔s≠d∧σ b=some (s,k):=by
 unfold Lab.drop;split
 ·rename_i s' k' h;split
  ·rename_i e;subst e;simp[h];intro Cf e;exact absurd e.symm Cf
  ·rename_i e;simp only[h,A0,He];constructor
   ·rintro⟨rfl,rfl⟩;exact⟨e,rfl,rfl⟩
   ·exact fun x=>x.2
 ·rename_i h;simp[h]
theorem Lab.Ayq{σ:Lab}{d b:Nat}{Gf:Nat × Nat}(h:σ.drop d b=some Gf):σ b=some Gf:=by
 obtain⟨s,k⟩:=Gf;exact(Lab.Ade.1 h).2
theorem WOk.drop{G:Mem}{σ:Lab}{Fr:Mem}{w0:Base}{w:World}(h:WOk G σ Fr w0 w)(d:Nat):WOk G (σ.drop d) Fr w0 w:=
 ⟨h.fixed,fun b Gf hb=>h.own b Gf (Lab.Ayq hb),fun b b' Gf hb Sy=>h.inj b b' Gf (Lab.Ayq hb) (Lab.Ayq Sy),h.frame,h.os,h.tape,h.output,h.size,h.apart,h.amb⟩
theorem Kept.drop(σ:Lab)(w:World){d s:Nat}(hs:s≠d):Kept σ (σ.drop d) w w s:=fun _ _ hb=>⟨Lab.Ade.2 ⟨hs,hb⟩,rfl⟩
theorem Rel.drop{G:Mem}{σ:Lab}{Fr:Mem}{w0:Base}{w:World}{st:St}{a:Act}{d ver:Nat}{old:Nat × SV}
 (h:Rel G σ Fr w0 st a w) (hd:st[d]?=some old) (hv:old.1<ver):Rel G (σ.drop d) Fr w0 (st.set d (ver,.no)) a w:=by
 exact Rel.self (new:=.no) h (h.Fc.drop d) (Mem.le.refl G) hd hv (fun s' hs=>Kept.drop σ w hs) trivial
theorem Rel.But{G:Mem}{σ:Lab}{Fr:Mem}{w0:Base}{w w':World}{st:St}{a:Act}{d ver:Nat}{old new:SV}
 (h:Rel G σ Fr w0 st a w) (H2:WOk G σ Fr w0 w') (hd:st[d]?=some (ver,old))
 (hk:∀s',s'≠d→Kept σ σ w w' s') (Asb:old.root=none) (hnr:new.root=none) (hnp:∀h,new≠ .par h) (hno:∀inv t,new≠ .own inv t)
 (Ak3:∀c,Ab1 G σ w d old c→Ab1 G σ w' d new c)
 (hb:∀k e sz l c,old.Aka k=some (e,sz,l)→∃l',new.Aka k=some (e,sz,l')∧(Aiu G σ w (d,k) e sz l c→Aiu G σ w' (d,k) e sz l' c)∧
   ∀n,Aiu G σ w (d,k) e sz (l.take n) c→Aiu G σ w' (d,k) e sz (l'.take n) c):
 Rel G σ Fr w0 (st.set d (ver,new)) a w':=by
 have Ze:d<st.length:=(A7.1 hd).1;refine⟨H2,h.defers,h.n,by simp[h.len],?_,?_⟩
 rotate_left
 ·intro s Gu h' hs;by_cases hsd:s=d
  ·subst hsd;have:(st.set s (ver,new))[s]?=some (ver,new):=by simp[Ze]
   rw[this]at hs;cases hs;exact absurd rfl (hnp h')
  ·rw[B3 (Ne.symm hsd)]at hs;exact h.As8 s Gu h' hs
 intro s Gu sv hs;have look:∀s' cur,s'≠d→st[s']?=some cur→(st.set d (ver,new))[s']?=some cur:=fun s' cur Cf hc=>by
  rw[B3 (Ne.symm Cf)];exact hc
 have here:(st.set d (ver,new))[d]?=some (ver,new):=by simp[Ze]
 by_cases hsd:s=d
 ·subst hsd;rw[here]at hs;cases hs;rw[Ait.own hnr];have:=h.Eb s ver old hd;rw[Ait.own Asb]at this;exact Ak3 _ this
 ·rw[B3 (Ne.symm hsd)]at hs;have h0:=h.Eb s Gu sv hs;generalize val a w0 s=c at h0;cases sv with
  |bor s' k Gu=>
   obtain⟨cur,h1,h2,h3⟩:=h0;by_cases Cf:s'=d
   ·subst Cf;rw[hd]at h1;cases h1;refine⟨_,here,h2,fun e=>?_⟩
    obtain⟨e,sz,l,h4,h5⟩:=h3 e;obtain⟨l',h6,h7,_⟩:=hb k e sz l c h4;exact⟨e,sz,l',h6,h7 h5⟩
   ·refine⟨cur,look s' cur Cf h1,h2,fun e=>?_⟩
    obtain⟨e,sz,l,h4,h5⟩:=h3 e;exact⟨e,sz,l,h4,h5.tr (Mem.le.refl G) fun b hb=>hk s' Cf b k hb⟩
  |sub s' k Gu n=>
   obtain⟨cur,h1,h2,h3⟩:=h0;by_cases Cf:s'=d
   ·subst Cf;rw[hd]at h1;cases h1;refine⟨_,here,h2,fun e=>?_⟩
    obtain⟨e,sz,l,h4,h5⟩:=h3 e;obtain⟨l',h6,_,h7⟩:=hb k e sz l c h4;exact⟨e,sz,l',h6,h7 n h5⟩
   ·refine⟨cur,look s' cur Cf h1,h2,fun e=>?_⟩
    obtain⟨e,sz,l,h4,h5⟩:=h3 e;exact⟨e,sz,l,h4,h5.tr (Mem.le.refl G) fun b hb=>hk s' Cf b k hb⟩
  |suf s' k Gu n=>
   obtain⟨cur,h1,h2,h3⟩:=h0;by_cases Cf:s'=d
   ·subst Cf;rw[hd]at h1;cases h1;refine⟨_,here,h2,fun e=>?_⟩
    obtain⟨e,sz,l,c0,h4,h5,h8⟩:=h3 e;obtain⟨l',h6,h7,_⟩:=hb k e sz l c0 h4;have h9:=h7 h5;refine⟨e,sz,l',c0,h6,h9,?_⟩;have:l'.length=l.length:=by
     obtain⟨x1,y1,_⟩:=h5;obtain⟨x2,y2,_⟩:=h9;obtain⟨ad,cap,e1,_⟩:=h8;rcases y1.2 with⟨p1,q1⟩|⟨g1,Byy,Bmo,p1,_⟩<;>rcases y2.2 with⟨p2,q2⟩|⟨g2,Byz,A4j,p2,_⟩
     ·rw[q1,q2]
     ·rw[p1]at p2;cases p2
     ·rw[p1]at p2;cases p2
     ·rw[p1]at p2;injection p2 with _ e3 _
      exact e3.symm
    rw[this];exact h8
   ·refine⟨cur,look s' cur Cf h1,h2,fun e=>?_⟩
    obtain⟨e,sz,l,c0,h4,h5,h6⟩:=h3 e;exact⟨e,sz,l,c0,h4,h5.tr (Mem.le.refl G) fun b hb=>hk s' Cf b k hb,h6⟩
  |pt s' k Gu off r=>
   obtain⟨cur,h1,h2,h3⟩:=h0;by_cases Cf:s'=d
   ·subst Cf;rw[hd]at h1;cases h1;exact⟨_,here,h2,h3⟩
   ·exact⟨cur,look s' cur Cf h1,h2,h3⟩
  |pdt s' Gu p b=>
   obtain⟨c0,hc0,h0⟩:=h0;obtain⟨cur,h1,h2,h3⟩:=h0;refine⟨c0,hc0,?_⟩;by_cases Cf:s'=d
   ·subst Cf;rw[hd]at h1;cases h1;exact⟨_,here,h2,fun inv t e=>absurd e (hno inv t)⟩
   ·refine⟨cur,look s' cur Cf h1,h2,fun inv t e hp ha=>?_⟩
    obtain⟨v,sv'⟩:=cur;simp only at e;subst e;exact(h3 inv t rfl hp ha).tr (show Ac5 G σ w s' t (val a w0 s')from h.Eb s' v _ h1) (hk s' Cf)
  |pd s' Gu p=>
   obtain⟨cur,h1,h2,h3⟩:=h0;by_cases Cf:s'=d
   ·subst Cf;rw[hd]at h1;cases h1;exact⟨_,here,h2,fun inv t e=>absurd e (hno inv t)⟩
   ·refine⟨cur,look s' cur Cf h1,h2,fun inv t e hp ha=>?_⟩
    obtain⟨v,sv'⟩:=cur;simp only at e;subst e;exact(h3 inv t rfl hp ha).tr (show Ac5 G σ w s' t (val a w0 s')from h.Eb s' v _ h1) (hk s' Cf)
  |bs s' Gu p lo n=>
   obtain⟨cur,h1,h2,h3⟩:=h0;by_cases Cf:s'=d
   ·subst Cf;rw[hd]at h1;cases h1;exact⟨_,here,h2,fun _ inv t e=>absurd e (hno inv t)⟩
   ·refine⟨cur,look s' cur Cf h1,h2,fun e0 inv t e=>?_⟩
    obtain⟨v,sv'⟩:=cur;simp only at e;subst e;exact⟨(h3 e0 inv t rfl).1,(h3 e0 inv t rfl).2.tr (show Ac5 G σ w s' t (val a w0 s')from h.Eb s' v _ h1) (hk s' Cf)⟩
  |kcl f s' Gu p=>
   obtain⟨g,c0,ty,kk,hc0,hg1,hg2,h0⟩:=h0;obtain⟨cur,h1,h2,h3⟩:=h0;have hgk:=hk s hsd g kk hg1;refine⟨g,c0,ty,kk,hc0,hgk.1,by rw[hgk.2];exact hg2,?_⟩
   by_cases Cf:s'=d
   ·subst Cf;rw[hd]at h1;cases h1;exact⟨_,here,h2,fun inv t e=>absurd e (hno inv t)⟩
   ·refine⟨cur,look s' cur Cf h1,h2,fun inv t e ha=>?_⟩
    obtain⟨v,sv'⟩:=cur;simp only at e;subst e;exact(h3 inv t rfl ha).tr (show Ac5 G σ w s' t (val a w0 s')from h.Eb s' v _ h1) (hk s' Cf)
  |bp s' Gu p=>
   obtain⟨g,c0,ty,kk,hc0,hg1,hg2,h0⟩:=h0;obtain⟨cur,h1,h2,h3⟩:=h0;have hgk:=hk s hsd g kk hg1;refine⟨g,c0,ty,kk,hc0,hgk.1,by rw[hgk.2];exact hg2,?_⟩
   by_cases Cf:s'=d
   ·subst Cf;rw[hd]at h1;cases h1;exact⟨_,here,h2,fun inv t e=>absurd e (hno inv t)⟩
   ·refine⟨cur,look s' cur Cf h1,h2,fun inv t e hp ha=>?_⟩
    obtain⟨v,sv'⟩:=cur;simp only at e;subst e;exact(h3 inv t rfl hp ha).tr (show Ac5 G σ w s' t (val a w0 s')from h.Eb s' v _ h1) (hk s' Cf)
  |ocl fb yb s' Gu p=>
   obtain⟨gb,xb,tb,kb,hb1,hb2,hb3,h0⟩:=h0;obtain⟨g,c0,ty,kk,hc0,hg1,hg2,h0⟩:=h0;obtain⟨cur,h1,h2,h3⟩:=h0;have hgk:=hk s hsd g kk hg1;have hbk:=hk s hsd gb kb hb1;refine⟨gb,xb,tb,kb,hbk.1,by rw[hbk.2];exact hb2,(by first|exact D8.mono hG yb _ hb3|exact hb3),?_⟩
   refine⟨g,c0,ty,kk,hc0,hgk.1,by rw[hgk.2];exact hg2,?_⟩
   by_cases Cf:s'=d
   ·subst Cf;rw[hd]at h1;cases h1;exact⟨_,here,h2,fun inv t e=>absurd e (hno inv t)⟩
   ·refine⟨cur,look s' cur Cf h1,h2,fun inv t e hp ha=>?_⟩
    obtain⟨v,sv'⟩:=cur;simp only at e;subst e;exact(h3 inv t rfl hp ha).tr (show Ac5 G σ w s' t (val a w0 s')from h.Eb s' v _ h1) (hk s' Cf)
  |bd s' Gu p=>
   obtain⟨cur,h1,h2,h3⟩:=h0;by_cases Cf:s'=d
   ·subst Cf;rw[hd]at h1;cases h1;exact⟨_,here,h2,fun inv t e=>absurd e (hno inv t)⟩
   ·refine⟨cur,look s' cur Cf h1,h2,fun inv t e ha=>?_⟩
    obtain⟨v,sv'⟩:=cur;simp only at e;subst e;exact(h3 inv t rfl ha).tr (show Ac5 G σ w s' t (val a w0 s')from h.Eb s' v _ h1) (hk s' Cf)
  |cl f fs cs=>
   refine Ay0.tr h0 fun s' cur h1=>?_
   by_cases Cf:s'=d
   ·subst Cf;rw[hd]at h1;cases h1;exact⟨_,here,Bz _,fun _=>rfl⟩
   ·exact⟨cur,look s' cur Cf h1,Bz _,fun _=>rfl⟩
  |al s' Gu=>
   obtain⟨cur,h1,h2,h3⟩:=h0;by_cases Cf:s'=d
   ·subst Cf;rw[hd]at h1;cases h1;exact⟨_,here,h2,h3⟩
   ·exact⟨cur,look s' cur Cf h1,h2,h3⟩
  |_=>
   rw[Ait.own rfl]at h0 ⊢;exact Ab1.tr h0 (Mem.le.refl G) fun b k hb=>hk s hsd b k hb
end Go.Ab
