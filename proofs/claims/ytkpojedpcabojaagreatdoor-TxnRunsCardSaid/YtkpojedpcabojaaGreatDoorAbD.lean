/- Lemmas -/
import Derived.Test.YtkpojedpcabojaaGreatDoorAb1
set_option linter.unusedVariables false
set_option linter.unusedSimpArgs false
namespace Go.Ab
def Row(w:World)(g:Nat)(e:TypeId)(cur:Array Value):Prop:=∃ty fz,w.heap[g]?=some (.cells cur ty fz)∧(fz=(0,0)∨cur.size≤fz.1)∧(e<1000000→ty=e∧fz=(0,0))
theorem Row.of{w:World}{g:Nat}{e:TypeId}{cur:Array Value}(h:w.heap[g]?=some (.cells cur e (0,0))):Row w g e cur:=⟨e,(0,0),h,.inl rfl,fun _=>⟨rfl,rfl⟩⟩
theorem Row.to{w:World}{g:Nat}{e:TypeId}{cur:Array Value}(h:Row w g e cur)(he:e<1000000):w.heap[g]?=some (.cells cur e (0,0)):=by
 obtain⟨ty,fz,h1,_,h2⟩:=h;obtain⟨rfl,rfl⟩:=h2 he;exact h1
theorem Row.same{w w':World}{g:Nat}{e:TypeId}{cur:Array Value}(h:Row w g e cur)(hk:w'.heap[g]?=w.heap[g]?):Row w' g e cur:=by
 obtain⟨ty,fz,h1,h2⟩:=h;exact⟨ty,fz,by rw[hk];exact h1,h2⟩
inductive D where
 |it (x:I)
 |st (l:List D)
 |vec (e:TypeId) (sz:Nat) (l:List D)
 |ptr (d:D)
 |map (ks:List I) (vs:List D)
 deriving Inhabited
mutual
def D.size:D→Nat
 | .it x=>x.size
 | .st l=>Ae5 l
 |_=>1
def Ae5:List D→Nat
 | []=>0
 |d::l=>d.size+Ae5 l
end
def D.isAgg:D→Bool
 | .it x=>x.isAgg
 | .st _=>true
 |_=>false
def valOf(agg:Bool)(v:Value):Bool:=match v with
 | .agg _=>agg
 |_=> !agg
mutual
def Fe(G:Mem)(w:World):D→List Value→List Nat→Prop
 | .it x,cs,bs=>D8 G x cs∧bs=[]
 | .st l,cs,bs=>H8 G w l cs bs
 | .vec e sz l,cs,bs=>(cs=[.slice none 0 0]∧l=[]∧bs=[])∨
  ∃g off cap cur xs bs',cs=[.slice (some ⟨g,off,none⟩) l.length cap]∧Row w g e cur∧(e<1000000→off=0∧cur.size=cap*sz)∧l.length≤cap∧cap≤maxLen∧off+cap*sz≤cur.size∧(cur.toList.drop off).take (l.length*sz)=xs∧
   H8 G w l xs bs'∧(∀x∈l,x.size=sz)∧bs=g::bs'
 | .ptr d,cs,bs=>∃b cells ty bs',cs=[.pointer (some ⟨b,0,none⟩)]∧w.heap[b]?=some (.cells cells ty (0,0))∧Fe G w d cells.toList bs'∧bs=b::bs'
 | .map ks vs,cs,bs=>∃b es clock kc vc bs',cs=[.map (some b)]∧w.heap[b]?=some (.map es clock)∧es.toList.map (·.key)=kc∧es.toList.map (·.val)=vc∧Aos G ks kc∧Aiz G w vs vc bs'∧
  (es.toList.map (·.born)).Pairwise (· < ·)∧(∀e∈es.toList,e.born<clock)∧bs=b::bs'
def H8(G:Mem)(w:World):List D→List Value→List Nat→Prop
 | [],cs,bs=>cs=[]∧bs=[]
 |d::l,cs,bs=>∃c c' b b',cs=c++c'∧bs=b++b'∧Fe G w d c b∧H8 G w l c' b'
def Aiz(G:Mem)(w:World):List D→List Value→List Nat→Prop
 | [],cs,bs=>cs=[]∧bs=[]
 |d::l,cs,bs=>∃v c' b b',cs=v::c'∧bs=b++b'∧valOf d.isAgg v=true∧Fe G w d v.cells.toList b∧Aiz G w l c' b'
def Aos(G:Mem):List I→List Value→Prop
 | [],cs=>cs=[]
 |x::l,cs=>∃v c',cs=v::c'∧valOf x.isAgg v=true∧D8 G x v.cells.toList∧Aos G l c'
end
theorem Aos.mono{G G':Mem}(hG:G.le G'):∀{ks:List I} {cs:List Value},Aos G ks cs→Aos G' ks cs
 | [],_,h=>by simpa only[Aos]using h
 |x::l,cs,h=>by
  simp only[Aos]at h ⊢;obtain⟨v,c',h1,h2,h3,h4⟩:=h;exact⟨v,c',h1,h2,h3.mono hG,Aos.mono hG h4⟩
mutual
theorem Fe.tr{G G':Mem}{w w':World}(hG:G.le G'):∀{d:D} {cs:List Value} {bs:List Nat},Fe G w d cs bs→(∀b∈bs,w'.heap[b]?=w.heap[b]?)→Fe G' w' d cs bs
 | .it x,cs,bs,h,_=>by
   simp only[Fe]at h ⊢;exact⟨D8.mono hG x cs h.1,h.2⟩
 | .st l,cs,bs,h,hk=>by
   simp only[Fe]at h ⊢;exact H8.tr hG h hk
 | .vec e sz l,cs,bs,h,hk=>by
   simp only[Fe]at h ⊢;rcases h with h|⟨g,off,cap,cur,xs,bs',h1,h2,h2',h3,h4,h5,h6,h7,h8,rfl⟩
   ·exact .inl h
   ·exact .inr ⟨g,off,cap,cur,xs,bs',h1,h2.same (hk g (by simp)),h2',h3,h4,h5,h6,H8.tr hG h7 fun b hb=>hk b (by simp[hb]),h8,rfl⟩
 | .ptr d,cs,bs,h,hk=>by
   simp only[Fe]at h ⊢;obtain⟨b,cells,ty,bs',h1,h2,h3,rfl⟩:=h;exact⟨b,cells,ty,bs',h1,by rw[hk b (by simp)];exact h2,Fe.tr hG h3 fun b hb=>hk b (by simp[hb]),rfl⟩
 | .map ks vs,cs,bs,h,hk=>by
   simp only[Fe]at h ⊢;obtain⟨b,es,clock,kc,vc,bs',h1,h2,h3,h4,h5,h6,h7,h8,rfl⟩:=h;exact⟨b,es,clock,kc,vc,bs',h1,by rw[hk b (by simp)];exact h2,h3,h4,h5.mono hG,Aiz.tr hG h6 fun b hb=>hk b (by simp[hb]),h7,h8,rfl⟩
theorem H8.tr{G G':Mem}{w w':World}(hG:G.le G'):∀{l:List D} {cs:List Value} {bs:List Nat},H8 G w l cs bs→(∀b∈bs,w'.heap[b]?=w.heap[b]?)→H8 G' w' l cs bs
 | [],cs,bs,h,_=>by simpa only[H8]using h
 |d::l,cs,bs,h,hk=>by
  simp only[H8]at h ⊢;obtain⟨c,c',b,b',h1,rfl,h3,h4⟩:=h;exact⟨c,c',b,b',h1,rfl,Fe.tr hG h3 fun x hx=>hk x (by simp[hx]),H8.tr hG h4 fun x hx=>hk x (by simp[hx])⟩
theorem Aiz.tr{G G':Mem}{w w':World}(hG:G.le G'):∀{l:List D} {cs:List Value} {bs:List Nat},Aiz G w l cs bs→(∀b∈bs,w'.heap[b]?=w.heap[b]?)→Aiz G' w' l cs bs
 | [],cs,bs,h,_=>by simpa only[Aiz]using h
 |d::l,cs,bs,h,hk=>by
  simp only[Aiz]at h ⊢;obtain⟨v,c',b,b',h1,rfl,hv,h3,h4⟩:=h;exact⟨v,c',b,b',h1,rfl,hv,Fe.tr hG h3 fun x hx=>hk x (by simp[hx]),Aiz.tr hG h4 fun x hx=>hk x (by simp[hx])⟩
end
mutual
theorem Fe.length{G:Mem}{w:World}:∀{d:D} {cs:List Value} {bs:List Nat},Fe G w d cs bs→cs.length=d.size
 | .it x,cs,bs,h=>by
   simp only[Fe]at h;exact D8.length x cs h.1
 | .st l,cs,bs,h=>by
   simp only[Fe]at h;exact H8.length h
 | .vec e sz l,cs,bs,h=>by
   simp only[Fe]at h;rcases h with⟨rfl,_⟩|⟨g,off,cap,cur,xs,bs',rfl,_⟩<;>rfl
 | .ptr d,cs,bs,h=>by
   simp only[Fe]at h;obtain⟨b,cells,ty,bs',rfl,_⟩:=h;rfl
 | .map ks vs,cs,bs,h=>by
   simp only[Fe]at h;obtain⟨b,es,clock,kc,vc,bs',rfl,_⟩:=h;rfl
theorem H8.length{G:Mem}{w:World}:∀{l:List D} {cs:List Value} {bs:List Nat},H8 G w l cs bs→cs.length=Ae5 l
 | [],cs,bs,h=>by
   simp only[H8]at h;simp[h.1,Ae5]
 |d::l,cs,bs,h=>by
  simp only[H8]at h;obtain⟨c,c',b,b',rfl,_,h3,h4⟩:=h;simp[Ae5,Fe.length h3,H8.length h4]
end
mutual
theorem Fe.one{G:Mem}{w:World}:∀{d:D} {cs:List Value} {bs:List Nat},Fe G w d cs bs→∀c∈cs,c.oneCell'=true
 | .it x,cs,bs,h=>by
   simp only[Fe]at h;exact D8.one x cs h.1
 | .st l,cs,bs,h=>by
   simp only[Fe]at h;exact H8.one h
 | .vec e sz l,cs,bs,h=>by
   simp only[Fe]at h;rcases h with⟨rfl,_⟩|⟨g,off,cap,cur,xs,bs',rfl,_⟩<;>simp[Value.oneCell']
 | .ptr d,cs,bs,h=>by
   simp only[Fe]at h;obtain⟨b,cells,ty,bs',rfl,_⟩:=h;simp[Value.oneCell']
 | .map ks vs,cs,bs,h=>by
   simp only[Fe]at h;obtain⟨b,es,clock,kc,vc,bs',rfl,_⟩:=h;simp[Value.oneCell']
theorem H8.one{G:Mem}{w:World}:∀{l:List D} {cs:List Value} {bs:List Nat},H8 G w l cs bs→∀c∈cs,c.oneCell'=true
 | [],cs,bs,h=>by
   simp only[H8]at h;simp[h.1]
 |d::l,cs,bs,h=>by
  simp only[H8]at h;obtain⟨c,c',b,b',rfl,_,h3,h4⟩:=h;intro v hv;rcases Bv.1 hv with hv|hv
  ·exact Fe.one h3 v hv
  ·exact H8.one h4 v hv
end
theorem H8.its{G:Mem}{w:World}:∀{l:List I} {cs:List Value} {bs:List Nat},H8 G w (l.map D.it) cs bs↔F9 G l cs∧bs=[]
 | [],cs,bs=>by simp[H8,F9]
 |x::l,cs,bs=>by
  simp only[Cy,H8,Fe,F9];constructor
  ·rintro⟨c,c',b,b',rfl,rfl,⟨h1,rfl⟩,h2⟩;obtain⟨h3,rfl⟩:=H8.its.1 h2;exact⟨⟨c,c',rfl,h1,h3⟩,rfl⟩
  ·rintro⟨⟨c,c',rfl,h1,h2⟩,rfl⟩;exact⟨c,c',[],[],rfl,rfl,⟨h1,rfl⟩,H8.its.2 ⟨h2,rfl⟩⟩
theorem Vm:∀(l:List I),Ae5 (l.map D.it)=sizes l
 | []=>rfl
 |x::l=>by simp[Ae5,sizes,D.size,Vm l]
def Jo:List D→Option (List I)
 | []=>some []
 | .it x::l=>match Jo l with
   |some r=>some (x::r)
   |none=>none
 |_::_=>none
theorem Qf:∀{l:List D} {r:List I},Jo l=some r→l=r.map D.it
 | [],r,h=>by simp only[Jo,A0]at h;subst h;rfl
 | .it x::l,r,h=>by
   simp only[Jo]at h;split at h
   ·rename_i r' hr;cases h;simp[Qf hr]
   ·cases h
 | .st _::l,r,h=>by simp[Jo]at h
 | .vec _ _ _::l,r,h=>by simp[Jo]at h
 | .ptr _::l,r,h=>by simp[Jo]at h
 | .map _ _::l,r,h=>by simp[Jo]at h
def Mg(l:List D):D:=match Jo l with
 |some r=>.it (.agg r)
 |none=>.st l
theorem Fe.Mg{G:Mem}{w:World}{l:List D}{cs:List Value}{bs:List Nat}:Fe G w (Ab.Mg l) cs bs↔H8 G w l cs bs:=by
 unfold Ab.Mg;split
 ·rename_i r hr;rw[Qf hr,H8.its];simp only[Fe,D8]
 ·simp only[Fe]
theorem Sw(l:List D):(Mg l).isAgg=true:=by
 unfold Mg;split<;>rfl
def D.Xw:D→Nat→Option D
 | .it (.agg l),i=>match l[i]? with
   |some y=>some (.it y)
   |none=>none
 | .it (.arr _ l),i=>match l[i]? with
   |some y=>some (.it y)
   |none=>none
 | .it _,_=>none
 | .st l,i=>l[i]?
 | .vec _ _ l,i=>l[i]?
 | .ptr d,i=>match i with
   |0=>some d
   |_+1=>none
 | .map _ vs,i=>vs[i]?
def D.Fh:D→Nat→D→Option D
 | .it (.agg l),i,y=>some (Mg ((l.map D.it).set i y))
 | .it (.arr sz l),i,y=>match y with
   | .it y=>some (.it (.arr sz (l.set i y)))
   |_=>none
 | .it _,_,_=>none
 | .st l,i,y=>some (Mg (l.set i y))
 | .vec e sz l,i,y=>some (.vec e sz (l.set i y))
 | .ptr _,_,y=>some (.ptr y)
 | .map ks vs,i,y=>some (.map ks (vs.set i y))
def D.at:List Nat→D→Option D
 | [],d=>some d
 |i::p,d=>match d.Xw i with
  |some y=>y.at p
  |none=>none
def D.put:List Nat→D→D→Option D
 | [],_,u=>some u
 |i::p,d,u=>match d.Xw i with
  |some y=>match D.put p y u with
   |some y'=>d.Fh i y'
   |none=>none
  |none=>none
def D.leaf:D→Bool
 | .it x=> !x.isAgg
 |_=>false
def D.head:D→Bool
 | .vec _ _ _| .ptr _| .map _ _=>true
 |_=>false
abbrev Avv:=Option (Nat × Nat) × List Value
def hop(here:Option (Nat × Nat))(o:Nat):Option (Nat × Nat):=match here with
 |some (b,k)=>some (b,k+o)
 |none=>none
def Jx(w:World):D→Avv→Nat→Option Avv
 | .it (.agg l),(here,cs),i=>match l[i]? with
   |some y=>some (hop here (sizes (l.take i)),(cs.drop (sizes (l.take i))).take y.size)
   |none=>none
 | .it (.arr sz l),(here,cs),i=>match l[i]? with
   |some _=>some (hop here (i*sz),(cs.drop (i*sz)).take sz)
   |none=>none
 | .it _,_,_=>none
 | .st l,(here,cs),i=>match l[i]? with
   |some y=>some (hop here (Ae5 (l.take i)),(cs.drop (Ae5 (l.take i))).take y.size)
   |none=>none
 | .vec _ sz l,(_,cs),i=>match l[i]?,cs with
   |some _,[.slice (some ⟨g,off,none⟩) _ _]=>match w.heap[g]? with
    |some (.cells cur _ _)=>some (some (g,off+i*sz),(cur.toList.drop (off+i*sz)).take sz)
    |_=>none
   |_,_=>none
 | .ptr _,(_,cs),i=>match i,cs with
   |0,[.pointer (some ⟨b,0,none⟩)]=>match w.heap[b]? with
    |some (.cells cur _ _)=>some (some (b,0),cur.toList)
    |_=>none
   |_,_=>none
 | .map _ _,(_,cs),i=>match cs with
   | [.map (some b)]=>match w.heap[b]? with
     |some (.map es _)=>match es.toList[i]? with
      |some e=>some (none,e.val.cells.toList)
      |none=>none
     |_=>none
   |_=>none
def spot(w:World):List Nat→D→Avv→Option Avv
 | [],_,s=>some s
 |i::p,d,s=>match d.Xw i,Jx w d s i with
  |some y,some s'=>spot w p y s'
  |_,_=>none
theorem U7{l:List D}{j:Nat}:(Mg l).Xw j=l[j]?:=by
 unfold Mg;split
 ·rename_i r hr;rw[Qf hr];simp only[D.Xw,Ev];cases r[j]?<;>rfl
 ·rfl
theorem Vn(l:List I)(i:Nat):Ae5 ((l.map D.it).take i)=sizes (l.take i):=by rw[←List.map_take,Vm]
theorem Mf{w:World}{l:List D}{s:Avv}{j:Nat}:Jx w (Mg l) s j=match l[j]? with
 |some y=>some (hop s.1 (Ae5 (l.take j)),(s.2.drop (Ae5 (l.take j))).take y.size)
 |none=>none:=by
 obtain⟨here,cs⟩:=s;unfold Mg;split
 ·rename_i r hr;rw[Qf hr,Vn,Ev];simp only[Jx];cases r[j]?<;>rfl
 ·simp only[Jx]
theorem Px{b1 b b2 b':List Nat}(h:(b1++b++b2).Nodup)(hb:b'.Nodup)(hf:∀c∈b',c∈b∨c ∉ b1++b++b2):
 (b1++b'++b2).Nodup∧∀c,c∈b1++b'++b2↔(c∈b1++b++b2∧c ∉ b)∨c∈b':=by
 simp only[Hb,Bv]at h hf ⊢;obtain⟨⟨h1,h2,h3⟩,h4,h5⟩:=h;refine⟨⟨⟨h1,hb,fun a ha c hc=>?_⟩,h4,fun a ha c hc=>?_⟩,fun c=>?_⟩
 ·rintro rfl;rcases hf a hc with h6|h6
  ·exact h3 a ha a h6 rfl
  ·exact h6 (.inl (.inl ha))
 ·rintro rfl;rcases ha with ha|ha
  ·exact h5 a (.inl ha) a hc rfl
  ·rcases hf a ha with h6|h6
   ·exact h5 a (.inr h6) a hc rfl
   ·exact h6 (.inr hc)
 ·constructor
  ·rintro((h6|h6)|h6)
   ·exact .inl ⟨.inl (.inl h6),fun h7=>h3 c h6 c h7 rfl⟩
   ·exact .inr h6
   ·exact .inl ⟨.inr h6,fun h7=>h5 c (.inr h7) c h6 rfl⟩
  ·rintro(⟨(h6|h6)|h6,h7⟩|h6)
   ·exact .inl (.inl h6)
   ·exact absurd h6 h7
   ·exact .inr h6
   ·exact .inl (.inr h6)
theorem K4{a b c:List Value}:((a++b++c).drop a.length).take b.length=b:=by
 rw[Df,Aog,Amq]
theorem H8.nth{G:Mem}{w:World}:∀{l:List D} {cs:List Value} {bs:List Nat} {i:Nat} {y:D},H8 G w l cs bs→l[i]?=some y→
 ∃c1 c c2 b1 b b2,cs=c1++c++c2∧bs=b1++b++b2∧c1.length=Ae5 (l.take i)∧Fe G w y c b∧
  (∀G' w' y' c' b',G.le G'→Fe G' w' y' c' b'→(∀x∈b1++b2,w'.heap[x]?=w.heap[x]?)→H8 G' w' (l.set i y') (c1++c'++c2) (b1++b'++b2))∧
  ∀j z,j≠i→l[j]?=some z→∃bz,Fe G w z ((cs.drop (Ae5 (l.take j))).take z.size) bz∧bz.Sublist (b1++b2)
 | [],cs,bs,i,y,_,h=>by simp at h
 |d::l,cs,bs,0,y,h,hy=>by
  simp only[H8]at h;obtain⟨c,c',b,b',rfl,rfl,h1,h2⟩:=h;simp only[Fa,A0]at hy;subst hy;refine⟨[],c,c',[],b,b',by simp,by simp,by simp[Ae5],h1,?_,?_⟩
  ·intro G' w' y' c2 b2 hG hy' hk;simp only[Akm,H4,H8];exact⟨c2,c',b2,b',rfl,rfl,hy',h2.tr hG fun x hx=>hk x (by simpa using hx)⟩
  ·intro j z hj hz;cases j with
   |zero=>exact absurd rfl hj
   |succ j=>
    simp only[Du]at hz;obtain⟨c1,cc,c2,b1,bb,b2,rfl,rfl,hl,hr,_⟩:=H8.nth h2 hz;refine⟨bb,?_,by simp⟩
    simp only[List.take_succ_cons,Ae5];rw[←Fe.length h1, ←hl, ←Fe.length hr,List.drop_length_add_append,K4];exact hr
 |d::l,cs,bs,i+1,y,h,hy=>by
  simp only[H8]at h;obtain⟨c,c',b,b',rfl,rfl,h1,h2⟩:=h;simp only[Du]at hy;obtain⟨c1,cc,c2,b1,bb,b2,rfl,rfl,hl,hr,Akv,Av2⟩:=H8.nth h2 hy;refine⟨c++c1,cc,c2,b++b1,bb,b2,by simp,by simp,by simp[Ae5,hl,Fe.length h1],hr,?_,?_⟩
  ·intro G' w' y' c3 b3 hG hy' hk;simp only[Ais,H8];refine⟨c,c1++c3++c2,b,b1++b3++b2,by simp,by simp,h1.tr hG fun x hx=>hk x (by simp[hx]),Akv G' w' y' c3 b3 hG hy' fun x hx=>hk x ?_⟩
   simp only[Bv]at hx ⊢;rcases hx with hx|hx
   ·exact .inl (.inr hx)
   ·exact .inr hx
  ·intro j z hj hz;cases j with
   |zero=>
    simp only[Fa,A0]at hz;subst hz;refine⟨b,?_,by simp⟩
    simp only[List.take_zero,Ae5,List.drop_zero];rw[←Fe.length h1,Amq];exact h1
   |succ j=>
    simp only[Du]at hz;obtain⟨bz,e1,e2⟩:=Av2 j z (by omega) hz
    refine⟨bz,?_,by rw[Df];exact e2.trans (List.sublist_append_right _ _)⟩
    simp only[List.take_succ_cons,Ae5];rw[←Fe.length h1,List.drop_length_add_append];exact e1
theorem Sf{l:List D}{i:Nat}{y y':D}(h:l[i]?=some y)(hs:y'.size=y.size)(j:Nat):Ae5 ((l.set i y').take j)=Ae5 (l.take j):=by
 induction l generalizing i j with
 |nil=>simp at h
 |cons x l ih=>
  cases j with
  |zero=>simp
  |succ j=>
   cases i with
   |zero=>
    simp only[Fa,A0]at h;subst h;simp[Ae5,hs]
   |succ i=>
    simp only[Du]at h;simp[Ae5,ih h j]
inductive Lie where
 |inl (pre post:List Value)
 |blk (g:Nat) (pre post:List Value) (ty:TypeId) (fz:Nat × Nat)
 |val
def Lie.cells(m:Lie)(cs c:List Value):List Value:=match m with
 | .inl pre post=>pre++c++post
 |_=>cs
def Lie.fits(m:Lie)(w:World)(bs ybs:List Nat)(s s':Avv):Prop:=match m with
 | .inl pre post=>s.2=pre++s'.2++post∧s'.1=hop s.1 pre.length
 | .blk g pre post ty fz=>g∈bs∧g ∉ ybs∧(∃row,w.heap[g]?=some (.cells row ty fz)∧(fz=(0,0)∨row.size≤fz.1)∧row.toList=pre++s'.2++post)∧s'.1=some (g,pre.length)
 | .val=>s'.1=none
def Lie.new(m:Lie)(w w':World)(bs ybs:List Nat)(cs' c:List Value):Prop:=match m with
 | .inl _ _=>∀b∈bs,b ∉ ybs→w'.heap[b]?=w.heap[b]?
 | .blk g pre post ty fz=>w'.heap[g]?=some (.cells (pre++c++post).toArray ty fz)∧∀b∈bs,b ∉ ybs→b≠g→w'.heap[b]?=w.heap[b]?
 | .val=>c=cs'∧∀b∈bs,b ∉ ybs→w'.heap[b]?=w.heap[b]?
def Ahy(G:Mem)(w:World)(d:D)(s:Avv)(bs:List Nat)(i:Nat)(y:D)(s':Avv)(ybs:List Nat)(m:Lie):Prop:=
 ∀G' w' y' c Aqn d',G.le G'→c.length=s'.2.length→y'.isAgg=y.isAgg→Fe G' w' y' c Aqn→Aqn.Nodup→(∀b∈Aqn,b∈ybs∨b ∉ bs)→m.new w w' bs ybs s'.2 c→d.Fh i y'=some d'→
  ∃bs',Fe G' w' d' (m.cells s.2 c) bs'∧bs'.Nodup∧(∀b,b∈bs'↔(b∈bs∧b ∉ ybs)∨b∈Aqn)∧d'.isAgg=d.isAgg∧d'.head=d.head∧d'.Xw i=some y'∧
   Jx w' d' (s.1,m.cells s.2 c) i=some (s'.1,c)∧∀j,j≠i→d'.Xw j=d.Xw j∧Jx w' d' (s.1,m.cells s.2 c) j=Jx w d s j
theorem Qk{c1 c c' c2:List Value}(hl:c'.length=c.length){o n:Nat}(h:o+n≤c1.length∨c1.length+c.length≤o):((c1++c'++c2).drop o).take n=((c1++c++c2).drop o).take n:=by
 rcases h with h|h
 ·rw[Df,Df,List.drop_append_of_le_length (by omega),List.drop_append_of_le_length (by omega),List.take_append_of_le_length (by simp;omega),List.take_append_of_le_length (by simp;omega)]
 ·obtain⟨k,rfl⟩:=Nat.exists_eq_add_of_le h;rw[show c1.length+c.length+k=(c1++c').length+k by simp[hl],List.drop_length_add_append,show(c1++c').length+k=(c1++c).length+k by simp[hl],List.drop_length_add_append]
theorem Qo:∀{l:List D} {i:Nat} {y:D},l[i]?=some y→∀j,j<i→∀z,l[j]?=some z→Ae5 (l.take j)+z.size≤Ae5 (l.take i)
 | [],i,y,h,_,_,_,_=>by simp at h
 |x::l,0,y,_,j,hj,_,_=>by omega
 |x::l,i+1,y,h,0,_,z,hz=>by
  simp only[Fa,A0]at hz;subst hz;simp[Ae5]
 |x::l,i+1,y,h,j+1,hj,z,hz=>by
  simp only[Du]at h hz;have:=Qo h j (by omega) z hz
  simp only[List.take_succ_cons,Ae5];omega
def Ahb(G:Mem)(w:World)(bs ybs:List Nat)(m:Lie)(z:D)(cz:List Value):Prop:=
 ∃zbs,Fe G w z cz zbs∧zbs.Nodup∧(∀b∈zbs,b∈bs∧b ∉ ybs)∧∀g pre post ty fz,m= .blk g pre post ty fz→g ∉ zbs
theorem Ack{G:Mem}{w:World}{l:List D}{cs:List Value}{bs:List Nat}{i:Nat}{y:D}(h:H8 G w l cs bs)(hn:bs.Nodup)(hk:l[i]?=some y)(here:Option (Nat × Nat)):
 ∃(m:Lie) (s':Avv) (ybs:List Nat),s'=(hop here (Ae5 (l.take i)),(cs.drop (Ae5 (l.take i))).take y.size)∧Fe G w y s'.2 ybs∧ybs.Nodup∧(∀b∈ybs,b∈bs)∧m.fits w bs ybs (here,cs) s'∧(∀j z,j≠i→l[j]?=some z→Ahb G w bs ybs m z ((cs.drop (Ae5 (l.take j))).take z.size))∧
  ∀G' w' y' c Aqn,G.le G'→c.length=s'.2.length→y'.isAgg=y.isAgg→Fe G' w' y' c Aqn→Aqn.Nodup→(∀b∈Aqn,b∈ybs∨b ∉ bs)→m.new w w' bs ybs s'.2 c→
   ∃bs',Fe G' w' (Mg (l.set i y')) (m.cells cs c) bs'∧bs'.Nodup∧(∀b,b∈bs'↔(b∈bs∧b ∉ ybs)∨b∈Aqn)∧(Mg (l.set i y')).Xw i=some y'∧
    Jx w' (Mg (l.set i y')) (here,m.cells cs c) i=some (s'.1,c)∧∀j,j≠i→(Mg (l.set i y')).Xw j=l[j]?∧Jx w' (Mg (l.set i y')) (here,m.cells cs c) j=match l[j]? with
     |some z=>some (hop here (Ae5 (l.take j)),(cs.drop (Ae5 (l.take j))).take z.size)
     |none=>none:=by
 obtain⟨c1,c,c2,b1,b,b2,rfl,rfl,hl,hr,Akv,Av2⟩:=H8.nth h hk;have Ze:i<l.length:=(A7.1 hk).1;have A6f:((c1++c++c2).drop (Ae5 (l.take i))).take y.size=c:=by
  rw[←hl, ←Fe.length hr,K4]
 refine⟨.inl c1 c2,_,b,rfl,by rw[A6f];exact hr,?_,by simp;intro x hx;exact .inr (.inl hx),⟨by rw[A6f],by rw[hl]⟩,?_,?_⟩
 ·simp only[Hb]at hn;exact hn.1.2.1
 ·intro j z hj hz;obtain⟨bz,e1,e2⟩:=Av2 j z hj hz;have hn2:(b1++b2).Nodup:=by
   simp only[Hb,Bv]at hn ⊢;exact⟨hn.1.1,hn.2.1,fun x hx y hy=>hn.2.2 x (.inl hx) y hy⟩
  refine⟨bz,e1,e2.nodup hn2,fun x hx=>?_,fun _ _ _ _ _ e=>by cases e⟩
  have:=e2.subset hx;simp only[Hb,Bv]at hn this ⊢;rcases this with h|h
  ·exact⟨.inl (.inl h),fun hb=>hn.1.2.2 x h x hb rfl⟩
  ·exact⟨.inr h,fun hb=>hn.2.2 x (.inr hb) x h rfl⟩
 ·intro G' w' y' c' Aqn hG hcl hag hy' hnb hfr Ak3;rw[A6f]at hcl;have Hr:y'.size=y.size:=by rw[←Fe.length hy', ←Fe.length hr,hcl]
  obtain⟨g1,g2⟩:=Px hn hnb hfr;have hdj:∀x∈b1++b2,x ∉ b:=by
   intro x hx hb;simp only[Hb,Bv]at hn hx;rcases hx with hx|hx
   ·exact hn.1.2.2 x hx x hb rfl
   ·exact hn.2.2 x (.inr hb) x hx rfl
  refine⟨_,Fe.Mg.2 (Akv G' w' y' c' Aqn hG hy' fun x hx=>Ak3 x ?_ (hdj x hx)),g1,g2,?_,?_,?_⟩
  ·simp only[Bv]at hx ⊢;rcases hx with hx|hx
   ·exact .inl (.inl hx)
   ·exact .inr hx
  ·rw[U7];simp[Ze]
  ·rw[Mf];simp only[Aiq Ze,Sf hk Hr,Lie.cells,Hr];rw[←hl, ←Fe.length hr, ←hcl,K4]
  ·intro j hj;refine⟨by rw[U7,B3 (Ne.symm hj)],?_⟩
   rw[Mf];simp only[B3 (Ne.symm hj),Sf hk Hr,Lie.cells];cases hz:l[j]? with
   |none=>rfl
   |some z=>
    simp only;rw[Qk hcl];rcases Nat.lt_or_gt_of_ne hj with Bbc|hgt
    ·left;rw[hl];exact Qo hk j Bbc z hz
    ·right;rw[hl,Fe.length hr];exact Qo hz i hgt y hk
theorem Kp:∀(l:List I),Jo (l.map D.it)=some l
 | []=>rfl
 |x::l=>by simp[Jo,Kp l]
theorem Sz(l:List I):Mg (l.map D.it)= .it (.agg l):=by
 unfold Mg;rw[Kp]
theorem Lr{sz:Nat}:∀{l:List D},(∀x∈l,x.size=sz)→Ae5 l=l.length*sz
 | [],_=>by simp[Ae5]
 |x::l,h=>by
  have h1:=h x (B2 ..);have h2:=Lr (l:=l) fun y hy=>h y (B4 _ hy)
  simp only[Ae5,h1,h2,Ho,Aj7,Nat.one_mul];omega
theorem Sg{sz:Nat}{l:List D}(h:∀x∈l,x.size=sz){i:Nat}(hi:i≤l.length):Ae5 (l.take i)=i*sz:=by
 rw[Lr fun x hx=>h x (P2 hx),Hg,U6 hi]
theorem M0{d d':D}{i:Nat}{y:D}(h:d.Fh i y=some d'):d'.isAgg=d.isAgg∧d'.head=d.head:=by
 cases d with
 |it x=>
  cases x with
  |agg l=>
   simp only[D.Fh,A0]at h;subst h;refine⟨Sw _,?_⟩;unfold Mg;split<;>rfl
  |arr sz l=>
   cases y<;>simp only[D.Fh,A0,reduceCtorEq]at h;subst h;exact⟨rfl,rfl⟩
  |_=>simp[D.Fh]at h
 |st l=>
  simp only[D.Fh,A0]at h;subst h;refine⟨Sw _,?_⟩;unfold Mg;split<;>rfl
 |vec e sz l=>simp only[D.Fh,A0]at h;subst h;exact⟨rfl,rfl⟩
 |ptr d=>simp only[D.Fh,A0]at h;subst h;exact⟨rfl,rfl⟩
 |map ks vs=>simp only[D.Fh,A0]at h;subst h;exact⟨rfl,rfl⟩
theorem Aiz.nth{G:Mem}{w:World}:∀{l:List D} {cs:List Value} {bs:List Nat} {i:Nat} {y:D},Aiz G w l cs bs→l[i]?=some y→
 ∃v b1 b b2,cs[i]?=some v∧bs=b1++b++b2∧valOf y.isAgg v=true∧Fe G w y v.cells.toList b∧
  (∀G' w' y' b',G.le G'→valOf y'.isAgg v=true→Fe G' w' y' v.cells.toList b'→(∀x∈b1++b2,w'.heap[x]?=w.heap[x]?)→Aiz G' w' (l.set i y') cs (b1++b'++b2))∧
  ∀j z,j≠i→l[j]?=some z→∃u bz,cs[j]?=some u∧Fe G w z u.cells.toList bz∧bz.Sublist (b1++b2)
 | [],cs,bs,i,y,_,h=>by simp at h
 |d::l,cs,bs,0,y,h,hy=>by
  simp only[Aiz]at h;obtain⟨v,c',b,b',rfl,rfl,hv,h1,h2⟩:=h;simp only[Fa,A0]at hy;subst hy;refine⟨v,[],b,b',rfl,by simp,hv,h1,?_,?_⟩
  ·intro G' w' y' b2 hG hv' hy' hk;simp only[Akm,H4,Aiz];exact⟨v,c',b2,b',rfl,rfl,hv',hy',h2.tr hG fun x hx=>hk x (by simpa using hx)⟩
  ·intro j z hj hz;cases j with
   |zero=>exact absurd rfl hj
   |succ j=>
    simp only[Du]at hz;obtain⟨u,b1,bb,b2,hu,rfl,_,hr,_⟩:=Aiz.nth h2 hz;exact⟨u,bb,by simpa using hu,hr,by simp⟩
 |d::l,cs,bs,i+1,y,h,hy=>by
  simp only[Aiz]at h;obtain⟨v,c',b,b',rfl,rfl,hv,h1,h2⟩:=h;simp only[Du]at hy;obtain⟨u,b1,bb,b2,hu,rfl,hvu,hr,Akv,Av2⟩:=Aiz.nth h2 hy;refine⟨u,b++b1,bb,b2,by simpa using hu,by simp,hvu,hr,?_,?_⟩
  ·intro G' w' y' b3 hG hv' hy' hk;simp only[Ais,Aiz];refine⟨v,c',b,b1++b3++b2,rfl,by simp,hv,h1.tr hG fun x hx=>hk x (by simp[hx]),Akv G' w' y' b3 hG hv' hy' fun x hx=>hk x ?_⟩
   simp only[Bv]at hx ⊢;rcases hx with hx|hx
   ·exact .inl (.inr hx)
   ·exact .inr hx
  ·intro j z hj hz;cases j with
   |zero=>
    simp only[Fa,A0]at hz;subst hz;exact⟨v,b,rfl,h1,by simp⟩
   |succ j=>
    simp only[Du]at hz;obtain⟨u',bz,e0,e1,e2⟩:=Av2 j z (by omega) hz
    exact⟨u',bz,by simpa using e0,e1,by rw[Df];exact e2.trans (List.sublist_append_right _ _)⟩
theorem Yv{G:Mem}{w:World}{d:D}{cs:List Value}{bs:List Nat}{i:Nat}{y:D}(h:Fe G w d cs bs)(hn:bs.Nodup)(hk:d.Xw i=some y)(here:Option (Nat × Nat)):
 ∃(m:Lie) (s':Avv) (ybs:List Nat),Jx w d (here,cs) i=some s'∧Fe G w y s'.2 ybs∧ybs.Nodup∧(∀b∈ybs,b∈bs)∧m.fits w bs ybs (here,cs) s'∧Ahy G w d (here,cs) bs i y s' ybs m∧(d.head=true→∀a b,m≠ .inl a b)∧
  ∀j z,j≠i→d.Xw j=some z→∃sz,Jx w d (here,cs) j=some sz∧Ahb G w bs ybs m z sz.2:=by
 cases d with
 |it x=>
  cases x with
  |agg l=>
   have h':H8 G w (l.map D.it) cs bs:=by
    simp only[Fe,D8]at h;exact H8.its.2 h
   have hk':(l.map D.it)[i]?=some y:=by
    simp only[D.Xw]at hk;rw[Ev];cases hl:l[i]?<;>simp_all
   obtain⟨m,s',ybs,rfl,h2,h3,h4,h5,hap,h6⟩:=Ack h' hn hk' here;refine⟨m,_,ybs,?_,h2,h3,h4,h5,?_,fun hh=>(by cases hh),?_⟩
   rotate_left 2
   ·intro j z hj hz;have hz':(l.map D.it)[j]?=some z:=by
     simp only[D.Xw]at hz;rw[Ev];cases hl:l[j]?<;>simp_all
    exact⟨(hop here (Ae5 ((l.map D.it).take j)),(cs.drop (Ae5 ((l.map D.it).take j))).take z.size),by rw[←Sz,Mf,hz'],hap j z hj hz'⟩
   ·rw[←Sz,Mf,hk']
   ·intro G' w' y' c Aqn d' hG hc hag hy' hnb hfr Ak3 hd;obtain⟨g1,g2⟩:=M0 hd;simp only[D.Fh,A0]at hd;subst hd;obtain⟨bs',q1,q2,q3,q4,q5,q6⟩:=h6 G' w' y' c Aqn hG hc hag hy' hnb hfr Ak3;refine⟨bs',q1,q2,q3,g1,g2,q4,q5,fun j hj=>?_⟩
    obtain⟨r1,r2⟩:=q6 j hj;refine⟨by rw[r1, ←Sz,U7],?_⟩
    rw[r2]
    conv=>rhs;rw[←Sz,Mf]
  |arr sz l=>
   simp only[Fe,D8]at h;obtain⟨⟨h1,h2⟩,rfl⟩:=h;simp only[D.Xw]at hk;cases hl:l[i]? with
   |none=>simp[hl]at hk
   |some x=>
    simp only[hl,A0]at hk;subst hk;obtain⟨c1,c,c2,rfl,e1,hr,Akv⟩:=F9.nth i h1 hl;have hi:i<l.length:=(A7.1 hl).1;have hx:x.size=sz:=h2 x (Cb hl);have ho:c1.length=i*sz:=by
     rw[e1,J3 (sz:=sz) fun z hz=>h2 z (P2 hz),Hg,U6 (Nat.le_of_lt hi)]
    have hcl:c.length=sz:=by rw[D8.length x c hr,hx]
    have A6f:((c1++c++c2).drop (i*sz)).take sz=c:=by
     rw[←ho, ←hcl,K4]
    refine⟨.inl c1 c2,(hop here (i*sz),c),[],by simp only[Jx,hl,A6f],by simp only[Fe,and_true];exact hr,Ach,by simp,⟨rfl,by rw[ho]⟩,?_,fun hh=>(by cases hh),?_⟩
    rotate_left 1
    ·intro j z hj hz;simp only[D.Xw]at hz;cases hlj:l[j]? with
     |none=>simp[hlj]at hz
     |some u=>
      simp only[hlj,A0]at hz;subst hz;obtain⟨d1,dd,d2,e2,e3,hr2,_⟩:=F9.nth j h1 hlj;have hjl:j<l.length:=(A7.1 hlj).1;have hu:u.size=sz:=h2 u (Cb hlj);have hd1:d1.length=j*sz:=by
       rw[e3,J3 (sz:=sz) fun z hz=>h2 z (P2 hz),Hg,U6 (Nat.le_of_lt hjl)]
      refine⟨_,by simp only[Jx,hlj];rfl,[],?_,Ach,by simp,fun _ _ _ _ _ e=>by cases e⟩
      simp only[Fe,and_true];rw[e2, ←hd1, ←hu, ←D8.length u dd hr2,K4];exact hr2
    intro G' w' y' c' Aqn d' hG hc hag hy' hnb hfr Ak3 hd;obtain⟨g1,g2⟩:=M0 hd;cases y' with
    |it u=>
     simp only[D.Fh,A0]at hd;subst hd;simp only[Fe]at hy';obtain⟨hu,rfl⟩:=hy';have hul:u.size=sz:=by rw[←D8.length u c' hu,hc,hcl]
     refine⟨[],?_,Ach,by simp,g1,g2,by simp[D.Xw,hi],?_,?_⟩
     ·simp only[Fe,D8,Lie.cells,and_true];refine⟨?_,?_⟩
      ·obtain⟨d1,dd,d2,e2,e3,hr2,Bqf⟩:=F9.nth i (F9.mono hG l _ h1) hl;have hd1:d1.length=c1.length:=by rw[e3,e1]
       obtain⟨rfl,e4⟩:=List.append_inj (by simpa using e2) hd1.symm
       have:dd.length=c.length:=by rw[D8.length x dd hr2,D8.length x c hr]
       obtain⟨rfl,rfl⟩:=List.append_inj e4 this.symm;exact Bqf u c' hu
      ·intro z hz;rcases Ain hz with hz|rfl
       ·exact h2 z hz
       ·exact hul
     ·simp only[Jx,Aiq hi,Lie.cells];rw[←ho, ←hcl, ←hc,K4]
     ·intro j hj;refine⟨by simp only[D.Xw,B3 (Ne.symm hj)],?_⟩
      simp only[Jx,B3 (Ne.symm hj),Lie.cells];cases hz:l[j]? with
      |none=>rfl
      |some z=>
       simp only;rw[Qk hc];rw[hcl,ho];rcases Nat.lt_or_gt_of_ne hj with Ze|hgt
       ·left
        calc j*sz+sz=(j+1)*sz:=by rw[Aj7,Nat.one_mul]
         _≤i*sz:=Jh sz Ze
       ·right
        calc i*sz+sz=(i+1)*sz:=by rw[Aj7,Nat.one_mul]
         _≤j*sz:=Jh sz hgt
    |_=>simp[D.Fh]at hd
  |_=>simp[D.Xw]at hk
 |st l=>
  simp only[Fe]at h;simp only[D.Xw]at hk;obtain⟨m,s',ybs,rfl,h2,h3,h4,h5,hap,h6⟩:=Ack h hn hk here;refine⟨m,_,ybs,by simp only[Jx,hk],h2,h3,h4,h5,?_,fun hh=>(by cases hh),fun j z hj hz=>⟨_,by simp only[D.Xw]at hz;simp only[Jx,hz];rfl,hap j z hj hz⟩⟩
  intro G' w' y' c Aqn d' hG hc hag hy' hnb hfr Ak3 hd;obtain⟨g1,g2⟩:=M0 hd;simp only[D.Fh,A0]at hd;subst hd;obtain⟨bs',q1,q2,q3,q4,q5,q6⟩:=h6 G' w' y' c Aqn hG hc hag hy' hnb hfr Ak3;refine⟨bs',q1,q2,q3,g1,g2,q4,q5,fun j hj=>?_⟩
  obtain⟨r1,r2⟩:=q6 j hj;refine⟨r1,?_⟩;rw[r2];simp only[Jx]
 |vec e sz l=>
  simp only[Fe]at h;simp only[D.Xw]at hk;have hi:i<l.length:=(A7.1 hk).1;rcases h with⟨_,rfl,_⟩|⟨g,off,cap,cur,xs,bs0,rfl,⟨ty,fz,hg,hfz,hty⟩,A24,hlc,hcm,hcs,hxs,hds,Hr,rfl⟩
  ·simp at hi
  ·obtain⟨c1,c,c2,b1,b,b2,e1,rfl,hl,hr,Akv,Av2⟩:=H8.nth hds hk;rw[Sg Hr (Nat.le_of_lt hi)]at hl;have hcl:c.length=sz:=by rw[Fe.length hr,Hr y (Cb hk)]
   obtain⟨hd0,hhd,hhl⟩:∃hd0,hd0=cur.toList.take off∧hd0.length=off:=⟨_,rfl,by simp;omega⟩
   have Au0:cur.toList=hd0++c1++c++(c2++(cur.toList.drop off).drop (l.length*sz)):=by
    have h1:cur.toList.drop off=c1++c++(c2++(cur.toList.drop off).drop (l.length*sz)):=by
     conv=>lhs;rw[←Fj (l.length*sz) (cur.toList.drop off),hxs,e1]
     simp only[Df]
    conv=>lhs;rw[←Fj off cur.toList, ←hhd,h1]
    simp only[Df]
   generalize (cur.toList.drop off).drop (l.length*sz)=tl at Au0;have hpl:(hd0++c1).length=off+i*sz:=by rw[Hq,hhl,hl]
   have A6f:(cur.toList.drop (off+i*sz)).take sz=c:=by
    rw[Au0, ←hpl, ←hcl,K4]
   have hgn:g ∉ b1++b++b2:=(Hw.1 hn).1;have hn':(b1++b++b2).Nodup:=(Hw.1 hn).2;refine⟨.blk g (hd0++c1) (c2++tl) ty fz,(some (g,off+i*sz),c),b,by simp only[Jx,hk,hg,A6f],hr,?_,?_,⟨by simp,fun hb=>hgn (by simp[hb]),⟨cur,hg,hfz,Au0⟩,by rw[hpl]⟩,?_,fun _ _ _ e=>(by cases e),?_⟩
   rotate_left 3
   ·intro j z hj hz;simp only[D.Xw]at hz;obtain⟨bz,q1,q2⟩:=Av2 j z hj hz;have hjl:j<l.length:=(A7.1 hz).1;rw[Sg Hr (Nat.le_of_lt hjl),Hr z (Cb hz)]at q1;have hn2:(b1++b2).Nodup:=by
     simp only[Hb,Bv]at hn' ⊢;exact⟨hn'.1.1,hn'.2.1,fun x hx y hy=>hn'.2.2 x (.inl hx) y hy⟩
    have hcz:(cur.toList.drop (off+j*sz)).take sz=(xs.drop (j*sz)).take sz:=by
     rw[←hxs,List.drop_take,List.take_take,List.drop_drop,U6]
     calc sz=(j+1)*sz - j*sz:=by rw[Aj7,Nat.one_mul];omega
      _≤l.length*sz - j*sz:=Nat.sub_le_sub_right (Jh sz hjl) _
    refine⟨_,by simp only[Jx,hz,hg];rfl,bz,by rw[hcz];exact q1,q2.nodup hn2,fun x hx=>?_,fun g' _ _ _ _ e hx=>?_⟩
    ·have:=q2.subset hx;simp only[Hb,Bv]at hn' this;simp only[Bg,Bv];rcases this with h|h
     ·exact⟨.inr (.inl (.inl h)),fun hb=>hn'.1.2.2 x h x hb rfl⟩
     ·exact⟨.inr (.inr h),fun hb=>hn'.2.2 x (.inr hb) x h rfl⟩
    ·cases e;have:=q2.subset hx;simp only[Bv]at this hgn;rcases this with h|h
     ·exact hgn (.inl (.inl h))
     ·exact hgn (.inr h)
   ·simp only[Hb]at hn';exact hn'.1.2.1
   ·intro x hx;simp[hx]
   ·intro G' w' y' c' Aqn d' hG hc hag hy' hnb hfr Ak3 hd;obtain⟨g1,g2⟩:=M0 hd;simp only[D.Fh,A0]at hd;subst hd;have hc:c'.length=c.length:=hc;obtain⟨hn1,hn2⟩:=Ak3;have hys:y'.size=sz:=by rw[←Fe.length hy',hc,hcl]
    obtain⟨p1,p2⟩:=Px hn' hnb fun x hx=>by
     rcases hfr x hx with h|h
     ·exact .inl h
     ·exact .inr fun hh=>h (B4 _ hh)
    have hgy:g ∉ Aqn:=by
     intro hx;rcases hfr g hx with h|h
     ·exact hgn (by simp[h])
     ·exact h (by simp)
    have hdj:∀x∈b1++b2,x ∉ b∧x≠g:=by
     intro x hx;simp only[Hb,Bv]at hn' hx hgn;constructor
     ·intro hb;rcases hx with hx|hx
      ·exact hn'.1.2.2 x hx x hb rfl
      ·exact hn'.2.2 x (.inr hb) x hx rfl
     ·rintro rfl;rcases hx with hx|hx
      ·exact hgn (.inl (.inl hx))
      ·exact hgn (.inr hx)
    have hnd:(g::(b1++Aqn++b2)).Nodup:=by
     refine Hw.2 ⟨fun hx=>?_,p1⟩
     rcases(p2 g).1 hx with⟨h,_⟩|h
     ·exact hgn h
     ·exact hgy h
    refine⟨g::(b1++Aqn++b2),?_,hnd,?_,g1,g2,by simp[D.Xw,hi],?_,?_⟩
    ·simp only[Fe,Lie.cells];have Bt6:(hd0++c1++c'++(c2++tl)).toArray.size=cur.size:=by
      have:=congrArg List.length Au0;simp[hc]at this ⊢;omega
     refine .inr ⟨g,off,cap,(hd0++c1++c'++(c2++tl)).toArray,c1++c'++c2,b1++Aqn++b2,by simp,⟨ty,fz,hn1,?_,hty⟩,fun h=>⟨(A24 h).1,by rw[←(A24 h).2,Bt6]⟩,by simpa using hlc,hcm,?_,?_,?_,?_,rfl⟩
     ·rcases hfz with h|h
      ·exact .inl h
      ·right;have:(hd0++c1++c'++(c2++tl)).toArray.size=cur.size:=by
        have:=congrArg List.length Au0;simp[hc]at this ⊢;omega
       rw[this];exact h
     ·have:=congrArg List.length Au0;simp[hc]at this ⊢;omega
     ·have hlen:(c1++c'++c2).length=(l.set i y').length*sz:=by
       have h1:=congrArg List.length e1;rw[H8.length hds,Lr Hr]at h1;simp[hc]at h1 ⊢;omega
      rw[←hlen];show((hd0++c1++c'++(c2++tl)).drop off).take _=_;rw[show hd0++c1++c'++(c2++tl)=hd0++(c1++c'++(c2++tl))by simp only[Df], ←hhl,Aog]
      rw[←Df,Amq]
     ·refine Akv G' w' y' c' Aqn hG hy' fun x hx=>hn2 x ?_ (hdj x hx).1 (hdj x hx).2
      simp only[Bv,Bg]at hx ⊢;rcases hx with hx|hx
      ·exact .inr (.inl (.inl hx))
      ·exact .inr (.inr hx)
     ·intro z hz;rcases Ain hz with hz|rfl
      ·exact Hr z hz
      ·exact hys
    ·intro x;simp only[Bg];rw[show x∈b1++Aqn++b2↔_ from p2 x];constructor
     ·rintro(rfl|⟨h1,h2⟩|h1)
      ·exact .inl ⟨.inl rfl,fun hb=>hgn (by simp[hb])⟩
      ·exact .inl ⟨.inr h1,h2⟩
      ·exact .inr h1
     ·rintro(⟨rfl|h1,h2⟩|h1)
      ·exact .inl rfl
      ·exact .inr (.inl ⟨h1,h2⟩)
      ·exact .inr (.inr h1)
    ·simp only[Jx,Aiq hi,Lie.cells,hn1];rw[←hpl, ←hcl, ←hc,K4]
    ·intro j hj;refine⟨by simp only[D.Xw,B3 (Ne.symm hj)],?_⟩
     simp only[Jx,B3 (Ne.symm hj),Lie.cells];cases hz:l[j]? with
     |none=>rfl
     |some z=>
      simp only;rw[hn1,hg];simp only;rw[Au0,Qk hc];rw[hcl,hpl];rcases Nat.lt_or_gt_of_ne hj with Ze|hgt
      ·left;have:j*sz+sz≤i*sz:=by
        calc j*sz+sz=(j+1)*sz:=by rw[Aj7,Nat.one_mul]
         _≤i*sz:=Jh sz Ze
       omega
      ·right;have:i*sz+sz≤j*sz:=by
        calc i*sz+sz=(i+1)*sz:=by rw[Aj7,Nat.one_mul]
         _≤j*sz:=Jh sz hgt
       omega
 |ptr d=>
  simp only[Fe]at h;obtain rfl:i=0:=by cases i with|zero=>rfl|succ i=>simp[D.Xw]at hk
  simp only[D.Xw,A0]at hk;subst hk;obtain⟨b,cells,ty,bs0,rfl,hb,hr,rfl⟩:=h;have hbn:b ∉ bs0:=(Hw.1 hn).1;refine⟨.blk b [] [] ty (0,0),(some (b,0),cells.toList),bs0,by simp only[Jx,hb],hr,(Hw.1 hn).2,fun x hx=>by simp[hx],⟨by simp,hbn,⟨cells,hb,.inl rfl,by simp⟩,rfl⟩,?_,fun _ _ _ e=>(by cases e),fun j z hj hz=>by cases j with|zero=>exact absurd rfl hj|succ j=>cases hz⟩
  intro G' w' y' c' Aqn d' hG hc hag hy' hnb hfr Ak3 hd;obtain⟨g1,g2⟩:=M0 hd;simp only[D.Fh,A0]at hd;subst hd;obtain⟨hn1,hn2⟩:=Ak3;simp only[H4,R2]at hn1;have hby:b ∉ Aqn:=by
   intro hx;rcases hfr b hx with h|h
   ·exact hbn h
   ·exact h (by simp)
  refine⟨b::Aqn,?_,Hw.2 ⟨hby,hnb⟩,?_,g1,g2,rfl,by simp only[Jx,Lie.cells,hn1],fun j hj=>?_⟩
  ·simp only[Fe,Lie.cells];exact⟨b,_,ty,Aqn,rfl,hn1,hy',rfl⟩
  ·intro x;simp only[Bg];constructor
   ·rintro(rfl|h1)
    ·exact .inl ⟨.inl rfl,hbn⟩
    ·exact .inr h1
   ·rintro(⟨rfl|h1,h2⟩|h1)
    ·exact .inl rfl
    ·exact absurd h1 h2
    ·exact .inr h1
  ·cases j with
   |zero=>exact absurd rfl hj
   |succ j=>exact⟨rfl,rfl⟩
 |map ks vs=>
  simp only[Fe]at h;simp only[D.Xw]at hk;obtain⟨b,es,clock,kc,vc,bs0,rfl,hb,hkc,hvc,hks,hvs,hbo,hcl,rfl⟩:=h;obtain⟨v,b1,bb,b2,hv,rfl,Bs7,hr,Akv,Av2⟩:=Aiz.nth hvs hk;have hi:i<vs.length:=(A7.1 hk).1;obtain⟨en,hen,rfl⟩:∃en,es.toList[i]?=some en∧en.val=v:=by
   rw[←hvc,Ev]at hv;cases he:es.toList[i]?<;>simp_all
  have hgn:b ∉ b1++bb++b2:=(Hw.1 hn).1;have hn':(b1++bb++b2).Nodup:=(Hw.1 hn).2;refine⟨.val,(none,en.val.cells.toList),bb,by simp only[Jx,hb,hen],hr,?_,?_,rfl,?_,fun _ _ _ e=>(by cases e),?_⟩
  rotate_left 3
  ·intro j z hj hz;simp only[D.Xw]at hz;obtain⟨u,bz,q0,q1,q2⟩:=Av2 j z hj hz;obtain⟨ej,hej,rfl⟩:∃en,es.toList[j]?=some en∧en.val=u:=by
    rw[←hvc,Ev]at q0;cases he:es.toList[j]?<;>simp_all
   have hn2:(b1++b2).Nodup:=by
    simp only[Hb,Bv]at hn' ⊢;exact⟨hn'.1.1,hn'.2.1,fun x hx y hy=>hn'.2.2 x (.inl hx) y hy⟩
   refine⟨_,by simp only[Jx,hb,hej];rfl,bz,q1,q2.nodup hn2,fun x hx=>?_,fun _ _ _ _ _ e=>by cases e⟩
   have:=q2.subset hx;simp only[Hb,Bv]at hn' this;simp only[Bg,Bv];rcases this with h|h
   ·exact⟨.inr (.inl (.inl h)),fun hb=>hn'.1.2.2 x h x hb rfl⟩
   ·exact⟨.inr (.inr h),fun hb=>hn'.2.2 x (.inr hb) x h rfl⟩
  ·simp only[Hb]at hn';exact hn'.1.2.1
  ·intro x hx;simp[hx]
  ·intro G' w' y' c' Aqn d' hG hc hag hy' hnb hfr Ak3 hd;obtain⟨g1,g2⟩:=M0 hd;simp only[D.Fh,A0]at hd;subst hd;obtain⟨rfl,hn2⟩:=Ak3;obtain⟨p1,p2⟩:=Px hn' hnb fun x hx=>by
    rcases hfr x hx with h|h
    ·exact .inl h
    ·exact .inr fun hh=>h (B4 _ hh)
   have hgy:b ∉ Aqn:=by
    intro hx;rcases hfr b hx with h|h
    ·exact hgn (by simp[h])
    ·exact h (by simp)
   have hdj:∀x∈b1++b2,x ∉ bb:=by
    intro x hx hb;simp only[Hb,Bv]at hn' hx;rcases hx with hx|hx
    ·exact hn'.1.2.2 x hx x hb rfl
    ·exact hn'.2.2 x (.inr hb) x hx rfl
   have Ba3:w'.heap[b]?=w.heap[b]?:=hn2 b (by simp) fun hx=>hgn (by simp[hx])
   refine⟨b::(b1++Aqn++b2),?_,Hw.2 ⟨fun hx=>?_,p1⟩,?_,g1,g2,by simp[D.Xw,hi],by simp only[Jx,Lie.cells,Ba3,hb,hen],fun j hj=>?_⟩
   ·simp only[Fe,Lie.cells];refine⟨b,es,clock,kc,vc,_,rfl,by rw[Ba3];exact hb,hkc,hvc,hks.mono hG,Akv G' w' y' Aqn hG (by rw[hag];exact Bs7) hy' fun x hx=>hn2 x ?_ (hdj x hx),hbo,hcl,rfl⟩
    simp only[Bv,Bg]at hx ⊢;rcases hx with hx|hx
    ·exact .inr (.inl (.inl hx))
    ·exact .inr (.inr hx)
   ·rcases(p2 b).1 hx with⟨h,_⟩|h
    ·exact hgn h
    ·exact hgy h
   ·intro x;simp only[Bg];rw[show x∈b1++Aqn++b2↔_ from p2 x];constructor
    ·rintro(rfl|⟨h1,h2⟩|h1)
     ·exact .inl ⟨.inl rfl,fun hb=>hgn (by simp[hb])⟩
     ·exact .inl ⟨.inr h1,h2⟩
     ·exact .inr h1
    ·rintro(⟨rfl|h1,h2⟩|h1)
     ·exact .inl rfl
     ·exact .inr (.inl ⟨h1,h2⟩)
     ·exact .inr (.inr h1)
   ·exact⟨by simp only[D.Xw,B3 (Ne.symm hj)],by simp only[Jx,Lie.cells,Ba3]⟩
def Ks:List Nat→List Nat→Bool
 |_::a::_,_::b::_=> !Nat.beq a b
 |_,_=>false
def A1p:List Nat→List Nat→Bool
 | [],[]=>false
 | [],_::_=>true
 |_::_,[]=>false
 |i::p,j::q=>decide (i=j)&&A1p p q
def Axz:List Nat→List Nat→Bool
 | [],_=>true
 |_::_,[]=>false
 |i::p,j::q=>decide (i=j)&&Axz p q
theorem Yd:∀{p q:List Nat},q.length≤p.length→A1p p q=false
 | [],[],_=>rfl
 | [],_::_,h=>by simp at h
 |_::_,[],_=>rfl
 |i::p,j::q,h=>by simp only[A1p,Yd (p:=p) (q:=q) (by simpa using h),Bool.and_false]
theorem Yx:∀{p q:List Nat},q.length<p.length→Axz p q=false
 | [],_,h=>by simp at h
 |_::_,[],_=>rfl
 |i::p,j::q,h=>by simp only[Axz,Yx (p:=p) (q:=q) (by simpa using h),Bool.and_false]
theorem Ac4:∀{p q:List Nat},Ks p q=true→Axz p q=false
 | [],_,h=>by simp[Ks]at h
 | [_],_,h=>by simp[Ks]at h
 |_::_::_,[],h=>by simp[Ks]at h
 |_::_::_,[_],h=>by simp[Ks]at h
 |_::a::_,_::b::_,h=>by
  have:¬a=b:=by rintro rfl;simp[Ks]at h
  simp[Axz,this]
theorem Acv:∀{p q:List Nat},Ks p q=true→A1p p q=false
 | [],_,h=>by simp[Ks]at h
 | [_],_,h=>by simp[Ks]at h
 |_::_::_,[],h=>by simp[Ks]at h
 |_::_::_,[_],h=>by simp[Ks]at h
 |_::a::_,_::b::_,h=>by
  have:¬a=b:=by rintro rfl;simp[Ks]at h
  simp[A1p,this]
theorem Aba:∀{p q:List Nat},Axz p q=false→A1p p q=false
 | [],_,h=>by simp[Axz]at h
 |_::_,[],_=>rfl
 |i::p,j::q,h=>by
  simp only[Axz,Bool.and_eq_false_iff]at h;simp only[A1p,Bool.and_eq_false_iff];exact h.imp id Aba
def Xz(p:List Nat)(u:D)(q:List Nat):Prop:=A1p p q=false∨u.leaf=true
def Focus(G:Mem)(w:World)(d:D)(s:Avv)(bs:List Nat)(p:List Nat)(u:D)(s':Avv)(ubs:List Nat)(m:Lie):Prop:=
 ∀G' w' u' c Asv d',G.le G'→c.length=s'.2.length→u'.isAgg=u.isAgg→Fe G' w' u' c Asv→Asv.Nodup→(∀b∈Asv,b∈ubs∨b ∉ bs)→m.new w w' bs ubs s'.2 c→d.put p u'=some d'→
  ∃bs',Fe G' w' d' (m.cells s.2 c) bs'∧bs'.Nodup∧(∀b,b∈bs'↔(b∈bs∧b ∉ ubs)∨b∈Asv)∧d'.isAgg=(if p=[]then u' else d).isAgg∧
   ∀q,Xz p u q→∀v,d.at q=some v→∀t,spot w q d s=some t→∃v' t',d'.at q=some v'∧spot w' q d' (s.1,m.cells s.2 c)=some t'∧t'.1=t.1∧
    (v.head=true→(Axz p q=false∨u.leaf=true)→v'.head=true∧t'.2=t.2)
theorem Ag4{d:D}(h:d.leaf=true)(i:Nat):d.Xw i=none:=by
 cases d with
 |it x=>cases x<;>first|rfl|(simp[D.leaf,I.isAgg]at h)
 |_=>cases h
theorem S6{G:Mem}{w w':World}:∀{q:List Nat} {d:D} {s:Avv} {bs:List Nat},Fe G w d s.2 bs→bs.Nodup→(∀b∈bs,w'.heap[b]?=w.heap[b]?)→∀v,d.at q=some v→spot w' q d s=spot w q d s
 | [],d,s,bs,_,_,_,_,_=>rfl
 |i::q,d,s,bs,h,hn,hk,v,hv=>by
  simp only[D.at]at hv;cases hy:d.Xw i with
  |none=>simp[hy]at hv
  |some y=>
   simp only[hy]at hv;obtain⟨here,cs⟩:=s;obtain⟨m,s',ybs,h1,h2,h3,h4,h5,_⟩:=Yv h hn hy here;have e:Jx w' d (here,cs) i=Jx w d (here,cs) i:=by
    cases d with
    |it x=>cases x<;>rfl
    |st l=>rfl
    |vec e sz l=>
     simp only[Fe]at h;rcases h with⟨rfl,rfl,_⟩|⟨g,off,cap,cur,xs,bs0,rfl,_,_,_,_,_,_,_,_,rfl⟩
     ·simp[D.Xw]at hy
     ·simp only[D.Xw]at hy;simp only[Jx,hy];rw[hk g (by simp)]
    |ptr d=>
     simp only[Fe]at h;obtain⟨b,cells,ty,bs0,rfl,_,_,rfl⟩:=h;cases i with
     |zero=>
      simp only[Jx];rw[hk b (by simp)]
     |succ i=>rfl
    |map ks vs=>
     simp only[Fe]at h;obtain⟨b,es,clock,kc,vc,bs0,rfl,_,_,_,_,_,_,_,rfl⟩:=h;simp only[Jx];rw[hk b (by simp)]
   simp only[spot,hy,e,h1];exact S6 h2 h3 (fun b hb=>hk b (h4 b hb)) v hv
theorem focus{G:Mem}{w:World}{u:D}:∀{p:List Nat} {d:D} {cs:List Value} {bs:List Nat} {here:Option (Nat × Nat)},Fe G w d cs bs→bs.Nodup→d.at p=some u→
 ∃(m:Lie) (s':Avv) (ubs:List Nat),spot w p d (here,cs)=some s'∧Fe G w u s'.2 ubs∧ubs.Nodup∧(∀b∈ubs,b∈bs)∧m.fits w bs ubs (here,cs) s'∧Focus G w d (here,cs) bs p u s' ubs m
 | [],d,cs,bs,here,h,hn,hu=>by
   simp only[D.at,A0]at hu;subst hu;refine⟨.inl [] [],(here,cs),bs,rfl,h,hn,fun _ h=>h,⟨by simp,?_⟩,?_⟩
   ·cases here<;>simp[hop]
   ·intro G' w' u' c Asv d' hG hc hag hu' hnb hfr Ak3 hd;simp only[D.put,A0]at hd;subst hd;refine⟨Asv,by simpa[Lie.cells]using hu',hnb,fun b=>⟨fun h=>.inr h,fun h=>?_⟩,rfl,?_⟩
    ·rcases h with⟨h1,h2⟩|h
     ·exact absurd h1 h2
     ·exact h
    ·intro q hq v hv t ht;rcases hq with hq|hq
     ·obtain rfl:q=[]:=by cases q with
       |nil=>rfl
       |cons _ _=>cases hq
      simp only[spot,A0]at ht;simp only[D.at,A0]at hv;subst ht hv;refine⟨_,_,rfl,rfl,rfl,fun hv h=>?_⟩
      rcases h with h|h
      ·simp[Axz]at h
      ·cases d<;>simp_all [D.leaf,D.head]
     ·cases q with
      |nil=>
       simp only[spot,A0]at ht;simp only[D.at,A0]at hv;subst ht hv;refine⟨_,_,rfl,rfl,rfl,fun hv h=>?_⟩
       cases d<;>simp_all [D.leaf,D.head]
      |cons i q=>
       simp only[D.at,Ag4 hq i]at hv;cases hv
 |i::p,d,cs,bs,here,h,hn,hu=>by
  simp only[D.at]at hu;cases hy:d.Xw i with
  |none=>simp[hy]at hu
  |some y=>
   simp only[hy]at hu;obtain⟨m1,⟨Bka,cs1⟩,ybs,a1,a2,a3,a4,a5,a6,a7,a8⟩:=Yv h hn hy here;obtain⟨m2,s2,ubs,b1,b2,b3,b4,b5,b6⟩:=focus (p:=p) (here:=Bka) a2 a3 hu
   have Bbp:∀b∈ubs,b∈bs:=fun b hb=>a4 b (b4 b hb)
   have Aug:spot w (i::p) d (here,cs)=some s2:=by simp only[spot,hy,a1];exact b1
   obtain⟨m,hm1,hm2⟩:∃m:Lie,m.fits w bs ubs (here,cs) s2∧∀w' c,c.length=s2.2.length→m.new w w' bs ubs s2.2 c→
    m2.new w w' ybs ubs s2.2 c∧m1.new w w' bs ybs cs1 (m2.cells cs1 c)∧m1.cells cs (m2.cells cs1 c)=m.cells cs c∧(m2.cells cs1 c).length=cs1.length∧(∀a b,m= .inl a b→∃a' b',m1= .inl a' b')∧
     (∀b∈bs,b ∉ ybs→(∀g pre post ty fz,m1= .blk g pre post ty fz→b≠g)→w'.heap[b]?=w.heap[b]?):=by
    cases m2 with
    |inl pre post=>
     obtain⟨e1,e2⟩:=b5;simp only at e1 e2;cases m1 with
     |inl Ayy Awd=>
      obtain⟨f1,f2⟩:=a5;simp only at f1 f2;refine⟨.inl (Ayy++pre) (post++Awd),⟨by simp[f1,e1],?_⟩,?_⟩
      ·rw[e2,f2];cases here<;>simp[hop,Nat.add_assoc]
      ·intro w' c hc Ak3;refine⟨fun b hb hu=>Ak3 b (a4 b hb) hu,fun b hb hu=>Ak3 b hb fun hh=>hu (b4 b hh),by simp[Lie.cells],?_,fun _ _ _=>⟨_,_,rfl⟩,fun b hb hu _=>Ak3 b hb fun hh=>hu (b4 b hh)⟩
       rw[e1];simp[Lie.cells,hc]
     |blk g Ayy Awd ty fz=>
      obtain⟨f1,f2,⟨row,f3,f4,f5⟩,f6⟩:=a5;simp only at f5 f6;refine⟨.blk g (Ayy++pre) (post++Awd) ty fz,⟨f1,fun hh=>f2 (b4 g hh),⟨row,f3,f4,by rw[f5,e1];simp⟩,?_⟩,?_⟩
      ·rw[e2,f6];simp[hop]
      ·intro w' c hc Ak3;obtain⟨n1,n2⟩:=Ak3;refine⟨fun b hb hu=>n2 b (a4 b hb) hu fun e=>f2 (e ▸ hb),⟨?_,fun b hb hu hg=>n2 b hb (fun hh=>hu (b4 b hh)) hg⟩,rfl,?_,fun _ _ e=>(by cases e),fun b hb hu hg=>n2 b hb (fun hh=>hu (b4 b hh)) (hg g _ _ _ _ rfl)⟩
       ·rw[n1];simp[Lie.cells]
       ·rw[e1];simp[Lie.cells,hc]
     |val=>
      refine⟨.val,?_,?_⟩
      ·show s2.1=none;rw[e2,show Bka=none from a5];rfl
      ·intro w' c hc Ak3;obtain⟨rfl,n2⟩:=Ak3;exact⟨fun b hb hu=>n2 b (a4 b hb) hu,⟨e1.symm,fun b hb hu=>n2 b hb fun hh=>hu (b4 b hh)⟩,rfl,by rw[e1];rfl,fun _ _ e=>(by cases e),fun b hb hu _=>n2 b hb fun hh=>hu (b4 b hh)⟩
    |blk g pre post ty fz=>
     obtain⟨f1,f2,f3,f4⟩:=b5;refine⟨.blk g pre post ty fz,⟨a4 g f1,f2,f3,f4⟩,?_⟩;intro w' c hc Ak3;obtain⟨n1,n2⟩:=Ak3;have Asq:∀b∈bs,b ∉ ybs→w'.heap[b]?=w.heap[b]?:=fun b hb hu=>n2 b hb (fun hh=>hu (b4 b hh)) fun e=>hu (e ▸ f1)
     refine⟨⟨n1,fun b hb hu hg=>n2 b (a4 b hb) hu hg⟩,?_,?_,rfl,fun _ _ e=>(by cases e),fun b hb hu _=>Asq b hb hu⟩
     ·cases m1 with
      |inl Ayy Awd=>exact Asq
      |blk g1 Ayy Awd ty1 fz1=>
       obtain⟨q1,q2,⟨row,q3,_,q5⟩,_⟩:=a5;refine⟨?_,fun b hb hu _=>Asq b hb hu⟩
       rw[Asq g1 q1 q2,q3];simp only[Lie.cells];have:row=(Ayy++cs1++Awd).toArray:=by rw[←q5]
       rw[this]
      |val=>exact⟨rfl,Asq⟩
     ·cases m1 with
      |inl Ayy Awd=>exact a5.1.symm
      |blk g1 Ayy Awd ty1 fz1=>rfl
      |val=>rfl
    |val=>
     refine⟨.val,b5,?_⟩;intro w' c hc Ak3;obtain⟨rfl,n2⟩:=Ak3;have Asq:∀b∈bs,b ∉ ybs→w'.heap[b]?=w.heap[b]?:=fun b hb hu=>n2 b hb (fun hh=>hu (b4 b hh))
     refine⟨⟨rfl,fun b hb hu=>n2 b (a4 b hb) hu⟩,?_,?_,rfl,fun _ _ e=>(by cases e),fun b hb hu _=>Asq b hb hu⟩
     ·cases m1 with
      |inl Ayy Awd=>exact Asq
      |blk g1 Ayy Awd ty1 fz1=>
       obtain⟨q1,q2,⟨row,q3,_,q5⟩,_⟩:=a5;refine⟨?_,fun b hb hu _=>Asq b hb hu⟩
       rw[Asq g1 q1 q2,q3];simp only[Lie.cells];have:row=(Ayy++cs1++Awd).toArray:=by rw[←q5]
       rw[this]
      |val=>exact⟨rfl,Asq⟩
     ·cases m1 with
      |inl Ayy Awd=>exact a5.1.symm
      |blk g1 Ayy Awd ty1 fz1=>rfl
      |val=>rfl
   refine⟨m,s2,ubs,Aug,b2,b3,Bbp,hm1,?_⟩;intro G' w' u' c Asv d' hG hc hag hu' hnb hfr Ak3 hd;simp only[D.put,hy]at hd;obtain⟨n2,n1,Bqk,Bus,Bur,Bqm⟩:=hm2 w' c hc Ak3;cases hp:y.put p u' with
   |none=>simp[hp]at hd
   |some y'=>
    simp only[hp]at hd;obtain⟨Aqn,r1,r2,r3,r4,r5⟩:=b6 G' w' u' c Asv y' hG hc hag hu' hnb (fun b hb=>(hfr b hb).imp id fun hh hx=>hh (a4 b hx)) n2 hp
    have Bup:y'.isAgg=y.isAgg:=by
     rw[r4];split
     ·rename_i hp0;subst hp0;simp only[D.at,A0]at hu;rw[hag,hu]
     ·rfl
    obtain⟨bs',q1,q2,q3,q4,q5,q6,q7,q8⟩:=a6 G' w' y' _ Aqn d' hG Bus Bup r1 r2 (fun b hb=>by
     rcases(r3 b).1 hb with⟨h1,_⟩|h1
     ·exact .inl h1
     ·rcases hfr b h1 with h2|h2
      ·exact .inl (b4 b h2)
      ·exact .inr h2) n1 hd
    rw[Bqk]at q1 q7 q8;refine⟨bs',q1,q2,fun b=>?_,by rw[if_neg (by simp)];exact q4,?_⟩
    ·rw[q3,r3];constructor
     ·rintro(⟨h1,h2⟩|⟨h1,h2⟩|h1)
      ·exact .inl ⟨h1,fun hh=>h2 (b4 b hh)⟩
      ·exact .inl ⟨a4 b h1,h2⟩
      ·exact .inr h1
     ·rintro(⟨h1,h2⟩|h1)
      ·by_cases h3:b∈ybs
       ·exact .inr (.inl ⟨h3,h2⟩)
       ·exact .inl ⟨h1,h3⟩
      ·exact .inr (.inr h1)
    ·intro q hq v hv t ht;cases q with
     |nil=>
      simp only[spot,A0]at ht;simp only[D.at,A0]at hv;subst ht hv;refine⟨_,_,rfl,rfl,rfl,fun hh _=>⟨by rw[q5];exact hh,?_⟩⟩
      cases m with
      |inl pre post=>
       obtain⟨a',b',hab⟩:=Bur _ _ rfl;exact absurd hab (a7 hh a' b')
      |blk _ _ _ _ _=>rfl
      |val=>rfl
     |cons j q=>
      simp only[D.at]at hv;simp only[spot]at ht;by_cases hj:j=i
      ·subst hj;simp only[hy]at hv;simp only[hy,a1]at ht;obtain⟨v',t',g1,g2,g3,g4⟩:=r5 q (hq.imp (fun h=>by simpa[A1p]using h) id) v hv t ht
       exact⟨v',t',by simp only[D.at,q6];exact g1,by simp only[spot,q6,q7];exact g2,g3,fun hh hl=>g4 hh (hl.imp (fun h=>by simpa[Axz]using h) id)⟩
      ·obtain⟨k1,k2⟩:=q8 j hj;cases hz:d.Xw j with
       |none=>simp[hz]at hv
       |some z=>
        simp only[hz]at hv ht;obtain⟨sz,c1,zbs,c2,c3,c4,c5⟩:=a8 j z hj hz;simp only[c1]at ht;have:spot w' q z sz=spot w q z sz:=S6 c2 c3 (fun b hb=>Bqm b (c4 b hb).1 (c4 b hb).2 fun g pre post ty fz e hg=>c5 g pre post ty fz e (hg ▸ hb)) v hv
        exact⟨v,t,by simp only[D.at,k1,hz];exact hv,by simp only[spot,k1,hz,k2,c1];rw[this];exact ht,rfl,fun hh _=>⟨hh,rfl⟩⟩
end Go.Ab
