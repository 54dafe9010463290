/- Lemmas -/
import Derived.Test.YtkpojedpcabojaaGreatDoorAb1
set_option linter.unusedVariables false
set_option linter.unusedSimpArgs false
namespace Go.Ab
def Row(w:World)(g:Nat)(e:TypeId)(cur:Array Value):Prop:=∃ty fz,w.heap[g]?=some (.cells cur ty fz)∧(fz=(0,0)∨cur.size≤fz.1)∧(e<1000000→ty=e∧fz=(0,0))
theorem Row.of{w:World}{g:Nat}{e:TypeId}{cur:Array Value}(h:w.heap[g]?=some (.cells cur e (0,0))):Row w g e cur:=⟨e,(0,0),h,.inl rfl,fun _=>⟨rfl,rfl⟩⟩
theorem Row.to{w:World}{g:Nat}{e:TypeId}{cur:Array Value}(h:Row w g e cur)(he:e<1000000):w.heap[g]?=some (.cells cur e (0,0)):=by
 obtain⟨ty,fz,h1,_,h2⟩:=h;obtain⟨rfl,rfl⟩:=h2 he;exact h1
theorem Row.same{w w':World}{g:Nat}{e:TypeId}{cur:Array Value}(h:Row w g e cur)(hk:w'.heap[g]?=w.heap[g]?):Row w' g e cur:=by
 obtain⟨ty,fz,h1,h2⟩:=h;exact⟨ty,fz,by rw[hk];exact h1,h2⟩
inductive D where
 |it (x:I)
 |st (l:List D)
 |vec (e:TypeId) (sz:Nat) (l:List D)
 |ptr (d:D)
 |map (ks:List I) (vs:List D)
 deriving Inhabited
mutual
def D.size:D→Nat
 | .it x=>x.size
 | .st l=>D7 l
 |_=>1
def D7:List D→Nat
 | []=>0
 |d::l=>d.size+D7 l
end
def D.isAgg:D→Bool
 | .it x=>x.isAgg
 | .st _=>true
 |_=>false
def valOf(agg:Bool)(v:Value):Bool:=match v with
 | .agg _=>agg
 |_=> !agg
mutual
def Bp(G:Mem)(w:World):D→List Value→List Nat→Prop
 | .it x,cs,bs=>Bi G x cs∧bs=[]
 | .st l,cs,bs=>Ct G w l cs bs
 | .vec e sz l,cs,bs=>(cs=[.slice none 0 0]∧l=[]∧bs=[])∨
  ∃g off cap cur xs Et,cs=[.slice (some ⟨g,off,none⟩) l.length cap]∧Row w g e cur∧(e<1000000→off=0∧cur.size=cap*sz)∧l.length≤cap∧cap≤maxLen∧off+cap*sz≤cur.size∧(cur.toList.drop off).take (l.length*sz)=xs∧
   Ct G w l xs Et∧(∀x∈l,x.size=sz)∧bs=g::Et
 | .ptr d,cs,bs=>∃b cells ty Et,cs=[.pointer (some ⟨b,0,none⟩)]∧w.heap[b]?=some (.cells cells ty (0,0))∧Bp G w d cells.toList Et∧bs=b::Et
 | .map ks vs,cs,bs=>∃b es clock kc vc Et,cs=[.map (some b)]∧w.heap[b]?=some (.map es clock)∧es.toList.map (·.key)=kc∧es.toList.map (·.val)=vc∧J2 G ks kc∧Ff G w vs vc Et∧
  (es.toList.map (·.born)).Pairwise (· < ·)∧(∀e∈es.toList,e.born<clock)∧bs=b::Et
def Ct(G:Mem)(w:World):List D→List Value→List Nat→Prop
 | [],cs,bs=>cs=[]∧bs=[]
 |d::l,cs,bs=>∃c c' b b',cs=c++c'∧bs=b++b'∧Bp G w d c b∧Ct G w l c' b'
def Ff(G:Mem)(w:World):List D→List Value→List Nat→Prop
 | [],cs,bs=>cs=[]∧bs=[]
 |d::l,cs,bs=>∃v c' b b',cs=v::c'∧bs=b++b'∧valOf d.isAgg v=true∧Bp G w d v.cells.toList b∧Ff G w l c' b'
def J2(G:Mem):List I→List Value→Prop
 | [],cs=>cs=[]
 |x::l,cs=>∃v c',cs=v::c'∧valOf x.isAgg v=true∧Bi G x v.cells.toList∧J2 G l c'
end
theorem J2.mono{G G':Mem}(hG:G.le G'):∀{ks:List I} {cs:List Value},J2 G ks cs→J2 G' ks cs
 | [],_,h=>by simpa only[J2]using h
 |x::l,cs,h=>by
  simp only[J2]at h ⊢;obtain⟨v,c',h1,h2,h3,h4⟩:=h;exact⟨v,c',h1,h2,h3.mono hG,J2.mono hG h4⟩
mutual
theorem Bp.tr{G G':Mem}{w w':World}(hG:G.le G'):∀{d:D} {cs:List Value} {bs:List Nat},Bp G w d cs bs→(∀b∈bs,w'.heap[b]?=w.heap[b]?)→Bp G' w' d cs bs
 | .it x,cs,bs,h,_=>by
   simp only[Bp]at h ⊢;exact⟨Bi.mono hG x cs h.1,h.2⟩
 | .st l,cs,bs,h,hk=>by
   simp only[Bp]at h ⊢;exact Ct.tr hG h hk
 | .vec e sz l,cs,bs,h,hk=>by
   simp only[Bp]at h ⊢;rcases h with h|⟨g,off,cap,cur,xs,Et,h1,h2,h2',h3,h4,h5,h6,h7,h8,rfl⟩
   ·exact .inl h
   ·exact .inr ⟨g,off,cap,cur,xs,Et,h1,h2.same (hk g (by simp)),h2',h3,h4,h5,h6,Ct.tr hG h7 fun b hb=>hk b (by simp[hb]),h8,rfl⟩
 | .ptr d,cs,bs,h,hk=>by
   simp only[Bp]at h ⊢;obtain⟨b,cells,ty,Et,h1,h2,h3,rfl⟩:=h;exact⟨b,cells,ty,Et,h1,by rw[hk b (by simp)];exact h2,Bp.tr hG h3 fun b hb=>hk b (by simp[hb]),rfl⟩
 | .map ks vs,cs,bs,h,hk=>by
   simp only[Bp]at h ⊢;obtain⟨b,es,clock,kc,vc,Et,h1,h2,h3,h4,h5,h6,h7,h8,rfl⟩:=h;exact⟨b,es,clock,kc,vc,Et,h1,by rw[hk b (by simp)];exact h2,h3,h4,h5.mono hG,Ff.tr hG h6 fun b hb=>hk b (by simp[hb]),h7,h8,rfl⟩
theorem Ct.tr{G G':Mem}{w w':World}(hG:G.le G'):∀{l:List D} {cs:List Value} {bs:List Nat},Ct G w l cs bs→(∀b∈bs,w'.heap[b]?=w.heap[b]?)→Ct G' w' l cs bs
 | [],cs,bs,h,_=>by simpa only[Ct]using h
 |d::l,cs,bs,h,hk=>by
  simp only[Ct]at h ⊢;obtain⟨c,c',b,b',h1,rfl,h3,h4⟩:=h;exact⟨c,c',b,b',h1,rfl,Bp.tr hG h3 fun x hx=>hk x (by simp[hx]),Ct.tr hG h4 fun x hx=>hk x (by simp[hx])⟩
theorem Ff.tr{G G':Mem}{w w':World}(hG:G.le G'):∀{l:List D} {cs:List Value} {bs:List Nat},Ff G w l cs bs→(∀b∈bs,w'.heap[b]?=w.heap[b]?)→Ff G' w' l cs bs
 | [],cs,bs,h,_=>by simpa only[Ff]using h
 |d::l,cs,bs,h,hk=>by
  simp only[Ff]at h ⊢;obtain⟨v,c',b,b',h1,rfl,hv,h3,h4⟩:=h;exact⟨v,c',b,b',h1,rfl,hv,Bp.tr hG h3 fun x hx=>hk x (by simp[hx]),Ff.tr hG h4 fun x hx=>hk x (by simp[hx])⟩
end
mutual
theorem Bp.length{G:Mem}{w:World}:∀{d:D} {cs:List Value} {bs:List Nat},Bp G w d cs bs→cs.length=d.size
 | .it x,cs,bs,h=>by
   simp only[Bp]at h;exact Bi.length x cs h.1
 | .st l,cs,bs,h=>by
   simp only[Bp]at h;exact Ct.length h
 | .vec e sz l,cs,bs,h=>by
   simp only[Bp]at h;rcases h with⟨rfl,_⟩|⟨g,off,cap,cur,xs,Et,rfl,_⟩<;>rfl
 | .ptr d,cs,bs,h=>by
   simp only[Bp]at h;obtain⟨b,cells,ty,Et,rfl,_⟩:=h;rfl
 | .map ks vs,cs,bs,h=>by
   simp only[Bp]at h;obtain⟨b,es,clock,kc,vc,Et,rfl,_⟩:=h;rfl
theorem Ct.length{G:Mem}{w:World}:∀{l:List D} {cs:List Value} {bs:List Nat},Ct G w l cs bs→cs.length=D7 l
 | [],cs,bs,h=>by
   simp only[Ct]at h;simp[h.1,D7]
 |d::l,cs,bs,h=>by
  simp only[Ct]at h;obtain⟨c,c',b,b',rfl,_,h3,h4⟩:=h;simp[D7,Bp.length h3,Ct.length h4]
end
mutual
theorem Bp.one{G:Mem}{w:World}:∀{d:D} {cs:List Value} {bs:List Nat},Bp G w d cs bs→∀c∈cs,c.oneCell'=true
 | .it x,cs,bs,h=>by
   simp only[Bp]at h;exact Bi.one x cs h.1
 | .st l,cs,bs,h=>by
   simp only[Bp]at h;exact Ct.one h
 | .vec e sz l,cs,bs,h=>by
   simp only[Bp]at h;rcases h with⟨rfl,_⟩|⟨g,off,cap,cur,xs,Et,rfl,_⟩<;>simp[Value.oneCell']
 | .ptr d,cs,bs,h=>by
   simp only[Bp]at h;obtain⟨b,cells,ty,Et,rfl,_⟩:=h;simp[Value.oneCell']
 | .map ks vs,cs,bs,h=>by
   simp only[Bp]at h;obtain⟨b,es,clock,kc,vc,Et,rfl,_⟩:=h;simp[Value.oneCell']
theorem Ct.one{G:Mem}{w:World}:∀{l:List D} {cs:List Value} {bs:List Nat},Ct G w l cs bs→∀c∈cs,c.oneCell'=true
 | [],cs,bs,h=>by
   simp only[Ct]at h;simp[h.1]
 |d::l,cs,bs,h=>by
  simp only[Ct]at h;obtain⟨c,c',b,b',rfl,_,h3,h4⟩:=h;intro v hv;rcases Aj.1 hv with hv|hv
  ·exact Bp.one h3 v hv
  ·exact Ct.one h4 v hv
end
theorem Ct.its{G:Mem}{w:World}:∀{l:List I} {cs:List Value} {bs:List Nat},Ct G w (l.map D.it) cs bs↔B4 G l cs∧bs=[]
 | [],cs,bs=>by simp[Ct,B4]
 |x::l,cs,bs=>by
  simp only[A0,Ct,Bp,B4];constructor
  ·rintro⟨c,c',b,b',rfl,rfl,⟨h1,rfl⟩,h2⟩;obtain⟨h3,rfl⟩:=Ct.its.1 h2;exact⟨⟨c,c',rfl,h1,h3⟩,rfl⟩
  ·rintro⟨⟨c,c',rfl,h1,h2⟩,rfl⟩;exact⟨c,c',[],[],rfl,rfl,⟨h1,rfl⟩,Ct.its.2 ⟨h2,rfl⟩⟩
theorem Asw:∀(l:List I),D7 (l.map D.it)=sizes l
 | []=>rfl
 |x::l=>by simp[D7,sizes,D.size,Asw l]
def Bw:List D→Option (List I)
 | []=>some []
 | .it x::l=>match Bw l with
   |some r=>some (x::r)
   |none=>none
 |_::_=>none
theorem Abz:∀{l:List D} {r:List I},Bw l=some r→l=r.map D.it
 | [],r,h=>by simp only[Bw,Af]at h;subst h;rfl
 | .it x::l,r,h=>by
   simp only[Bw]at h;split at h
   ·rename_i r' hr;cases h;simp[Abz hr]
   ·cases h
 | .st _::l,r,h=>by simp[Bw]at h
 | .vec _ _ _::l,r,h=>by simp[Bw]at h
 | .ptr _::l,r,h=>by simp[Bw]at h
 | .map _ _::l,r,h=>by simp[Bw]at h
def B7(l:List D):D:=match Bw l with
 |some r=>.it (.agg r)
 |none=>.st l
theorem Bp.B7{G:Mem}{w:World}{l:List D}{cs:List Value}{bs:List Nat}:Bp G w (Ab.B7 l) cs bs↔Ct G w l cs bs:=by
 unfold Ab.B7;split
 ·rename_i r hr;rw[Abz hr,Ct.its];simp only[Bp,Bi]
 ·simp only[Bp]
theorem Aiw(l:List D):(B7 l).isAgg=true:=by
 unfold B7;split<;>rfl
def D.Cr:D→Nat→Option D
 | .it (.agg l),i=>match l[i]? with
   |some y=>some (.it y)
   |none=>none
 | .it (.arr _ l),i=>match l[i]? with
   |some y=>some (.it y)
   |none=>none
 | .it _,_=>none
 | .st l,i=>l[i]?
 | .vec _ _ l,i=>l[i]?
 | .ptr d,i=>match i with
   |0=>some d
   |_+1=>none
 | .map _ vs,i=>vs[i]?
def D.Bc:D→Nat→D→Option D
 | .it (.agg l),i,y=>some (B7 ((l.map D.it).set i y))
 | .it (.arr sz l),i,y=>match y with
   | .it y=>some (.it (.arr sz (l.set i y)))
   |_=>none
 | .it _,_,_=>none
 | .st l,i,y=>some (B7 (l.set i y))
 | .vec e sz l,i,y=>some (.vec e sz (l.set i y))
 | .ptr _,_,y=>some (.ptr y)
 | .map ks vs,i,y=>some (.map ks (vs.set i y))
def D.at:List Nat→D→Option D
 | [],d=>some d
 |i::p,d=>match d.Cr i with
  |some y=>y.at p
  |none=>none
def D.put:List Nat→D→D→Option D
 | [],_,u=>some u
 |i::p,d,u=>match d.Cr i with
  |some y=>match D.put p y u with
   |some y'=>d.Bc i y'
   |none=>none
  |none=>none
def D.leaf:D→Bool
 | .it x=> !x.isAgg
 |_=>false
def D.head:D→Bool
 | .vec _ _ _| .ptr _| .map _ _=>true
 |_=>false
abbrev S7:=Option (Nat × Nat) × List Value
def Wb(here:Option (Nat × Nat))(o:Nat):Option (Nat × Nat):=match here with
 |some (b,k)=>some (b,k+o)
 |none=>none
def Dz(w:World):D→S7→Nat→Option S7
 | .it (.agg l),(here,cs),i=>match l[i]? with
   |some y=>some (Wb here (sizes (l.take i)),(cs.drop (sizes (l.take i))).take y.size)
   |none=>none
 | .it (.arr sz l),(here,cs),i=>match l[i]? with
   |some _=>some (Wb here (i*sz),(cs.drop (i*sz)).take sz)
   |none=>none
 | .it _,_,_=>none
 | .st l,(here,cs),i=>match l[i]? with
   |some y=>some (Wb here (D7 (l.take i)),(cs.drop (D7 (l.take i))).take y.size)
   |none=>none
 | .vec _ sz l,(_,cs),i=>match l[i]?,cs with
   |some _,[.slice (some ⟨g,off,none⟩) _ _]=>match w.heap[g]? with
    |some (.cells cur _ _)=>some (some (g,off+i*sz),(cur.toList.drop (off+i*sz)).take sz)
    |_=>none
   |_,_=>none
 | .ptr _,(_,cs),i=>match i,cs with
   |0,[.pointer (some ⟨b,0,none⟩)]=>match w.heap[b]? with
    |some (.cells cur _ _)=>some (some (b,0),cur.toList)
    |_=>none
   |_,_=>none
 | .map _ _,(_,cs),i=>match cs with
   | [.map (some b)]=>match w.heap[b]? with
     |some (.map es _)=>match es.toList[i]? with
      |some e=>some (none,e.val.cells.toList)
      |none=>none
     |_=>none
   |_=>none
def spot(w:World):List Nat→D→S7→Option S7
 | [],_,s=>some s
 |i::p,d,s=>match d.Cr i,Dz w d s i with
  |some y,some s'=>spot w p y s'
  |_,_=>none
theorem Acw{l:List D}{j:Nat}:(B7 l).Cr j=l[j]?:=by
 unfold B7;split
 ·rename_i r hr;rw[Abz hr];simp only[D.Cr,B2];cases r[j]?<;>rfl
 ·rfl
theorem Asx(l:List I)(i:Nat):D7 ((l.map D.it).take i)=sizes (l.take i):=by rw[←List.map_take,Asw]
theorem R0{w:World}{l:List D}{s:S7}{j:Nat}:Dz w (B7 l) s j=match l[j]? with
 |some y=>some (Wb s.1 (D7 (l.take j)),(s.2.drop (D7 (l.take j))).take y.size)
 |none=>none:=by
 obtain⟨here,cs⟩:=s;unfold B7;split
 ·rename_i r hr;rw[Abz hr,Asx,B2];simp only[Dz];cases r[j]?<;>rfl
 ·simp only[Dz]
theorem Aa9{b1 b b2 b':List Nat}(h:(b1++b++b2).Nodup)(hb:b'.Nodup)(hf:∀c∈b',c∈b∨c ∉ b1++b++b2):
 (b1++b'++b2).Nodup∧∀c,c∈b1++b'++b2↔(c∈b1++b++b2∧c ∉ b)∨c∈b':=by
 simp only[Cb,Aj]at h hf ⊢;obtain⟨⟨h1,h2,h3⟩,h4,h5⟩:=h;refine⟨⟨⟨h1,hb,fun a ha c hc=>?_⟩,h4,fun a ha c hc=>?_⟩,fun c=>?_⟩
 ·rintro rfl;rcases hf a hc with h6|h6
  ·exact h3 a ha a h6 rfl
  ·exact h6 (.inl (.inl ha))
 ·rintro rfl;rcases ha with ha|ha
  ·exact h5 a (.inl ha) a hc rfl
  ·rcases hf a ha with h6|h6
   ·exact h5 a (.inr h6) a hc rfl
   ·exact h6 (.inr hc)
 ·constructor
  ·rintro((h6|h6)|h6)
   ·exact .inl ⟨.inl (.inl h6),fun h7=>h3 c h6 c h7 rfl⟩
   ·exact .inr h6
   ·exact .inl ⟨.inr h6,fun h7=>h5 c (.inr h7) c h6 rfl⟩
  ·rintro(⟨(h6|h6)|h6,h7⟩|h6)
   ·exact .inl (.inl h6)
   ·exact absurd h6 h7
   ·exact .inr h6
   ·exact .inl (.inr h6)
theorem Mg{a b c:List Value}:((a++b++c).drop a.length).take b.length=b:=by
 rw[A8,Jy,Gt]
theorem Ct.nth{G:Mem}{w:World}:∀{l:List D} {cs:List Value} {bs:List Nat} {i:Nat} {y:D},Ct G w l cs bs→l[i]?=some y→
 ∃c1 c c2 b1 b b2,cs=c1++c++c2∧bs=b1++b++b2∧c1.length=D7 (l.take i)∧Bp G w y c b∧
  (∀G' w' y' c' b',G.le G'→Bp G' w' y' c' b'→(∀x∈b1++b2,w'.heap[x]?=w.heap[x]?)→Ct G' w' (l.set i y') (c1++c'++c2) (b1++b'++b2))∧
  ∀j z,j≠i→l[j]?=some z→∃bz,Bp G w z ((cs.drop (D7 (l.take j))).take z.size) bz∧bz.Sublist (b1++b2)
 | [],cs,bs,i,y,_,h=>by simp at h
 |d::l,cs,bs,0,y,h,hy=>by
  simp only[Ct]at h;obtain⟨c,c',b,b',rfl,rfl,h1,h2⟩:=h;simp only[B9,Af]at hy;subst hy;refine⟨[],c,c',[],b,b',by simp,by simp,by simp[D7],h1,?_,?_⟩
  ·intro G' w' y' c2 b2 hG L9 hk;simp only[F7,Cu,Ct];exact⟨c2,c',b2,b',rfl,rfl,L9,h2.tr hG fun x hx=>hk x (by simpa using hx)⟩
  ·intro j z hj hz;cases j with
   |zero=>exact absurd rfl hj
   |succ j=>
    simp only[Bn]at hz;obtain⟨c1,cc,c2,b1,bb,b2,rfl,rfl,hl,hr,_⟩:=Ct.nth h2 hz;refine⟨bb,?_,by simp⟩
    simp only[List.take_succ_cons,D7];rw[←Bp.length h1, ←hl, ←Bp.length hr,List.drop_length_add_append,Mg];exact hr
 |d::l,cs,bs,i+1,y,h,hy=>by
  simp only[Ct]at h;obtain⟨c,c',b,b',rfl,rfl,h1,h2⟩:=h;simp only[Bn]at hy;obtain⟨c1,cc,c2,b1,bb,b2,rfl,rfl,hl,hr,Fq,Tu⟩:=Ct.nth h2 hy;refine⟨c++c1,cc,c2,b++b1,bb,b2,by simp,by simp,by simp[D7,hl,Bp.length h1],hr,?_,?_⟩
  ·intro G' w' y' c3 b3 hG L9 hk;simp only[E9,Ct];refine⟨c,c1++c3++c2,b,b1++b3++b2,by simp,by simp,h1.tr hG fun x hx=>hk x (by simp[hx]),Fq G' w' y' c3 b3 hG L9 fun x hx=>hk x ?_⟩
   simp only[Aj]at hx ⊢;rcases hx with hx|hx
   ·exact .inl (.inr hx)
   ·exact .inr hx
  ·intro j z hj hz;cases j with
   |zero=>
    simp only[B9,Af]at hz;subst hz;refine⟨b,?_,by simp⟩
    simp only[List.take_zero,D7,List.drop_zero];rw[←Bp.length h1,Gt];exact h1
   |succ j=>
    simp only[Bn]at hz;obtain⟨bz,e1,e2⟩:=Tu j z (by omega) hz
    refine⟨bz,?_,by rw[A8];exact e2.trans (List.sublist_append_right _ _)⟩
    simp only[List.take_succ_cons,D7];rw[←Bp.length h1,List.drop_length_add_append];exact e1
theorem Ah0{l:List D}{i:Nat}{y y':D}(h:l[i]?=some y)(hs:y'.size=y.size)(j:Nat):D7 ((l.set i y').take j)=D7 (l.take j):=by
 induction l generalizing i j with
 |nil=>simp at h
 |cons x l ih=>
  cases j with
  |zero=>simp
  |succ j=>
   cases i with
   |zero=>
    simp only[B9,Af]at h;subst h;simp[D7,hs]
   |succ i=>
    simp only[Bn]at h;simp[D7,ih h j]
inductive Lq where
 |inl (pre post:List Value)
 |U5 (g:Nat) (pre post:List Value) (ty:TypeId) (fz:Nat × Nat)
 |val
def Lq.cells(m:Lq)(cs c:List Value):List Value:=match m with
 | .inl pre post=>pre++c++post
 |_=>cs
def Lq.fits(m:Lq)(w:World)(bs Md:List Nat)(s s':S7):Prop:=match m with
 | .inl pre post=>s.2=pre++s'.2++post∧s'.1=Wb s.1 pre.length
 | .U5 g pre post ty fz=>g∈bs∧g ∉ Md∧(∃row,w.heap[g]?=some (.cells row ty fz)∧(fz=(0,0)∨row.size≤fz.1)∧row.toList=pre++s'.2++post)∧s'.1=some (g,pre.length)
 | .val=>s'.1=none
def Lq.new(m:Lq)(w w':World)(bs Md:List Nat)(Jw c:List Value):Prop:=match m with
 | .inl _ _=>∀b∈bs,b ∉ Md→w'.heap[b]?=w.heap[b]?
 | .U5 g pre post ty fz=>w'.heap[g]?=some (.cells (pre++c++post).toArray ty fz)∧∀b∈bs,b ∉ Md→b≠g→w'.heap[b]?=w.heap[b]?
 | .val=>c=Jw∧∀b∈bs,b ∉ Md→w'.heap[b]?=w.heap[b]?
def Bs3(G:Mem)(w:World)(d:D)(s:S7)(bs:List Nat)(i:Nat)(y:D)(s':S7)(Md:List Nat)(m:Lq):Prop:=
 ∀G' w' y' c K4 d',G.le G'→c.length=s'.2.length→y'.isAgg=y.isAgg→Bp G' w' y' c K4→K4.Nodup→(∀b∈K4,b∈Md∨b ∉ bs)→m.new w w' bs Md s'.2 c→d.Bc i y'=some d'→
  ∃Et,Bp G' w' d' (m.cells s.2 c) Et∧Et.Nodup∧(∀b,b∈Et↔(b∈bs∧b ∉ Md)∨b∈K4)∧d'.isAgg=d.isAgg∧d'.head=d.head∧d'.Cr i=some y'∧
   Dz w' d' (s.1,m.cells s.2 c) i=some (s'.1,c)∧∀j,j≠i→d'.Cr j=d.Cr j∧Dz w' d' (s.1,m.cells s.2 c) j=Dz w d s j
theorem Ab3{c1 c c' c2:List Value}(hl:c'.length=c.length){o n:Nat}(h:o+n≤c1.length∨c1.length+c.length≤o):((c1++c'++c2).drop o).take n=((c1++c++c2).drop o).take n:=by
 rcases h with h|h
 ·rw[A8,A8,List.drop_append_of_le_length (by omega),List.drop_append_of_le_length (by omega),List.take_append_of_le_length (by simp;omega),List.take_append_of_le_length (by simp;omega)]
 ·obtain⟨k,rfl⟩:=Nat.exists_eq_add_of_le h;rw[show c1.length+c.length+k=(c1++c').length+k by simp[hl],List.drop_length_add_append,show(c1++c').length+k=(c1++c).length+k by simp[hl],List.drop_length_add_append]
theorem Ab4:∀{l:List D} {i:Nat} {y:D},l[i]?=some y→∀j,j<i→∀z,l[j]?=some z→D7 (l.take j)+z.size≤D7 (l.take i)
 | [],i,y,h,_,_,_,_=>by simp at h
 |x::l,0,y,_,j,hj,_,_=>by omega
 |x::l,i+1,y,h,0,_,z,hz=>by
  simp only[B9,Af]at hz;subst hz;simp[D7]
 |x::l,i+1,y,h,j+1,hj,z,hz=>by
  simp only[Bn]at h hz;have:=Ab4 h j (by omega) z hz
  simp only[List.take_succ_cons,D7];omega
def Bko(G:Mem)(w:World)(bs Md:List Nat)(m:Lq)(z:D)(cz:List Value):Prop:=
 ∃zbs,Bp G w z cz zbs∧zbs.Nodup∧(∀b∈zbs,b∈bs∧b ∉ Md)∧∀g pre post ty fz,m= .U5 g pre post ty fz→g ∉ zbs
theorem A80{G:Mem}{w:World}{l:List D}{cs:List Value}{bs:List Nat}{i:Nat}{y:D}(h:Ct G w l cs bs)(hn:bs.Nodup)(hk:l[i]?=some y)(here:Option (Nat × Nat)):
 ∃(m:Lq) (s':S7) (Md:List Nat),s'=(Wb here (D7 (l.take i)),(cs.drop (D7 (l.take i))).take y.size)∧Bp G w y s'.2 Md∧Md.Nodup∧(∀b∈Md,b∈bs)∧m.fits w bs Md (here,cs) s'∧(∀j z,j≠i→l[j]?=some z→Bko G w bs Md m z ((cs.drop (D7 (l.take j))).take z.size))∧
  ∀G' w' y' c K4,G.le G'→c.length=s'.2.length→y'.isAgg=y.isAgg→Bp G' w' y' c K4→K4.Nodup→(∀b∈K4,b∈Md∨b ∉ bs)→m.new w w' bs Md s'.2 c→
   ∃Et,Bp G' w' (B7 (l.set i y')) (m.cells cs c) Et∧Et.Nodup∧(∀b,b∈Et↔(b∈bs∧b ∉ Md)∨b∈K4)∧(B7 (l.set i y')).Cr i=some y'∧
    Dz w' (B7 (l.set i y')) (here,m.cells cs c) i=some (s'.1,c)∧∀j,j≠i→(B7 (l.set i y')).Cr j=l[j]?∧Dz w' (B7 (l.set i y')) (here,m.cells cs c) j=match l[j]? with
     |some z=>some (Wb here (D7 (l.take j)),(cs.drop (D7 (l.take j))).take z.size)
     |none=>none:=by
 obtain⟨c1,c,c2,b1,b,b2,rfl,rfl,hl,hr,Fq,Tu⟩:=Ct.nth h hk;have Di:i<l.length:=(Ak.1 hk).1;have Aq9:((c1++c++c2).drop (D7 (l.take i))).take y.size=c:=by
  rw[←hl, ←Bp.length hr,Mg]
 refine⟨.inl c1 c2,_,b,rfl,by rw[Aq9];exact hr,?_,by simp;intro x hx;exact .inr (.inl hx),⟨by rw[Aq9],by rw[hl]⟩,?_,?_⟩
 ·simp only[Cb]at hn;exact hn.1.2.1
 ·intro j z hj hz;obtain⟨bz,e1,e2⟩:=Tu j z hj hz;have Vf:(b1++b2).Nodup:=by
   simp only[Cb,Aj]at hn ⊢;exact⟨hn.1.1,hn.2.1,fun x hx y hy=>hn.2.2 x (.inl hx) y hy⟩
  refine⟨bz,e1,e2.nodup Vf,fun x hx=>?_,fun _ _ _ _ _ e=>by cases e⟩
  have:=e2.subset hx;simp only[Cb,Aj]at hn this ⊢;rcases this with h|h
  ·exact⟨.inl (.inl h),fun hb=>hn.1.2.2 x h x hb rfl⟩
  ·exact⟨.inr h,fun hb=>hn.2.2 x (.inr hb) x h rfl⟩
 ·intro G' w' y' c' K4 hG Eh Jg L9 Th Va Ge;rw[Aq9]at Eh;have Cq:y'.size=y.size:=by rw[←Bp.length L9, ←Bp.length hr,Eh]
  obtain⟨g1,g2⟩:=Aa9 hn Th Va;have hdj:∀x∈b1++b2,x ∉ b:=by
   intro x hx hb;simp only[Cb,Aj]at hn hx;rcases hx with hx|hx
   ·exact hn.1.2.2 x hx x hb rfl
   ·exact hn.2.2 x (.inr hb) x hx rfl
  refine⟨_,Bp.B7.2 (Fq G' w' y' c' K4 hG L9 fun x hx=>Ge x ?_ (hdj x hx)),g1,g2,?_,?_,?_⟩
  ·simp only[Aj]at hx ⊢;rcases hx with hx|hx
   ·exact .inl (.inl hx)
   ·exact .inr hx
  ·rw[Acw];simp[Di]
  ·rw[R0];simp only[E7 Di,Ah0 hk Cq,Lq.cells,Cq];rw[←hl, ←Bp.length hr, ←Eh,Mg]
  ·intro j hj;refine⟨by rw[Acw,Az (Ne.symm hj)],?_⟩
   rw[R0];simp only[Az (Ne.symm hj),Ah0 hk Cq,Lq.cells];cases hz:l[j]? with
   |none=>rfl
   |some z=>
    simp only;rw[Ab3 Eh];rcases Nat.lt_or_gt_of_ne hj with Arc|hgt
    ·left;rw[hl];exact Ab4 hk j Arc z hz
    ·right;rw[hl,Bp.length hr];exact Ab4 hz i hgt y hk
theorem K7:∀(l:List I),Bw (l.map D.it)=some l
 | []=>rfl
 |x::l=>by simp[Bw,K7 l]
theorem Aix(l:List I):B7 (l.map D.it)= .it (.agg l):=by
 unfold B7;rw[K7]
theorem Qt{sz:Nat}:∀{l:List D},(∀x∈l,x.size=sz)→D7 l=l.length*sz
 | [],_=>by simp[D7]
 |x::l,h=>by
  have h1:=h x (Ar ..);have h2:=Qt (l:=l) fun y hy=>h y (Au _ hy)
  simp only[D7,h1,h2,Cg,F9,Nat.one_mul];omega
theorem Ah1{sz:Nat}{l:List D}(h:∀x∈l,x.size=sz){i:Nat}(hi:i≤l.length):D7 (l.take i)=i*sz:=by
 rw[Qt fun x hx=>h x (C6 hx),Ck,Da hi]
theorem Uh{d d':D}{i:Nat}{y:D}(h:d.Bc i y=some d'):d'.isAgg=d.isAgg∧d'.head=d.head:=by
 cases d with
 |it x=>
  cases x with
  |agg l=>
   simp only[D.Bc,Af]at h;subst h;refine⟨Aiw _,?_⟩;unfold B7;split<;>rfl
  |arr sz l=>
   cases y<;>simp only[D.Bc,Af,reduceCtorEq]at h;subst h;exact⟨rfl,rfl⟩
  |_=>simp[D.Bc]at h
 |st l=>
  simp only[D.Bc,Af]at h;subst h;refine⟨Aiw _,?_⟩;unfold B7;split<;>rfl
 |vec e sz l=>simp only[D.Bc,Af]at h;subst h;exact⟨rfl,rfl⟩
 |ptr d=>simp only[D.Bc,Af]at h;subst h;exact⟨rfl,rfl⟩
 |map ks vs=>simp only[D.Bc,Af]at h;subst h;exact⟨rfl,rfl⟩
theorem Ff.nth{G:Mem}{w:World}:∀{l:List D} {cs:List Value} {bs:List Nat} {i:Nat} {y:D},Ff G w l cs bs→l[i]?=some y→
 ∃v b1 b b2,cs[i]?=some v∧bs=b1++b++b2∧valOf y.isAgg v=true∧Bp G w y v.cells.toList b∧
  (∀G' w' y' b',G.le G'→valOf y'.isAgg v=true→Bp G' w' y' v.cells.toList b'→(∀x∈b1++b2,w'.heap[x]?=w.heap[x]?)→Ff G' w' (l.set i y') cs (b1++b'++b2))∧
  ∀j z,j≠i→l[j]?=some z→∃u bz,cs[j]?=some u∧Bp G w z u.cells.toList bz∧bz.Sublist (b1++b2)
 | [],cs,bs,i,y,_,h=>by simp at h
 |d::l,cs,bs,0,y,h,hy=>by
  simp only[Ff]at h;obtain⟨v,c',b,b',rfl,rfl,hv,h1,h2⟩:=h;simp only[B9,Af]at hy;subst hy;refine⟨v,[],b,b',rfl,by simp,hv,h1,?_,?_⟩
  ·intro G' w' y' b2 hG Na L9 hk;simp only[F7,Cu,Ff];exact⟨v,c',b2,b',rfl,rfl,Na,L9,h2.tr hG fun x hx=>hk x (by simpa using hx)⟩
  ·intro j z hj hz;cases j with
   |zero=>exact absurd rfl hj
   |succ j=>
    simp only[Bn]at hz;obtain⟨u,b1,bb,b2,hu,rfl,_,hr,_⟩:=Ff.nth h2 hz;exact⟨u,bb,by simpa using hu,hr,by simp⟩
 |d::l,cs,bs,i+1,y,h,hy=>by
  simp only[Ff]at h;obtain⟨v,c',b,b',rfl,rfl,hv,h1,h2⟩:=h;simp only[Bn]at hy;obtain⟨u,b1,bb,b2,hu,rfl,hvu,hr,Fq,Tu⟩:=Ff.nth h2 hy;refine⟨u,b++b1,bb,b2,by simpa using hu,by simp,hvu,hr,?_,?_⟩
  ·intro G' w' y' b3 hG Na L9 hk;simp only[E9,Ff];refine⟨v,c',b,b1++b3++b2,rfl,by simp,hv,h1.tr hG fun x hx=>hk x (by simp[hx]),Fq G' w' y' b3 hG Na L9 fun x hx=>hk x ?_⟩
   simp only[Aj]at hx ⊢;rcases hx with hx|hx
   ·exact .inl (.inr hx)
   ·exact .inr hx
  ·intro j z hj hz;cases j with
   |zero=>
    simp only[B9,Af]at hz;subst hz;exact⟨v,b,rfl,h1,by simp⟩
   |succ j=>
    simp only[Bn]at hz;obtain⟨u',bz,e0,e1,e2⟩:=Tu j z (by omega) hz
    exact⟨u',bz,by simpa using e0,e1,by rw[A8];exact e2.trans (List.sublist_append_right _ _)⟩
theorem A3e{G:Mem}{w:World}{d:D}{cs:List Value}{bs:List Nat}{i:Nat}{y:D}(h:Bp G w d cs bs)(hn:bs.Nodup)(hk:d.Cr i=some y)(here:Option (Nat × Nat)):
 ∃(m:Lq) (s':S7) (Md:List Nat),Dz w d (here,cs) i=some s'∧Bp G w y s'.2 Md∧Md.Nodup∧(∀b∈Md,b∈bs)∧m.fits w bs Md (here,cs) s'∧Bs3 G w d (here,cs) bs i y s' Md m∧(d.head=true→∀a b,m≠ .inl a b)∧
  ∀j z,j≠i→d.Cr j=some z→∃sz,Dz w d (here,cs) j=some sz∧Bko G w bs Md m z sz.2:=by
 cases d with
 |it x=>
  cases x with
  |agg l=>
   have h':Ct G w (l.map D.it) cs bs:=by
    simp only[Bp,Bi]at h;exact Ct.its.2 h
   have Jn:(l.map D.it)[i]?=some y:=by
    simp only[D.Cr]at hk;rw[B2];cases hl:l[i]?<;>simp_all
   obtain⟨m,s',Md,rfl,h2,h3,h4,h5,hap,h6⟩:=A80 h' hn Jn here;refine⟨m,_,Md,?_,h2,h3,h4,h5,?_,fun hh=>(by cases hh),?_⟩
   rotate_left 2
   ·intro j z hj hz;have P8:(l.map D.it)[j]?=some z:=by
     simp only[D.Cr]at hz;rw[B2];cases hl:l[j]?<;>simp_all
    exact⟨(Wb here (D7 ((l.map D.it).take j)),(cs.drop (D7 ((l.map D.it).take j))).take z.size),by rw[←Aix,R0,P8],hap j z hj P8⟩
   ·rw[←Aix,R0,Jn]
   ·intro G' w' y' c K4 d' hG hc Jg L9 Th Va Ge hd;obtain⟨g1,g2⟩:=Uh hd;simp only[D.Bc,Af]at hd;subst hd;obtain⟨Et,q1,q2,q3,q4,q5,q6⟩:=h6 G' w' y' c K4 hG hc Jg L9 Th Va Ge;refine⟨Et,q1,q2,q3,g1,g2,q4,q5,fun j hj=>?_⟩
    obtain⟨r1,r2⟩:=q6 j hj;refine⟨by rw[r1, ←Aix,Acw],?_⟩
    rw[r2]
    conv=>rhs;rw[←Aix,R0]
  |arr sz l=>
   simp only[Bp,Bi]at h;obtain⟨⟨h1,h2⟩,rfl⟩:=h;simp only[D.Cr]at hk;cases hl:l[i]? with
   |none=>simp[hl]at hk
   |some x=>
    simp only[hl,Af]at hk;subst hk;obtain⟨c1,c,c2,rfl,e1,hr,Fq⟩:=B4.nth i h1 hl;have hi:i<l.length:=(Ak.1 hl).1;have hx:x.size=sz:=h2 x (Aw hl);have ho:c1.length=i*sz:=by
     rw[e1,Ht (sz:=sz) fun z hz=>h2 z (C6 hz),Ck,Da (Nat.le_of_lt hi)]
    have Eh:c.length=sz:=by rw[Bi.length x c hr,hx]
    have Aq9:((c1++c++c2).drop (i*sz)).take sz=c:=by
     rw[←ho, ←Eh,Mg]
    refine⟨.inl c1 c2,(Wb here (i*sz),c),[],by simp only[Dz,hl,Aq9],by simp only[Bp,and_true];exact hr,Dn,by simp,⟨rfl,by rw[ho]⟩,?_,fun hh=>(by cases hh),?_⟩
    rotate_left 1
    ·intro j z hj hz;simp only[D.Cr]at hz;cases X8:l[j]? with
     |none=>simp[X8]at hz
     |some u=>
      simp only[X8,Af]at hz;subst hz;obtain⟨d1,dd,d2,e2,e3,Kn,_⟩:=B4.nth j h1 X8;have E6:j<l.length:=(Ak.1 X8).1;have hu:u.size=sz:=h2 u (Aw X8);have hd1:d1.length=j*sz:=by
       rw[e3,Ht (sz:=sz) fun z hz=>h2 z (C6 hz),Ck,Da (Nat.le_of_lt E6)]
      refine⟨_,by simp only[Dz,X8];rfl,[],?_,Dn,by simp,fun _ _ _ _ _ e=>by cases e⟩
      simp only[Bp,and_true];rw[e2, ←hd1, ←hu, ←Bi.length u dd Kn,Mg];exact Kn
    intro G' w' y' c' K4 d' hG hc Jg L9 Th Va Ge hd;obtain⟨g1,g2⟩:=Uh hd;cases y' with
    |it u=>
     simp only[D.Bc,Af]at hd;subst hd;simp only[Bp]at L9;obtain⟨hu,rfl⟩:=L9;have Uq:u.size=sz:=by rw[←Bi.length u c' hu,hc,Eh]
     refine⟨[],?_,Dn,by simp,g1,g2,by simp[D.Cr,hi],?_,?_⟩
     ·simp only[Bp,Bi,Lq.cells,and_true];refine⟨?_,?_⟩
      ·obtain⟨d1,dd,d2,e2,e3,Kn,Btm⟩:=B4.nth i (B4.mono hG l _ h1) hl;have hd1:d1.length=c1.length:=by rw[e3,e1]
       obtain⟨rfl,e4⟩:=List.append_inj (by simpa using e2) hd1.symm
       have:dd.length=c.length:=by rw[Bi.length x dd Kn,Bi.length x c hr]
       obtain⟨rfl,rfl⟩:=List.append_inj e4 this.symm;exact Btm u c' hu
      ·intro z hz;rcases E0 hz with hz|rfl
       ·exact h2 z hz
       ·exact Uq
     ·simp only[Dz,E7 hi,Lq.cells];rw[←ho, ←Eh, ←hc,Mg]
     ·intro j hj;refine⟨by simp only[D.Cr,Az (Ne.symm hj)],?_⟩
      simp only[Dz,Az (Ne.symm hj),Lq.cells];cases hz:l[j]? with
      |none=>rfl
      |some z=>
       simp only;rw[Ab3 hc];rw[Eh,ho];rcases Nat.lt_or_gt_of_ne hj with Di|hgt
       ·left
        calc j*sz+sz=(j+1)*sz:=by rw[F9,Nat.one_mul]
         _≤i*sz:=C7 sz Di
       ·right
        calc i*sz+sz=(i+1)*sz:=by rw[F9,Nat.one_mul]
         _≤j*sz:=C7 sz hgt
    |_=>simp[D.Bc]at hd
  |_=>simp[D.Cr]at hk
 |st l=>
  simp only[Bp]at h;simp only[D.Cr]at hk;obtain⟨m,s',Md,rfl,h2,h3,h4,h5,hap,h6⟩:=A80 h hn hk here;refine⟨m,_,Md,by simp only[Dz,hk],h2,h3,h4,h5,?_,fun hh=>(by cases hh),fun j z hj hz=>⟨_,by simp only[D.Cr]at hz;simp only[Dz,hz];rfl,hap j z hj hz⟩⟩
  intro G' w' y' c K4 d' hG hc Jg L9 Th Va Ge hd;obtain⟨g1,g2⟩:=Uh hd;simp only[D.Bc,Af]at hd;subst hd;obtain⟨Et,q1,q2,q3,q4,q5,q6⟩:=h6 G' w' y' c K4 hG hc Jg L9 Th Va Ge;refine⟨Et,q1,q2,q3,g1,g2,q4,q5,fun j hj=>?_⟩
  obtain⟨r1,r2⟩:=q6 j hj;refine⟨r1,?_⟩;rw[r2];simp only[Dz]
 |vec e sz l=>
  simp only[Bp]at h;simp only[D.Cr]at hk;have hi:i<l.length:=(Ak.1 hk).1;rcases h with⟨_,rfl,_⟩|⟨g,off,cap,cur,xs,Ss,rfl,⟨ty,fz,hg,hfz,hty⟩,Aif,Tg,Zq,Kr,Sc,hds,Cq,rfl⟩
  ·simp at hi
  ·obtain⟨c1,c,c2,b1,b,b2,e1,rfl,hl,hr,Fq,Tu⟩:=Ct.nth hds hk;rw[Ah1 Cq (Nat.le_of_lt hi)]at hl;have Eh:c.length=sz:=by rw[Bp.length hr,Cq y (Aw hk)]
   obtain⟨hd0,hhd,hhl⟩:∃hd0,hd0=cur.toList.take off∧hd0.length=off:=⟨_,rfl,by simp;omega⟩
   have S9:cur.toList=hd0++c1++c++(c2++(cur.toList.drop off).drop (l.length*sz)):=by
    have h1:cur.toList.drop off=c1++c++(c2++(cur.toList.drop off).drop (l.length*sz)):=by
     conv=>lhs;rw[←B3 (l.length*sz) (cur.toList.drop off),Sc,e1]
     simp only[A8]
    conv=>lhs;rw[←B3 off cur.toList, ←hhd,h1]
    simp only[A8]
   generalize (cur.toList.drop off).drop (l.length*sz)=tl at S9;have Ju:(hd0++c1).length=off+i*sz:=by rw[Cw,hhl,hl]
   have Aq9:(cur.toList.drop (off+i*sz)).take sz=c:=by
    rw[S9, ←Ju, ←Eh,Mg]
   have Vb:g ∉ b1++b++b2:=(Bs.1 hn).1;have Kb:(b1++b++b2).Nodup:=(Bs.1 hn).2;refine⟨.U5 g (hd0++c1) (c2++tl) ty fz,(some (g,off+i*sz),c),b,by simp only[Dz,hk,hg,Aq9],hr,?_,?_,⟨by simp,fun hb=>Vb (by simp[hb]),⟨cur,hg,hfz,S9⟩,by rw[Ju]⟩,?_,fun _ _ _ e=>(by cases e),?_⟩
   rotate_left 3
   ·intro j z hj hz;simp only[D.Cr]at hz;obtain⟨bz,q1,q2⟩:=Tu j z hj hz;have E6:j<l.length:=(Ak.1 hz).1;rw[Ah1 Cq (Nat.le_of_lt E6),Cq z (Aw hz)]at q1;have Vf:(b1++b2).Nodup:=by
     simp only[Cb,Aj]at Kb ⊢;exact⟨Kb.1.1,Kb.2.1,fun x hx y hy=>Kb.2.2 x (.inl hx) y hy⟩
    have hcz:(cur.toList.drop (off+j*sz)).take sz=(xs.drop (j*sz)).take sz:=by
     rw[←Sc,List.drop_take,List.take_take,List.drop_drop,Da]
     calc sz=(j+1)*sz - j*sz:=by rw[F9,Nat.one_mul];omega
      _≤l.length*sz - j*sz:=Nat.sub_le_sub_right (C7 sz E6) _
    refine⟨_,by simp only[Dz,hz,hg];rfl,bz,by rw[hcz];exact q1,q2.nodup Vf,fun x hx=>?_,fun g' _ _ _ _ e hx=>?_⟩
    ·have:=q2.subset hx;simp only[Cb,Aj]at Kb this;simp only[Ah,Aj];rcases this with h|h
     ·exact⟨.inr (.inl (.inl h)),fun hb=>Kb.1.2.2 x h x hb rfl⟩
     ·exact⟨.inr (.inr h),fun hb=>Kb.2.2 x (.inr hb) x h rfl⟩
    ·cases e;have:=q2.subset hx;simp only[Aj]at this Vb;rcases this with h|h
     ·exact Vb (.inl (.inl h))
     ·exact Vb (.inr h)
   ·simp only[Cb]at Kb;exact Kb.1.2.1
   ·intro x hx;simp[hx]
   ·intro G' w' y' c' K4 d' hG hc Jg L9 Th Va Ge hd;obtain⟨g1,g2⟩:=Uh hd;simp only[D.Bc,Af]at hd;subst hd;have hc:c'.length=c.length:=hc;obtain⟨hn1,Vf⟩:=Ge;have hys:y'.size=sz:=by rw[←Bp.length L9,hc,Eh]
    obtain⟨p1,p2⟩:=Aa9 Kb Th fun x hx=>by
     rcases Va x hx with h|h
     ·exact .inl h
     ·exact .inr fun hh=>h (Au _ hh)
    have hgy:g ∉ K4:=by
     intro hx;rcases Va g hx with h|h
     ·exact Vb (by simp[h])
     ·exact h (by simp)
    have hdj:∀x∈b1++b2,x ∉ b∧x≠g:=by
     intro x hx;simp only[Cb,Aj]at Kb hx Vb;constructor
     ·intro hb;rcases hx with hx|hx
      ·exact Kb.1.2.2 x hx x hb rfl
      ·exact Kb.2.2 x (.inr hb) x hx rfl
     ·rintro rfl;rcases hx with hx|hx
      ·exact Vb (.inl (.inl hx))
      ·exact Vb (.inr hx)
    have F5:(g::(b1++K4++b2)).Nodup:=by
     refine Bs.2 ⟨fun hx=>?_,p1⟩
     rcases(p2 g).1 hx with⟨h,_⟩|h
     ·exact Vb h
     ·exact hgy h
    refine⟨g::(b1++K4++b2),?_,F5,?_,g1,g2,by simp[D.Cr,hi],?_,?_⟩
    ·simp only[Bp,Lq.cells];have Bw9:(hd0++c1++c'++(c2++tl)).toArray.size=cur.size:=by
      have:=congrArg List.length S9;simp[hc]at this ⊢;omega
     refine .inr ⟨g,off,cap,(hd0++c1++c'++(c2++tl)).toArray,c1++c'++c2,b1++K4++b2,by simp,⟨ty,fz,hn1,?_,hty⟩,fun h=>⟨(Aif h).1,by rw[←(Aif h).2,Bw9]⟩,by simpa using Tg,Zq,?_,?_,?_,?_,rfl⟩
     ·rcases hfz with h|h
      ·exact .inl h
      ·right;have:(hd0++c1++c'++(c2++tl)).toArray.size=cur.size:=by
        have:=congrArg List.length S9;simp[hc]at this ⊢;omega
       rw[this];exact h
     ·have:=congrArg List.length S9;simp[hc]at this ⊢;omega
     ·have hlen:(c1++c'++c2).length=(l.set i y').length*sz:=by
       have h1:=congrArg List.length e1;rw[Ct.length hds,Qt Cq]at h1;simp[hc]at h1 ⊢;omega
      rw[←hlen];show((hd0++c1++c'++(c2++tl)).drop off).take _=_;rw[show hd0++c1++c'++(c2++tl)=hd0++(c1++c'++(c2++tl))by simp only[A8], ←hhl,Jy]
      rw[←A8,Gt]
     ·refine Fq G' w' y' c' K4 hG L9 fun x hx=>Vf x ?_ (hdj x hx).1 (hdj x hx).2
      simp only[Aj,Ah]at hx ⊢;rcases hx with hx|hx
      ·exact .inr (.inl (.inl hx))
      ·exact .inr (.inr hx)
     ·intro z hz;rcases E0 hz with hz|rfl
      ·exact Cq z hz
      ·exact hys
    ·intro x;simp only[Ah];rw[show x∈b1++K4++b2↔_ from p2 x];constructor
     ·rintro(rfl|⟨h1,h2⟩|h1)
      ·exact .inl ⟨.inl rfl,fun hb=>Vb (by simp[hb])⟩
      ·exact .inl ⟨.inr h1,h2⟩
      ·exact .inr h1
     ·rintro(⟨rfl|h1,h2⟩|h1)
      ·exact .inl rfl
      ·exact .inr (.inl ⟨h1,h2⟩)
      ·exact .inr (.inr h1)
    ·simp only[Dz,E7 hi,Lq.cells,hn1];rw[←Ju, ←Eh, ←hc,Mg]
    ·intro j hj;refine⟨by simp only[D.Cr,Az (Ne.symm hj)],?_⟩
     simp only[Dz,Az (Ne.symm hj),Lq.cells];cases hz:l[j]? with
     |none=>rfl
     |some z=>
      simp only;rw[hn1,hg];simp only;rw[S9,Ab3 hc];rw[Eh,Ju];rcases Nat.lt_or_gt_of_ne hj with Di|hgt
      ·left;have:j*sz+sz≤i*sz:=by
        calc j*sz+sz=(j+1)*sz:=by rw[F9,Nat.one_mul]
         _≤i*sz:=C7 sz Di
       omega
      ·right;have:i*sz+sz≤j*sz:=by
        calc i*sz+sz=(i+1)*sz:=by rw[F9,Nat.one_mul]
         _≤j*sz:=C7 sz hgt
       omega
 |ptr d=>
  simp only[Bp]at h;obtain rfl:i=0:=by cases i with|zero=>rfl|succ i=>simp[D.Cr]at hk
  simp only[D.Cr,Af]at hk;subst hk;obtain⟨b,cells,ty,Ss,rfl,hb,hr,rfl⟩:=h;have hbn:b ∉ Ss:=(Bs.1 hn).1;refine⟨.U5 b [] [] ty (0,0),(some (b,0),cells.toList),Ss,by simp only[Dz,hb],hr,(Bs.1 hn).2,fun x hx=>by simp[hx],⟨by simp,hbn,⟨cells,hb,.inl rfl,by simp⟩,rfl⟩,?_,fun _ _ _ e=>(by cases e),fun j z hj hz=>by cases j with|zero=>exact absurd rfl hj|succ j=>cases hz⟩
  intro G' w' y' c' K4 d' hG hc Jg L9 Th Va Ge hd;obtain⟨g1,g2⟩:=Uh hd;simp only[D.Bc,Af]at hd;subst hd;obtain⟨hn1,Vf⟩:=Ge;simp only[Cu,Dk]at hn1;have hby:b ∉ K4:=by
   intro hx;rcases Va b hx with h|h
   ·exact hbn h
   ·exact h (by simp)
  refine⟨b::K4,?_,Bs.2 ⟨hby,Th⟩,?_,g1,g2,rfl,by simp only[Dz,Lq.cells,hn1],fun j hj=>?_⟩
  ·simp only[Bp,Lq.cells];exact⟨b,_,ty,K4,rfl,hn1,L9,rfl⟩
  ·intro x;simp only[Ah];constructor
   ·rintro(rfl|h1)
    ·exact .inl ⟨.inl rfl,hbn⟩
    ·exact .inr h1
   ·rintro(⟨rfl|h1,h2⟩|h1)
    ·exact .inl rfl
    ·exact absurd h1 h2
    ·exact .inr h1
  ·cases j with
   |zero=>exact absurd rfl hj
   |succ j=>exact⟨rfl,rfl⟩
 |map ks vs=>
  simp only[Bp]at h;simp only[D.Cr]at hk;obtain⟨b,es,clock,kc,vc,Ss,rfl,hb,hkc,hvc,Pw,Ko,hbo,Eh,rfl⟩:=h;obtain⟨v,b1,bb,b2,hv,rfl,Bwb,hr,Fq,Tu⟩:=Ff.nth Ko hk;have hi:i<vs.length:=(Ak.1 hk).1;obtain⟨en,hen,rfl⟩:∃en,es.toList[i]?=some en∧en.val=v:=by
   rw[←hvc,B2]at hv;cases he:es.toList[i]?<;>simp_all
  have Vb:b ∉ b1++bb++b2:=(Bs.1 hn).1;have Kb:(b1++bb++b2).Nodup:=(Bs.1 hn).2;refine⟨.val,(none,en.val.cells.toList),bb,by simp only[Dz,hb,hen],hr,?_,?_,rfl,?_,fun _ _ _ e=>(by cases e),?_⟩
  rotate_left 3
  ·intro j z hj hz;simp only[D.Cr]at hz;obtain⟨u,bz,q0,q1,q2⟩:=Tu j z hj hz;obtain⟨ej,hej,rfl⟩:∃en,es.toList[j]?=some en∧en.val=u:=by
    rw[←hvc,B2]at q0;cases he:es.toList[j]?<;>simp_all
   have Vf:(b1++b2).Nodup:=by
    simp only[Cb,Aj]at Kb ⊢;exact⟨Kb.1.1,Kb.2.1,fun x hx y hy=>Kb.2.2 x (.inl hx) y hy⟩
   refine⟨_,by simp only[Dz,hb,hej];rfl,bz,q1,q2.nodup Vf,fun x hx=>?_,fun _ _ _ _ _ e=>by cases e⟩
   have:=q2.subset hx;simp only[Cb,Aj]at Kb this;simp only[Ah,Aj];rcases this with h|h
   ·exact⟨.inr (.inl (.inl h)),fun hb=>Kb.1.2.2 x h x hb rfl⟩
   ·exact⟨.inr (.inr h),fun hb=>Kb.2.2 x (.inr hb) x h rfl⟩
  ·simp only[Cb]at Kb;exact Kb.1.2.1
  ·intro x hx;simp[hx]
  ·intro G' w' y' c' K4 d' hG hc Jg L9 Th Va Ge hd;obtain⟨g1,g2⟩:=Uh hd;simp only[D.Bc,Af]at hd;subst hd;obtain⟨rfl,Vf⟩:=Ge;obtain⟨p1,p2⟩:=Aa9 Kb Th fun x hx=>by
    rcases Va x hx with h|h
    ·exact .inl h
    ·exact .inr fun hh=>h (Au _ hh)
   have hgy:b ∉ K4:=by
    intro hx;rcases Va b hx with h|h
    ·exact Vb (by simp[h])
    ·exact h (by simp)
   have hdj:∀x∈b1++b2,x ∉ bb:=by
    intro x hx hb;simp only[Cb,Aj]at Kb hx;rcases hx with hx|hx
    ·exact Kb.1.2.2 x hx x hb rfl
    ·exact Kb.2.2 x (.inr hb) x hx rfl
   have A12:w'.heap[b]?=w.heap[b]?:=Vf b (by simp) fun hx=>Vb (by simp[hx])
   refine⟨b::(b1++K4++b2),?_,Bs.2 ⟨fun hx=>?_,p1⟩,?_,g1,g2,by simp[D.Cr,hi],by simp only[Dz,Lq.cells,A12,hb,hen],fun j hj=>?_⟩
   ·simp only[Bp,Lq.cells];refine⟨b,es,clock,kc,vc,_,rfl,by rw[A12];exact hb,hkc,hvc,Pw.mono hG,Fq G' w' y' K4 hG (by rw[Jg];exact Bwb) L9 fun x hx=>Vf x ?_ (hdj x hx),hbo,Eh,rfl⟩
    simp only[Aj,Ah]at hx ⊢;rcases hx with hx|hx
    ·exact .inr (.inl (.inl hx))
    ·exact .inr (.inr hx)
   ·rcases(p2 b).1 hx with⟨h,_⟩|h
    ·exact Vb h
    ·exact hgy h
   ·intro x;simp only[Ah];rw[show x∈b1++K4++b2↔_ from p2 x];constructor
    ·rintro(rfl|⟨h1,h2⟩|h1)
     ·exact .inl ⟨.inl rfl,fun hb=>Vb (by simp[hb])⟩
     ·exact .inl ⟨.inr h1,h2⟩
     ·exact .inr h1
    ·rintro(⟨rfl|h1,h2⟩|h1)
     ·exact .inl rfl
     ·exact .inr (.inl ⟨h1,h2⟩)
     ·exact .inr (.inr h1)
   ·exact⟨by simp only[D.Cr,Az (Ne.symm hj)],by simp only[Dz,Lq.cells,A12]⟩
def Lr:List Nat→List Nat→Bool
 |_::a::_,_::b::_=> !Nat.beq a b
 |_,_=>false
def Ae9:List Nat→List Nat→Bool
 | [],[]=>false
 | [],_::_=>true
 |_::_,[]=>false
 |i::p,j::q=>decide (i=j)&&Ae9 p q
def Xk:List Nat→List Nat→Bool
 | [],_=>true
 |_::_,[]=>false
 |i::p,j::q=>decide (i=j)&&Xk p q
theorem A01:∀{p q:List Nat},q.length≤p.length→Ae9 p q=false
 | [],[],_=>rfl
 | [],_::_,h=>by simp at h
 |_::_,[],_=>rfl
 |i::p,j::q,h=>by simp only[Ae9,A01 (p:=p) (q:=q) (by simpa using h),Bool.and_false]
theorem A3s:∀{p q:List Nat},q.length<p.length→Xk p q=false
 | [],_,h=>by simp at h
 |_::_,[],_=>rfl
 |i::p,j::q,h=>by simp only[Xk,A3s (p:=p) (q:=q) (by simpa using h),Bool.and_false]
theorem Bba:∀{p q:List Nat},Lr p q=true→Xk p q=false
 | [],_,h=>by simp[Lr]at h
 | [_],_,h=>by simp[Lr]at h
 |_::_::_,[],h=>by simp[Lr]at h
 |_::_::_,[_],h=>by simp[Lr]at h
 |_::a::_,_::b::_,h=>by
  have:¬a=b:=by rintro rfl;simp[Lr]at h
  simp[Xk,this]
theorem A9j:∀{p q:List Nat},Lr p q=true→Ae9 p q=false
 | [],_,h=>by simp[Lr]at h
 | [_],_,h=>by simp[Lr]at h
 |_::_::_,[],h=>by simp[Lr]at h
 |_::_::_,[_],h=>by simp[Lr]at h
 |_::a::_,_::b::_,h=>by
  have:¬a=b:=by rintro rfl;simp[Lr]at h
  simp[Ae9,this]
theorem A7b:∀{p q:List Nat},Xk p q=false→Ae9 p q=false
 | [],_,h=>by simp[Xk]at h
 |_::_,[],_=>rfl
 |i::p,j::q,h=>by
  simp only[Xk,Bool.and_eq_false_iff]at h;simp only[Ae9,Bool.and_eq_false_iff];exact h.imp id A7b
def Az3(p:List Nat)(u:D)(q:List Nat):Prop:=Ae9 p q=false∨u.leaf=true
def Focus(G:Mem)(w:World)(d:D)(s:S7)(bs:List Nat)(p:List Nat)(u:D)(s':S7)(Fw:List Nat)(m:Lq):Prop:=
 ∀G' w' u' c Mb d',G.le G'→c.length=s'.2.length→u'.isAgg=u.isAgg→Bp G' w' u' c Mb→Mb.Nodup→(∀b∈Mb,b∈Fw∨b ∉ bs)→m.new w w' bs Fw s'.2 c→d.put p u'=some d'→
  ∃Et,Bp G' w' d' (m.cells s.2 c) Et∧Et.Nodup∧(∀b,b∈Et↔(b∈bs∧b ∉ Fw)∨b∈Mb)∧d'.isAgg=(if p=[]then u' else d).isAgg∧
   ∀q,Az3 p u q→∀v,d.at q=some v→∀t,spot w q d s=some t→∃v' t',d'.at q=some v'∧spot w' q d' (s.1,m.cells s.2 c)=some t'∧t'.1=t.1∧
    (v.head=true→(Xk p q=false∨u.leaf=true)→v'.head=true∧t'.2=t.2)
theorem Bjm{d:D}(h:d.leaf=true)(i:Nat):d.Cr i=none:=by
 cases d with
 |it x=>cases x<;>first|rfl|(simp[D.leaf,I.isAgg]at h)
 |_=>cases h
theorem Ajo{G:Mem}{w w':World}:∀{q:List Nat} {d:D} {s:S7} {bs:List Nat},Bp G w d s.2 bs→bs.Nodup→(∀b∈bs,w'.heap[b]?=w.heap[b]?)→∀v,d.at q=some v→spot w' q d s=spot w q d s
 | [],d,s,bs,_,_,_,_,_=>rfl
 |i::q,d,s,bs,h,hn,hk,v,hv=>by
  simp only[D.at]at hv;cases hy:d.Cr i with
  |none=>simp[hy]at hv
  |some y=>
   simp only[hy]at hv;obtain⟨here,cs⟩:=s;obtain⟨m,s',Md,h1,h2,h3,h4,h5,_⟩:=A3e h hn hy here;have e:Dz w' d (here,cs) i=Dz w d (here,cs) i:=by
    cases d with
    |it x=>cases x<;>rfl
    |st l=>rfl
    |vec e sz l=>
     simp only[Bp]at h;rcases h with⟨rfl,rfl,_⟩|⟨g,off,cap,cur,xs,Ss,rfl,_,_,_,_,_,_,_,_,rfl⟩
     ·simp[D.Cr]at hy
     ·simp only[D.Cr]at hy;simp only[Dz,hy];rw[hk g (by simp)]
    |ptr d=>
     simp only[Bp]at h;obtain⟨b,cells,ty,Ss,rfl,_,_,rfl⟩:=h;cases i with
     |zero=>
      simp only[Dz];rw[hk b (by simp)]
     |succ i=>rfl
    |map ks vs=>
     simp only[Bp]at h;obtain⟨b,es,clock,kc,vc,Ss,rfl,_,_,_,_,_,_,_,rfl⟩:=h;simp only[Dz];rw[hk b (by simp)]
   simp only[spot,hy,e,h1];exact Ajo h2 h3 (fun b hb=>hk b (h4 b hb)) v hv
theorem focus{G:Mem}{w:World}{u:D}:∀{p:List Nat} {d:D} {cs:List Value} {bs:List Nat} {here:Option (Nat × Nat)},Bp G w d cs bs→bs.Nodup→d.at p=some u→
 ∃(m:Lq) (s':S7) (Fw:List Nat),spot w p d (here,cs)=some s'∧Bp G w u s'.2 Fw∧Fw.Nodup∧(∀b∈Fw,b∈bs)∧m.fits w bs Fw (here,cs) s'∧Focus G w d (here,cs) bs p u s' Fw m
 | [],d,cs,bs,here,h,hn,hu=>by
   simp only[D.at,Af]at hu;subst hu;refine⟨.inl [] [],(here,cs),bs,rfl,h,hn,fun _ h=>h,⟨by simp,?_⟩,?_⟩
   ·cases here<;>simp[Wb]
   ·intro G' w' u' c Mb d' hG hc Jg hu' Th Va Ge hd;simp only[D.put,Af]at hd;subst hd;refine⟨Mb,by simpa[Lq.cells]using hu',Th,fun b=>⟨fun h=>.inr h,fun h=>?_⟩,rfl,?_⟩
    ·rcases h with⟨h1,h2⟩|h
     ·exact absurd h1 h2
     ·exact h
    ·intro q hq v hv t ht;rcases hq with hq|hq
     ·obtain rfl:q=[]:=by cases q with
       |nil=>rfl
       |cons _ _=>cases hq
      simp only[spot,Af]at ht;simp only[D.at,Af]at hv;subst ht hv;refine⟨_,_,rfl,rfl,rfl,fun hv h=>?_⟩
      rcases h with h|h
      ·simp[Xk]at h
      ·cases d<;>simp_all [D.leaf,D.head]
     ·cases q with
      |nil=>
       simp only[spot,Af]at ht;simp only[D.at,Af]at hv;subst ht hv;refine⟨_,_,rfl,rfl,rfl,fun hv h=>?_⟩
       cases d<;>simp_all [D.leaf,D.head]
      |cons i q=>
       simp only[D.at,Bjm hq i]at hv;cases hv
 |i::p,d,cs,bs,here,h,hn,hu=>by
  simp only[D.at]at hu;cases hy:d.Cr i with
  |none=>simp[hy]at hu
  |some y=>
   simp only[hy]at hu;obtain⟨m1,⟨Bms,cs1⟩,Md,a1,a2,a3,a4,a5,a6,a7,a8⟩:=A3e h hn hy here;obtain⟨m2,s2,Fw,b1,b2,b3,b4,b5,b6⟩:=focus (p:=p) (here:=Bms) a2 a3 hu
   have A2r:∀b∈Fw,b∈bs:=fun b hb=>a4 b (b4 b hb)
   have L0:spot w (i::p) d (here,cs)=some s2:=by simp only[spot,hy,a1];exact b1
   obtain⟨m,hm1,hm2⟩:∃m:Lq,m.fits w bs Fw (here,cs) s2∧∀w' c,c.length=s2.2.length→m.new w w' bs Fw s2.2 c→
    m2.new w w' Md Fw s2.2 c∧m1.new w w' bs Md cs1 (m2.cells cs1 c)∧m1.cells cs (m2.cells cs1 c)=m.cells cs c∧(m2.cells cs1 c).length=cs1.length∧(∀a b,m= .inl a b→∃a' b',m1= .inl a' b')∧
     (∀b∈bs,b ∉ Md→(∀g pre post ty fz,m1= .U5 g pre post ty fz→b≠g)→w'.heap[b]?=w.heap[b]?):=by
    cases m2 with
    |inl pre post=>
     obtain⟨e1,e2⟩:=b5;simp only at e1 e2;cases m1 with
     |inl Yy Uf=>
      obtain⟨f1,f2⟩:=a5;simp only at f1 f2;refine⟨.inl (Yy++pre) (post++Uf),⟨by simp[f1,e1],?_⟩,?_⟩
      ·rw[e2,f2];cases here<;>simp[Wb,Nat.add_assoc]
      ·intro w' c hc Ge;refine⟨fun b hb hu=>Ge b (a4 b hb) hu,fun b hb hu=>Ge b hb fun hh=>hu (b4 b hh),by simp[Lq.cells],?_,fun _ _ _=>⟨_,_,rfl⟩,fun b hb hu _=>Ge b hb fun hh=>hu (b4 b hh)⟩
       rw[e1];simp[Lq.cells,hc]
     |U5 g Yy Uf ty fz=>
      obtain⟨f1,f2,⟨row,f3,f4,f5⟩,f6⟩:=a5;simp only at f5 f6;refine⟨.U5 g (Yy++pre) (post++Uf) ty fz,⟨f1,fun hh=>f2 (b4 g hh),⟨row,f3,f4,by rw[f5,e1];simp⟩,?_⟩,?_⟩
      ·rw[e2,f6];simp[Wb]
      ·intro w' c hc Ge;obtain⟨n1,n2⟩:=Ge;refine⟨fun b hb hu=>n2 b (a4 b hb) hu fun e=>f2 (e ▸ hb),⟨?_,fun b hb hu hg=>n2 b hb (fun hh=>hu (b4 b hh)) hg⟩,rfl,?_,fun _ _ e=>(by cases e),fun b hb hu hg=>n2 b hb (fun hh=>hu (b4 b hh)) (hg g _ _ _ _ rfl)⟩
       ·rw[n1];simp[Lq.cells]
       ·rw[e1];simp[Lq.cells,hc]
     |val=>
      refine⟨.val,?_,?_⟩
      ·show s2.1=none;rw[e2,show Bms=none from a5];rfl
      ·intro w' c hc Ge;obtain⟨rfl,n2⟩:=Ge;exact⟨fun b hb hu=>n2 b (a4 b hb) hu,⟨e1.symm,fun b hb hu=>n2 b hb fun hh=>hu (b4 b hh)⟩,rfl,by rw[e1];rfl,fun _ _ e=>(by cases e),fun b hb hu _=>n2 b hb fun hh=>hu (b4 b hh)⟩
    |U5 g pre post ty fz=>
     obtain⟨f1,f2,f3,f4⟩:=b5;refine⟨.U5 g pre post ty fz,⟨a4 g f1,f2,f3,f4⟩,?_⟩;intro w' c hc Ge;obtain⟨n1,n2⟩:=Ge;have Mk:∀b∈bs,b ∉ Md→w'.heap[b]?=w.heap[b]?:=fun b hb hu=>n2 b hb (fun hh=>hu (b4 b hh)) fun e=>hu (e ▸ f1)
     refine⟨⟨n1,fun b hb hu hg=>n2 b (a4 b hb) hu hg⟩,?_,?_,rfl,fun _ _ e=>(by cases e),fun b hb hu _=>Mk b hb hu⟩
     ·cases m1 with
      |inl Yy Uf=>exact Mk
      |U5 g1 Yy Uf ty1 fz1=>
       obtain⟨q1,q2,⟨row,q3,_,q5⟩,_⟩:=a5;refine⟨?_,fun b hb hu _=>Mk b hb hu⟩
       rw[Mk g1 q1 q2,q3];simp only[Lq.cells];have:row=(Yy++cs1++Uf).toArray:=by rw[←q5]
       rw[this]
      |val=>exact⟨rfl,Mk⟩
     ·cases m1 with
      |inl Yy Uf=>exact a5.1.symm
      |U5 g1 Yy Uf ty1 fz1=>rfl
      |val=>rfl
    |val=>
     refine⟨.val,b5,?_⟩;intro w' c hc Ge;obtain⟨rfl,n2⟩:=Ge;have Mk:∀b∈bs,b ∉ Md→w'.heap[b]?=w.heap[b]?:=fun b hb hu=>n2 b hb (fun hh=>hu (b4 b hh))
     refine⟨⟨rfl,fun b hb hu=>n2 b (a4 b hb) hu⟩,?_,?_,rfl,fun _ _ e=>(by cases e),fun b hb hu _=>Mk b hb hu⟩
     ·cases m1 with
      |inl Yy Uf=>exact Mk
      |U5 g1 Yy Uf ty1 fz1=>
       obtain⟨q1,q2,⟨row,q3,_,q5⟩,_⟩:=a5;refine⟨?_,fun b hb hu _=>Mk b hb hu⟩
       rw[Mk g1 q1 q2,q3];simp only[Lq.cells];have:row=(Yy++cs1++Uf).toArray:=by rw[←q5]
       rw[this]
      |val=>exact⟨rfl,Mk⟩
     ·cases m1 with
      |inl Yy Uf=>exact a5.1.symm
      |U5 g1 Yy Uf ty1 fz1=>rfl
      |val=>rfl
   refine⟨m,s2,Fw,L0,b2,b3,A2r,hm1,?_⟩;intro G' w' u' c Mb d' hG hc Jg hu' Th Va Ge hd;simp only[D.put,hy]at hd;obtain⟨n2,n1,Btt,Bx0,Bxz,Btu⟩:=hm2 w' c hc Ge;cases hp:y.put p u' with
   |none=>simp[hp]at hd
   |some y'=>
    simp only[hp]at hd;obtain⟨K4,r1,r2,r3,r4,r5⟩:=b6 G' w' u' c Mb y' hG hc Jg hu' Th (fun b hb=>(Va b hb).imp id fun hh hx=>hh (a4 b hx)) n2 hp
    have Bxw:y'.isAgg=y.isAgg:=by
     rw[r4];split
     ·rename_i hp0;subst hp0;simp only[D.at,Af]at hu;rw[Jg,hu]
     ·rfl
    obtain⟨Et,q1,q2,q3,q4,q5,q6,q7,q8⟩:=a6 G' w' y' _ K4 d' hG Bx0 Bxw r1 r2 (fun b hb=>by
     rcases(r3 b).1 hb with⟨h1,_⟩|h1
     ·exact .inl h1
     ·rcases Va b h1 with h2|h2
      ·exact .inl (b4 b h2)
      ·exact .inr h2) n1 hd
    rw[Btt]at q1 q7 q8;refine⟨Et,q1,q2,fun b=>?_,by rw[if_neg (by simp)];exact q4,?_⟩
    ·rw[q3,r3];constructor
     ·rintro(⟨h1,h2⟩|⟨h1,h2⟩|h1)
      ·exact .inl ⟨h1,fun hh=>h2 (b4 b hh)⟩
      ·exact .inl ⟨a4 b h1,h2⟩
      ·exact .inr h1
     ·rintro(⟨h1,h2⟩|h1)
      ·by_cases h3:b∈Md
       ·exact .inr (.inl ⟨h3,h2⟩)
       ·exact .inl ⟨h1,h3⟩
      ·exact .inr (.inr h1)
    ·intro q hq v hv t ht;cases q with
     |nil=>
      simp only[spot,Af]at ht;simp only[D.at,Af]at hv;subst ht hv;refine⟨_,_,rfl,rfl,rfl,fun hh _=>⟨by rw[q5];exact hh,?_⟩⟩
      cases m with
      |inl pre post=>
       obtain⟨a',b',Te⟩:=Bxz _ _ rfl;exact absurd Te (a7 hh a' b')
      |U5 _ _ _ _ _=>rfl
      |val=>rfl
     |cons j q=>
      simp only[D.at]at hv;simp only[spot]at ht;by_cases hj:j=i
      ·subst hj;simp only[hy]at hv;simp only[hy,a1]at ht;obtain⟨v',t',g1,g2,g3,g4⟩:=r5 q (hq.imp (fun h=>by simpa[Ae9]using h) id) v hv t ht
       exact⟨v',t',by simp only[D.at,q6];exact g1,by simp only[spot,q6,q7];exact g2,g3,fun hh hl=>g4 hh (hl.imp (fun h=>by simpa[Xk]using h) id)⟩
      ·obtain⟨k1,k2⟩:=q8 j hj;cases hz:d.Cr j with
       |none=>simp[hz]at hv
       |some z=>
        simp only[hz]at hv ht;obtain⟨sz,c1,zbs,c2,c3,c4,c5⟩:=a8 j z hj hz;simp only[c1]at ht;have:spot w' q z sz=spot w q z sz:=Ajo c2 c3 (fun b hb=>Btu b (c4 b hb).1 (c4 b hb).2 fun g pre post ty fz e hg=>c5 g pre post ty fz e (hg ▸ hb)) v hv
        exact⟨v,t,by simp only[D.at,k1,hz];exact hv,by simp only[spot,k1,hz,k2,c1];rw[this];exact ht,rfl,fun hh _=>⟨hh,rfl⟩⟩
end Go.Ab
