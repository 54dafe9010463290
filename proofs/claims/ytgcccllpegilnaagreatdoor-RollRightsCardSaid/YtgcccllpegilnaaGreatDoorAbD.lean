/- Lemmas -/
import Derived.Test.YtgcccllpegilnaaGreatDoorAb1
set_option linter.unusedVariables false
set_option linter.unusedSimpArgs false
namespace Go.Ab
def Row(w:World)(g:Nat)(e:TypeId)(cur:Array Value):Prop:=∃ty fz,w.heap[g]?=some (.cells cur ty fz)∧(fz=(0,0)∨cur.size≤fz.1)∧(e<1000000→ty=e∧fz=(0,0))
theorem Row.of{w:World}{g:Nat}{e:TypeId}{cur:Array Value}(h:w.heap[g]?=some (.cells cur e (0,0))):Row w g e cur:=⟨e,(0,0),h,.inl rfl,fun _=>⟨rfl,rfl⟩⟩
theorem Row.to{w:World}{g:Nat}{e:TypeId}{cur:Array Value}(h:Row w g e cur)(he:e<1000000):w.heap[g]?=some (.cells cur e (0,0)):=by
 obtain⟨ty,fz,h1,_,h2⟩:=h;obtain⟨rfl,rfl⟩:=h2 he;exact h1
theorem Row.same{w w':World}{g:Nat}{e:TypeId}{cur:Array Value}(h:Row w g e cur)(hk:w'.heap[g]?=w.heap[g]?):Row w' g e cur:=by
 obtain⟨ty,fz,h1,h2⟩:=h;exact⟨ty,fz,by rw[hk];exact h1,h2⟩
inductive D where
 |it (x:I)
 |st (l:List D)
 |vec (e:TypeId) (sz:Nat) (l:List D)
 |ptr (d:D)
 |map (ks:List I) (vs:List D)
 deriving Inhabited
mutual
def D.size:D→Nat
 | .it x=>x.size
 | .st l=>Ca l
 |_=>1
def Ca:List D→Nat
 | []=>0
 |d::l=>d.size+Ca l
end
def D.isAgg:D→Bool
 | .it x=>x.isAgg
 | .st _=>true
 |_=>false
def valOf(agg:Bool)(v:Value):Bool:=match v with
 | .agg _=>agg
 |_=> !agg
mutual
def A3(G:Mem)(w:World):D→List Value→List Nat→Prop
 | .it x,cs,bs=>A1 G x cs∧bs=[]
 | .st l,cs,bs=>Bi G w l cs bs
 | .vec e sz l,cs,bs=>(cs=[.slice none 0 0]∧l=[]∧bs=[])∨
  ∃g off cap cur xs Cv,cs=[.slice (some ⟨g,off,none⟩) l.length cap]∧Row w g e cur∧(e<1000000→off=0∧cur.size=cap*sz)∧l.length≤cap∧cap≤maxLen∧off+cap*sz≤cur.size∧(cur.toList.drop off).take (l.length*sz)=xs∧
   Bi G w l xs Cv∧(∀x∈l,x.size=sz)∧bs=g::Cv
 | .ptr d,cs,bs=>∃b cells ty Cv,cs=[.pointer (some ⟨b,0,none⟩)]∧w.heap[b]?=some (.cells cells ty (0,0))∧A3 G w d cells.toList Cv∧bs=b::Cv
 | .map ks vs,cs,bs=>∃b es clock kc vc Cv,cs=[.map (some b)]∧w.heap[b]?=some (.map es clock)∧es.toList.map (·.key)=kc∧es.toList.map (·.val)=vc∧Aa4 G ks kc∧Eo G w vs vc Cv∧
  (es.toList.map (·.born)).Pairwise (· < ·)∧(∀e∈es.toList,e.born<clock)∧bs=b::Cv
def Bi(G:Mem)(w:World):List D→List Value→List Nat→Prop
 | [],cs,bs=>cs=[]∧bs=[]
 |d::l,cs,bs=>∃c c' b b',cs=c++c'∧bs=b++b'∧A3 G w d c b∧Bi G w l c' b'
def Eo(G:Mem)(w:World):List D→List Value→List Nat→Prop
 | [],cs,bs=>cs=[]∧bs=[]
 |d::l,cs,bs=>∃v c' b b',cs=v::c'∧bs=b++b'∧valOf d.isAgg v=true∧A3 G w d v.cells.toList b∧Eo G w l c' b'
def Aa4(G:Mem):List I→List Value→Prop
 | [],cs=>cs=[]
 |x::l,cs=>∃v c',cs=v::c'∧valOf x.isAgg v=true∧A1 G x v.cells.toList∧Aa4 G l c'
end
theorem Aa4.mono{G G':Mem}(hG:G.le G'):∀{ks:List I} {cs:List Value},Aa4 G ks cs→Aa4 G' ks cs
 | [],_,h=>by simpa only[Aa4]using h
 |x::l,cs,h=>by
  simp only[Aa4]at h ⊢;obtain⟨v,c',h1,h2,h3,h4⟩:=h;exact⟨v,c',h1,h2,h3.mono hG,Aa4.mono hG h4⟩
mutual
theorem A3.tr{G G':Mem}{w w':World}(hG:G.le G'):∀{d:D} {cs:List Value} {bs:List Nat},A3 G w d cs bs→(∀b∈bs,w'.heap[b]?=w.heap[b]?)→A3 G' w' d cs bs
 | .it x,cs,bs,h,_=>by
   simp only[A3]at h ⊢;exact⟨A1.mono hG x cs h.1,h.2⟩
 | .st l,cs,bs,h,hk=>by
   simp only[A3]at h ⊢;exact Bi.tr hG h hk
 | .vec e sz l,cs,bs,h,hk=>by
   simp only[A3]at h ⊢;rcases h with h|⟨g,off,cap,cur,xs,Cv,h1,h2,h2',h3,h4,h5,h6,h7,h8,rfl⟩
   ·exact .inl h
   ·exact .inr ⟨g,off,cap,cur,xs,Cv,h1,h2.same (hk g (by simp)),h2',h3,h4,h5,h6,Bi.tr hG h7 fun b hb=>hk b (by simp[hb]),h8,rfl⟩
 | .ptr d,cs,bs,h,hk=>by
   simp only[A3]at h ⊢;obtain⟨b,cells,ty,Cv,h1,h2,h3,rfl⟩:=h;exact⟨b,cells,ty,Cv,h1,by rw[hk b (by simp)];exact h2,A3.tr hG h3 fun b hb=>hk b (by simp[hb]),rfl⟩
 | .map ks vs,cs,bs,h,hk=>by
   simp only[A3]at h ⊢;obtain⟨b,es,clock,kc,vc,Cv,h1,h2,h3,h4,h5,h6,h7,h8,rfl⟩:=h;exact⟨b,es,clock,kc,vc,Cv,h1,by rw[hk b (by simp)];exact h2,h3,h4,h5.mono hG,Eo.tr hG h6 fun b hb=>hk b (by simp[hb]),h7,h8,rfl⟩
theorem Bi.tr{G G':Mem}{w w':World}(hG:G.le G'):∀{l:List D} {cs:List Value} {bs:List Nat},Bi G w l cs bs→(∀b∈bs,w'.heap[b]?=w.heap[b]?)→Bi G' w' l cs bs
 | [],cs,bs,h,_=>by simpa only[Bi]using h
 |d::l,cs,bs,h,hk=>by
  simp only[Bi]at h ⊢;obtain⟨c,c',b,b',h1,rfl,h3,h4⟩:=h;exact⟨c,c',b,b',h1,rfl,A3.tr hG h3 fun x hx=>hk x (by simp[hx]),Bi.tr hG h4 fun x hx=>hk x (by simp[hx])⟩
theorem Eo.tr{G G':Mem}{w w':World}(hG:G.le G'):∀{l:List D} {cs:List Value} {bs:List Nat},Eo G w l cs bs→(∀b∈bs,w'.heap[b]?=w.heap[b]?)→Eo G' w' l cs bs
 | [],cs,bs,h,_=>by simpa only[Eo]using h
 |d::l,cs,bs,h,hk=>by
  simp only[Eo]at h ⊢;obtain⟨v,c',b,b',h1,rfl,hv,h3,h4⟩:=h;exact⟨v,c',b,b',h1,rfl,hv,A3.tr hG h3 fun x hx=>hk x (by simp[hx]),Eo.tr hG h4 fun x hx=>hk x (by simp[hx])⟩
end
mutual
theorem A3.length{G:Mem}{w:World}:∀{d:D} {cs:List Value} {bs:List Nat},A3 G w d cs bs→cs.length=d.size
 | .it x,cs,bs,h=>by
   simp only[A3]at h;exact A1.length x cs h.1
 | .st l,cs,bs,h=>by
   simp only[A3]at h;exact Bi.length h
 | .vec e sz l,cs,bs,h=>by
   simp only[A3]at h;rcases h with⟨rfl,_⟩|⟨g,off,cap,cur,xs,Cv,rfl,_⟩<;>rfl
 | .ptr d,cs,bs,h=>by
   simp only[A3]at h;obtain⟨b,cells,ty,Cv,rfl,_⟩:=h;rfl
 | .map ks vs,cs,bs,h=>by
   simp only[A3]at h;obtain⟨b,es,clock,kc,vc,Cv,rfl,_⟩:=h;rfl
theorem Bi.length{G:Mem}{w:World}:∀{l:List D} {cs:List Value} {bs:List Nat},Bi G w l cs bs→cs.length=Ca l
 | [],cs,bs,h=>by
   simp only[Bi]at h;simp[h.1,Ca]
 |d::l,cs,bs,h=>by
  simp only[Bi]at h;obtain⟨c,c',b,b',rfl,_,h3,h4⟩:=h;simp[Ca,A3.length h3,Bi.length h4]
end
mutual
theorem A3.one{G:Mem}{w:World}:∀{d:D} {cs:List Value} {bs:List Nat},A3 G w d cs bs→∀c∈cs,c.oneCell'=true
 | .it x,cs,bs,h=>by
   simp only[A3]at h;exact A1.one x cs h.1
 | .st l,cs,bs,h=>by
   simp only[A3]at h;exact Bi.one h
 | .vec e sz l,cs,bs,h=>by
   simp only[A3]at h;rcases h with⟨rfl,_⟩|⟨g,off,cap,cur,xs,Cv,rfl,_⟩<;>simp[Value.oneCell']
 | .ptr d,cs,bs,h=>by
   simp only[A3]at h;obtain⟨b,cells,ty,Cv,rfl,_⟩:=h;simp[Value.oneCell']
 | .map ks vs,cs,bs,h=>by
   simp only[A3]at h;obtain⟨b,es,clock,kc,vc,Cv,rfl,_⟩:=h;simp[Value.oneCell']
theorem Bi.one{G:Mem}{w:World}:∀{l:List D} {cs:List Value} {bs:List Nat},Bi G w l cs bs→∀c∈cs,c.oneCell'=true
 | [],cs,bs,h=>by
   simp only[Bi]at h;simp[h.1]
 |d::l,cs,bs,h=>by
  simp only[Bi]at h;obtain⟨c,c',b,b',rfl,_,h3,h4⟩:=h;intro v hv;rcases List.mem_append.1 hv with hv|hv
  ·exact A3.one h3 v hv
  ·exact Bi.one h4 v hv
end
theorem Bi.its{G:Mem}{w:World}:∀{l:List I} {cs:List Value} {bs:List Nat},Bi G w (l.map D.it) cs bs↔A0 G l cs∧bs=[]
 | [],cs,bs=>by simp[Bi,A0]
 |x::l,cs,bs=>by
  simp only[List.map_cons,Bi,A3,A0];constructor
  ·rintro⟨c,c',b,b',rfl,rfl,⟨h1,rfl⟩,h2⟩;obtain⟨h3,rfl⟩:=Bi.its.1 h2;exact⟨⟨c,c',rfl,h1,h3⟩,rfl⟩
  ·rintro⟨⟨c,c',rfl,h1,h2⟩,rfl⟩;exact⟨c,c',[],[],rfl,rfl,⟨h1,rfl⟩,Bi.its.2 ⟨h2,rfl⟩⟩
theorem Apa:∀(l:List I),Ca (l.map D.it)=Ck l
 | []=>rfl
 |x::l=>by simp[Ca,Ck,D.size,Apa l]
def Cn:List D→Option (List I)
 | []=>some []
 | .it x::l=>match Cn l with
   |some r=>some (x::r)
   |none=>none
 |_::_=>none
theorem Ui:∀{l:List D} {r:List I},Cn l=some r→l=r.map D.it
 | [],r,h=>by simp only[Cn,Option.some.injEq]at h;subst h;rfl
 | .it x::l,r,h=>by
   simp only[Cn]at h;split at h
   ·rename_i r' hr;cases h;simp[Ui hr]
   ·cases h
 | .st _::l,r,h=>by simp[Cn]at h
 | .vec _ _ _::l,r,h=>by simp[Cn]at h
 | .ptr _::l,r,h=>by simp[Cn]at h
 | .map _ _::l,r,h=>by simp[Cn]at h
def Cu(l:List D):D:=match Cn l with
 |some r=>.it (.agg r)
 |none=>.st l
theorem A3.Cu{G:Mem}{w:World}{l:List D}{cs:List Value}{bs:List Nat}:A3 G w (Ab.Cu l) cs bs↔Bi G w l cs bs:=by
 unfold Ab.Cu;split
 ·rename_i r hr;rw[Ui hr,Bi.its];simp only[A3,A1]
 ·simp only[A3]
theorem Ag2(l:List D):(Cu l).isAgg=true:=by
 unfold Cu;split<;>rfl
def D.Dj:D→Nat→Option D
 | .it (.agg l),i=>match l[i]? with
   |some y=>some (.it y)
   |none=>none
 | .it (.arr _ l),i=>match l[i]? with
   |some y=>some (.it y)
   |none=>none
 | .it _,_=>none
 | .st l,i=>l[i]?
 | .vec _ _ l,i=>l[i]?
 | .ptr d,i=>match i with
   |0=>some d
   |_+1=>none
 | .map _ vs,i=>vs[i]?
def D.Db:D→Nat→D→Option D
 | .it (.agg l),i,y=>some (Cu ((l.map D.it).set i y))
 | .it (.arr sz l),i,y=>match y with
   | .it y=>some (.it (.arr sz (l.set i y)))
   |_=>none
 | .it _,_,_=>none
 | .st l,i,y=>some (Cu (l.set i y))
 | .vec e sz l,i,y=>some (.vec e sz (l.set i y))
 | .ptr _,_,y=>some (.ptr y)
 | .map ks vs,i,y=>some (.map ks (vs.set i y))
def D.at:List Nat→D→Option D
 | [],d=>some d
 |i::p,d=>match d.Dj i with
  |some y=>y.at p
  |none=>none
def D.put:List Nat→D→D→Option D
 | [],_,u=>some u
 |i::p,d,u=>match d.Dj i with
  |some y=>match D.put p y u with
   |some y'=>d.Db i y'
   |none=>none
  |none=>none
def D.leaf:D→Bool
 | .it x=> !x.isAgg
 |_=>false
def D.head:D→Bool
 | .vec _ _ _| .ptr _| .map _ _=>true
 |_=>false
abbrev Rh:=Option (Nat × Nat) × List Value
def Mw(here:Option (Nat × Nat))(o:Nat):Option (Nat × Nat):=match here with
 |some (b,k)=>some (b,k+o)
 |none=>none
def B9(w:World):D→Rh→Nat→Option Rh
 | .it (.agg l),(here,cs),i=>match l[i]? with
   |some y=>some (Mw here (Ck (l.take i)),(cs.drop (Ck (l.take i))).take y.size)
   |none=>none
 | .it (.arr sz l),(here,cs),i=>match l[i]? with
   |some _=>some (Mw here (i*sz),(cs.drop (i*sz)).take sz)
   |none=>none
 | .it _,_,_=>none
 | .st l,(here,cs),i=>match l[i]? with
   |some y=>some (Mw here (Ca (l.take i)),(cs.drop (Ca (l.take i))).take y.size)
   |none=>none
 | .vec _ sz l,(_,cs),i=>match l[i]?,cs with
   |some _,[.slice (some ⟨g,off,none⟩) _ _]=>match w.heap[g]? with
    |some (.cells cur _ _)=>some (some (g,off+i*sz),(cur.toList.drop (off+i*sz)).take sz)
    |_=>none
   |_,_=>none
 | .ptr _,(_,cs),i=>match i,cs with
   |0,[.pointer (some ⟨b,0,none⟩)]=>match w.heap[b]? with
    |some (.cells cur _ _)=>some (some (b,0),cur.toList)
    |_=>none
   |_,_=>none
 | .map _ _,(_,cs),i=>match cs with
   | [.map (some b)]=>match w.heap[b]? with
     |some (.map es _)=>match es.toList[i]? with
      |some e=>some (none,e.val.cells.toList)
      |none=>none
     |_=>none
   |_=>none
def spot(w:World):List Nat→D→Rh→Option Rh
 | [],_,s=>some s
 |i::p,d,s=>match d.Dj i,B9 w d s i with
  |some y,some s'=>spot w p y s'
  |_,_=>none
theorem An8{l:List D}{j:Nat}:(Cu l).Dj j=l[j]?:=by
 unfold Cu;split
 ·rename_i r hr;rw[Ui hr];simp only[D.Dj,List.getElem?_map];cases r[j]?<;>rfl
 ·rfl
theorem Apb(l:List I)(i:Nat):Ca ((l.map D.it).take i)=Ck (l.take i):=by rw[←List.map_take,Apa]
theorem P1{w:World}{l:List D}{s:Rh}{j:Nat}:B9 w (Cu l) s j=match l[j]? with
 |some y=>some (Mw s.1 (Ca (l.take j)),(s.2.drop (Ca (l.take j))).take y.size)
 |none=>none:=by
 obtain⟨here,cs⟩:=s;unfold Cu;split
 ·rename_i r hr;rw[Ui hr,Apb,List.getElem?_map];simp only[B9];cases r[j]?<;>rfl
 ·simp only[B9]
theorem Xo{b1 b b2 b':List Nat}(h:(b1++b++b2).Nodup)(hb:b'.Nodup)(hf:∀c∈b',c∈b∨c ∉ b1++b++b2):
 (b1++b'++b2).Nodup∧∀c,c∈b1++b'++b2↔(c∈b1++b++b2∧c ∉ b)∨c∈b':=by
 simp only[List.nodup_append,List.mem_append]at h hf ⊢;obtain⟨⟨h1,h2,h3⟩,h4,h5⟩:=h;refine⟨⟨⟨h1,hb,fun a ha c hc=>?_⟩,h4,fun a ha c hc=>?_⟩,fun c=>?_⟩
 ·rintro rfl;rcases hf a hc with h6|h6
  ·exact h3 a ha a h6 rfl
  ·exact h6 (.inl (.inl ha))
 ·rintro rfl;rcases ha with ha|ha
  ·exact h5 a (.inl ha) a hc rfl
  ·rcases hf a ha with h6|h6
   ·exact h5 a (.inr h6) a hc rfl
   ·exact h6 (.inr hc)
 ·constructor
  ·rintro((h6|h6)|h6)
   ·exact .inl ⟨.inl (.inl h6),fun h7=>h3 c h6 c h7 rfl⟩
   ·exact .inr h6
   ·exact .inl ⟨.inr h6,fun h7=>h5 c (.inr h7) c h6 rfl⟩
  ·rintro(⟨(h6|h6)|h6,h7⟩|h6)
   ·exact .inl (.inl h6)
   ·exact absurd h6 h7
   ·exact .inr h6
   ·exact .inl (.inr h6)
theorem Fq{a b c:List Value}:((a++b++c).drop a.length).take b.length=b:=by
 rw[List.append_assoc,List.drop_left,List.take_left]
theorem Bi.nth{G:Mem}{w:World}:∀{l:List D} {cs:List Value} {bs:List Nat} {i:Nat} {y:D},Bi G w l cs bs→l[i]?=some y→
 ∃c1 c c2 b1 b b2,cs=c1++c++c2∧bs=b1++b++b2∧c1.length=Ca (l.take i)∧A3 G w y c b∧
  (∀G' w' y' c' b',G.le G'→A3 G' w' y' c' b'→(∀x∈b1++b2,w'.heap[x]?=w.heap[x]?)→Bi G' w' (l.set i y') (c1++c'++c2) (b1++b'++b2))∧
  ∀j z,j≠i→l[j]?=some z→∃bz,A3 G w z ((cs.drop (Ca (l.take j))).take z.size) bz∧bz.Sublist (b1++b2)
 | [],cs,bs,i,y,_,h=>by simp at h
 |d::l,cs,bs,0,y,h,hy=>by
  simp only[Bi]at h;obtain⟨c,c',b,b',rfl,rfl,h1,h2⟩:=h;simp only[List.getElem?_cons_zero,Option.some.injEq]at hy;subst hy;refine⟨[],c,c',[],b,b',by simp,by simp,by simp[Ca],h1,?_,?_⟩
  ·intro G' w' y' c2 b2 hG H2 hk;simp only[List.set_cons_zero,List.nil_append,Bi];exact⟨c2,c',b2,b',rfl,rfl,H2,h2.tr hG fun x hx=>hk x (by simpa using hx)⟩
  ·intro j z hj hz;cases j with
   |zero=>exact absurd rfl hj
   |succ j=>
    simp only[List.getElem?_cons_succ]at hz;obtain⟨c1,cc,c2,b1,bb,b2,rfl,rfl,hl,hr,_⟩:=Bi.nth h2 hz;refine⟨bb,?_,by simp⟩
    simp only[List.take_succ_cons,Ca];rw[←A3.length h1, ←hl, ←A3.length hr,List.drop_length_add_append,Fq];exact hr
 |d::l,cs,bs,i+1,y,h,hy=>by
  simp only[Bi]at h;obtain⟨c,c',b,b',rfl,rfl,h1,h2⟩:=h;simp only[List.getElem?_cons_succ]at hy;obtain⟨c1,cc,c2,b1,bb,b2,rfl,rfl,hl,hr,Cs,Pr⟩:=Bi.nth h2 hy;refine⟨c++c1,cc,c2,b++b1,bb,b2,by simp,by simp,by simp[Ca,hl,A3.length h1],hr,?_,?_⟩
  ·intro G' w' y' c3 b3 hG H2 hk;simp only[List.set_cons_succ,Bi];refine⟨c,c1++c3++c2,b,b1++b3++b2,by simp,by simp,h1.tr hG fun x hx=>hk x (by simp[hx]),Cs G' w' y' c3 b3 hG H2 fun x hx=>hk x ?_⟩
   simp only[List.mem_append]at hx ⊢;rcases hx with hx|hx
   ·exact .inl (.inr hx)
   ·exact .inr hx
  ·intro j z hj hz;cases j with
   |zero=>
    simp only[List.getElem?_cons_zero,Option.some.injEq]at hz;subst hz;refine⟨b,?_,by simp⟩
    simp only[List.take_zero,Ca,List.drop_zero];rw[←A3.length h1,List.take_left];exact h1
   |succ j=>
    simp only[List.getElem?_cons_succ]at hz;obtain⟨bz,e1,e2⟩:=Pr j z (by omega) hz
    refine⟨bz,?_,by rw[List.append_assoc];exact e2.trans (List.sublist_append_right _ _)⟩
    simp only[List.take_succ_cons,Ca];rw[←A3.length h1,List.drop_length_add_append];exact e1
theorem Aga{l:List D}{i:Nat}{y y':D}(h:l[i]?=some y)(hs:y'.size=y.size)(j:Nat):Ca ((l.set i y').take j)=Ca (l.take j):=by
 induction l generalizing i j with
 |nil=>simp at h
 |cons x l ih=>
  cases j with
  |zero=>simp
  |succ j=>
   cases i with
   |zero=>
    simp only[List.getElem?_cons_zero,Option.some.injEq]at h;subst h;simp[Ca,hs]
   |succ i=>
    simp only[List.getElem?_cons_succ]at h;simp[Ca,ih h j]
inductive Ho where
 |inl (pre post:List Value)
 |Sm (g:Nat) (pre post:List Value) (ty:TypeId) (fz:Nat × Nat)
 |val
def Ho.cells(m:Ho)(cs c:List Value):List Value:=match m with
 | .inl pre post=>pre++c++post
 |_=>cs
def Ho.fits(m:Ho)(w:World)(bs G3:List Nat)(s s':Rh):Prop:=match m with
 | .inl pre post=>s.2=pre++s'.2++post∧s'.1=Mw s.1 pre.length
 | .Sm g pre post ty fz=>g∈bs∧g ∉ G3∧(∃row,w.heap[g]?=some (.cells row ty fz)∧(fz=(0,0)∨row.size≤fz.1)∧row.toList=pre++s'.2++post)∧s'.1=some (g,pre.length)
 | .val=>s'.1=none
def Ho.new(m:Ho)(w w':World)(bs G3:List Nat)(E5 c:List Value):Prop:=match m with
 | .inl _ _=>∀b∈bs,b ∉ G3→w'.heap[b]?=w.heap[b]?
 | .Sm g pre post ty fz=>w'.heap[g]?=some (.cells (pre++c++post).toArray ty fz)∧∀b∈bs,b ∉ G3→b≠g→w'.heap[b]?=w.heap[b]?
 | .val=>c=E5∧∀b∈bs,b ∉ G3→w'.heap[b]?=w.heap[b]?
def Bki(G:Mem)(w:World)(d:D)(s:Rh)(bs:List Nat)(i:Nat)(y:D)(s':Rh)(G3:List Nat)(m:Ho):Prop:=
 ∀G' w' y' c F0 d',G.le G'→c.length=s'.2.length→y'.isAgg=y.isAgg→A3 G' w' y' c F0→F0.Nodup→(∀b∈F0,b∈G3∨b ∉ bs)→m.new w w' bs G3 s'.2 c→d.Db i y'=some d'→
  ∃Cv,A3 G' w' d' (m.cells s.2 c) Cv∧Cv.Nodup∧(∀b,b∈Cv↔(b∈bs∧b ∉ G3)∨b∈F0)∧d'.isAgg=d.isAgg∧d'.head=d.head∧d'.Dj i=some y'∧
   B9 w' d' (s.1,m.cells s.2 c) i=some (s'.1,c)∧∀j,j≠i→d'.Dj j=d.Dj j∧B9 w' d' (s.1,m.cells s.2 c) j=B9 w d s j
theorem Yr{c1 c c' c2:List Value}(hl:c'.length=c.length){o n:Nat}(h:o+n≤c1.length∨c1.length+c.length≤o):((c1++c'++c2).drop o).take n=((c1++c++c2).drop o).take n:=by
 rcases h with h|h
 ·rw[List.append_assoc,List.append_assoc,List.drop_append_of_le_length (by omega),List.drop_append_of_le_length (by omega),List.take_append_of_le_length (by simp;omega),List.take_append_of_le_length (by simp;omega)]
 ·obtain⟨k,rfl⟩:=Nat.exists_eq_add_of_le h;rw[show c1.length+c.length+k=(c1++c').length+k by simp[hl],List.drop_length_add_append,show(c1++c').length+k=(c1++c).length+k by simp[hl],List.drop_length_add_append]
theorem Ys:∀{l:List D} {i:Nat} {y:D},l[i]?=some y→∀j,j<i→∀z,l[j]?=some z→Ca (l.take j)+z.size≤Ca (l.take i)
 | [],i,y,h,_,_,_,_=>by simp at h
 |x::l,0,y,_,j,hj,_,_=>by omega
 |x::l,i+1,y,h,0,_,z,hz=>by
  simp only[List.getElem?_cons_zero,Option.some.injEq]at hz;subst hz;simp[Ca]
 |x::l,i+1,y,h,j+1,hj,z,hz=>by
  simp only[List.getElem?_cons_succ]at h hz;have:=Ys h j (by omega) z hz
  simp only[List.take_succ_cons,Ca];omega
def Bfc(G:Mem)(w:World)(bs G3:List Nat)(m:Ho)(z:D)(cz:List Value):Prop:=
 ∃zbs,A3 G w z cz zbs∧zbs.Nodup∧(∀b∈zbs,b∈bs∧b ∉ G3)∧∀g pre post ty fz,m= .Sm g pre post ty fz→g ∉ zbs
theorem A5z{G:Mem}{w:World}{l:List D}{cs:List Value}{bs:List Nat}{i:Nat}{y:D}(h:Bi G w l cs bs)(hn:bs.Nodup)(hk:l[i]?=some y)(here:Option (Nat × Nat)):
 ∃(m:Ho) (s':Rh) (G3:List Nat),s'=(Mw here (Ca (l.take i)),(cs.drop (Ca (l.take i))).take y.size)∧A3 G w y s'.2 G3∧G3.Nodup∧(∀b∈G3,b∈bs)∧m.fits w bs G3 (here,cs) s'∧(∀j z,j≠i→l[j]?=some z→Bfc G w bs G3 m z ((cs.drop (Ca (l.take j))).take z.size))∧
  ∀G' w' y' c F0,G.le G'→c.length=s'.2.length→y'.isAgg=y.isAgg→A3 G' w' y' c F0→F0.Nodup→(∀b∈F0,b∈G3∨b ∉ bs)→m.new w w' bs G3 s'.2 c→
   ∃Cv,A3 G' w' (Cu (l.set i y')) (m.cells cs c) Cv∧Cv.Nodup∧(∀b,b∈Cv↔(b∈bs∧b ∉ G3)∨b∈F0)∧(Cu (l.set i y')).Dj i=some y'∧
    B9 w' (Cu (l.set i y')) (here,m.cells cs c) i=some (s'.1,c)∧∀j,j≠i→(Cu (l.set i y')).Dj j=l[j]?∧B9 w' (Cu (l.set i y')) (here,m.cells cs c) j=match l[j]? with
     |some z=>some (Mw here (Ca (l.take j)),(cs.drop (Ca (l.take j))).take z.size)
     |none=>none:=by
 obtain⟨c1,c,c2,b1,b,b2,rfl,rfl,hl,hr,Cs,Pr⟩:=Bi.nth h hk;have Bb:i<l.length:=(List.getElem?_eq_some_iff.1 hk).1;have Anw:((c1++c++c2).drop (Ca (l.take i))).take y.size=c:=by
  rw[←hl, ←A3.length hr,Fq]
 refine⟨.inl c1 c2,_,b,rfl,by rw[Anw];exact hr,?_,by simp;intro x hx;exact .inr (.inl hx),⟨by rw[Anw],by rw[hl]⟩,?_,?_⟩
 ·simp only[List.nodup_append]at hn;exact hn.1.2.1
 ·intro j z hj hz;obtain⟨bz,e1,e2⟩:=Pr j z hj hz;have hn2:(b1++b2).Nodup:=by
   simp only[List.nodup_append,List.mem_append]at hn ⊢;exact⟨hn.1.1,hn.2.1,fun x hx y hy=>hn.2.2 x (.inl hx) y hy⟩
  refine⟨bz,e1,e2.nodup hn2,fun x hx=>?_,fun _ _ _ _ _ e=>by cases e⟩
  have:=e2.subset hx;simp only[List.nodup_append,List.mem_append]at hn this ⊢;rcases this with h|h
  ·exact⟨.inl (.inl h),fun hb=>hn.1.2.2 x h x hb rfl⟩
  ·exact⟨.inr h,fun hb=>hn.2.2 x (.inr hb) x h rfl⟩
 ·intro G' w' y' c' F0 hG C4 Fg H2 W2 Gh Dw;rw[Anw]at C4;have Bk:y'.size=y.size:=by rw[←A3.length H2, ←A3.length hr,C4]
  obtain⟨g1,g2⟩:=Xo hn W2 Gh;have hdj:∀x∈b1++b2,x ∉ b:=by
   intro x hx hb;simp only[List.nodup_append,List.mem_append]at hn hx;rcases hx with hx|hx
   ·exact hn.1.2.2 x hx x hb rfl
   ·exact hn.2.2 x (.inr hb) x hx rfl
  refine⟨_,A3.Cu.2 (Cs G' w' y' c' F0 hG H2 fun x hx=>Dw x ?_ (hdj x hx)),g1,g2,?_,?_,?_⟩
  ·simp only[List.mem_append]at hx ⊢;rcases hx with hx|hx
   ·exact .inl (.inl hx)
   ·exact .inr hx
  ·rw[An8];simp[Bb]
  ·rw[P1];simp only[List.getElem?_set_self Bb,Aga hk Bk,Ho.cells,Bk];rw[←hl, ←A3.length hr, ←C4,Fq]
  ·intro j hj;refine⟨by rw[An8,List.getElem?_set_ne (Ne.symm hj)],?_⟩
   rw[P1];simp only[List.getElem?_set_ne (Ne.symm hj),Aga hk Bk,Ho.cells];cases hz:l[j]? with
   |none=>rfl
   |some z=>
    simp only;rw[Yr C4];rcases Nat.lt_or_gt_of_ne hj with An0|hgt
    ·left;rw[hl];exact Ys hk j An0 z hz
    ·right;rw[hl,A3.length hr];exact Ys hz i hgt y hk
theorem Pe:∀(l:List I),Cn (l.map D.it)=some l
 | []=>rfl
 |x::l=>by simp[Cn,Pe l]
theorem Ag3(l:List I):Cu (l.map D.it)= .it (.agg l):=by
 unfold Cu;rw[Pe]
theorem H7{sz:Nat}:∀{l:List D},(∀x∈l,x.size=sz)→Ca l=l.length*sz
 | [],_=>by simp[Ca]
 |x::l,h=>by
  have h1:=h x (List.mem_cons_self ..);have h2:=H7 (l:=l) fun y hy=>h y (List.mem_cons_of_mem _ hy)
  simp only[Ca,h1,h2,List.length_cons,Nat.add_mul,Nat.one_mul];omega
theorem Agb{sz:Nat}{l:List D}(h:∀x∈l,x.size=sz){i:Nat}(hi:i≤l.length):Ca (l.take i)=i*sz:=by
 rw[H7 fun x hx=>h x (List.mem_of_mem_take hx),List.length_take,Nat.min_eq_left hi]
theorem Q1{d d':D}{i:Nat}{y:D}(h:d.Db i y=some d'):d'.isAgg=d.isAgg∧d'.head=d.head:=by
 cases d with
 |it x=>
  cases x with
  |agg l=>
   simp only[D.Db,Option.some.injEq]at h;subst h;refine⟨Ag2 _,?_⟩;unfold Cu;split<;>rfl
  |arr sz l=>
   cases y<;>simp only[D.Db,Option.some.injEq,reduceCtorEq]at h;subst h;exact⟨rfl,rfl⟩
  |_=>simp[D.Db]at h
 |st l=>
  simp only[D.Db,Option.some.injEq]at h;subst h;refine⟨Ag2 _,?_⟩;unfold Cu;split<;>rfl
 |vec e sz l=>simp only[D.Db,Option.some.injEq]at h;subst h;exact⟨rfl,rfl⟩
 |ptr d=>simp only[D.Db,Option.some.injEq]at h;subst h;exact⟨rfl,rfl⟩
 |map ks vs=>simp only[D.Db,Option.some.injEq]at h;subst h;exact⟨rfl,rfl⟩
theorem Eo.nth{G:Mem}{w:World}:∀{l:List D} {cs:List Value} {bs:List Nat} {i:Nat} {y:D},Eo G w l cs bs→l[i]?=some y→
 ∃v b1 b b2,cs[i]?=some v∧bs=b1++b++b2∧valOf y.isAgg v=true∧A3 G w y v.cells.toList b∧
  (∀G' w' y' b',G.le G'→valOf y'.isAgg v=true→A3 G' w' y' v.cells.toList b'→(∀x∈b1++b2,w'.heap[x]?=w.heap[x]?)→Eo G' w' (l.set i y') cs (b1++b'++b2))∧
  ∀j z,j≠i→l[j]?=some z→∃u bz,cs[j]?=some u∧A3 G w z u.cells.toList bz∧bz.Sublist (b1++b2)
 | [],cs,bs,i,y,_,h=>by simp at h
 |d::l,cs,bs,0,y,h,hy=>by
  simp only[Eo]at h;obtain⟨v,c',b,b',rfl,rfl,hv,h1,h2⟩:=h;simp only[List.getElem?_cons_zero,Option.some.injEq]at hy;subst hy;refine⟨v,[],b,b',rfl,by simp,hv,h1,?_,?_⟩
  ·intro G' w' y' b2 hG L0 H2 hk;simp only[List.set_cons_zero,List.nil_append,Eo];exact⟨v,c',b2,b',rfl,rfl,L0,H2,h2.tr hG fun x hx=>hk x (by simpa using hx)⟩
  ·intro j z hj hz;cases j with
   |zero=>exact absurd rfl hj
   |succ j=>
    simp only[List.getElem?_cons_succ]at hz;obtain⟨u,b1,bb,b2,hu,rfl,_,hr,_⟩:=Eo.nth h2 hz;exact⟨u,bb,by simpa using hu,hr,by simp⟩
 |d::l,cs,bs,i+1,y,h,hy=>by
  simp only[Eo]at h;obtain⟨v,c',b,b',rfl,rfl,hv,h1,h2⟩:=h;simp only[List.getElem?_cons_succ]at hy;obtain⟨u,b1,bb,b2,hu,rfl,hvu,hr,Cs,Pr⟩:=Eo.nth h2 hy;refine⟨u,b++b1,bb,b2,by simpa using hu,by simp,hvu,hr,?_,?_⟩
  ·intro G' w' y' b3 hG L0 H2 hk;simp only[List.set_cons_succ,Eo];refine⟨v,c',b,b1++b3++b2,rfl,by simp,hv,h1.tr hG fun x hx=>hk x (by simp[hx]),Cs G' w' y' b3 hG L0 H2 fun x hx=>hk x ?_⟩
   simp only[List.mem_append]at hx ⊢;rcases hx with hx|hx
   ·exact .inl (.inr hx)
   ·exact .inr hx
  ·intro j z hj hz;cases j with
   |zero=>
    simp only[List.getElem?_cons_zero,Option.some.injEq]at hz;subst hz;exact⟨v,b,rfl,h1,by simp⟩
   |succ j=>
    simp only[List.getElem?_cons_succ]at hz;obtain⟨u',bz,e0,e1,e2⟩:=Pr j z (by omega) hz
    exact⟨u',bz,by simpa using e0,e1,by rw[List.append_assoc];exact e2.trans (List.sublist_append_right _ _)⟩
theorem An7{G:Mem}{w:World}{d:D}{cs:List Value}{bs:List Nat}{i:Nat}{y:D}(h:A3 G w d cs bs)(hn:bs.Nodup)(hk:d.Dj i=some y)(here:Option (Nat × Nat)):
 ∃(m:Ho) (s':Rh) (G3:List Nat),B9 w d (here,cs) i=some s'∧A3 G w y s'.2 G3∧G3.Nodup∧(∀b∈G3,b∈bs)∧m.fits w bs G3 (here,cs) s'∧Bki G w d (here,cs) bs i y s' G3 m∧(d.head=true→∀a b,m≠ .inl a b)∧
  ∀j z,j≠i→d.Dj j=some z→∃sz,B9 w d (here,cs) j=some sz∧Bfc G w bs G3 m z sz.2:=by
 cases d with
 |it x=>
  cases x with
  |agg l=>
   have h':Bi G w (l.map D.it) cs bs:=by
    simp only[A3,A1]at h;exact Bi.its.2 h
   have E7:(l.map D.it)[i]?=some y:=by
    simp only[D.Dj]at hk;rw[List.getElem?_map];cases hl:l[i]?<;>simp_all
   obtain⟨m,s',G3,rfl,h2,h3,h4,h5,Ru,h6⟩:=A5z h' hn E7 here;refine⟨m,_,G3,?_,h2,h3,h4,h5,?_,fun hh=>(by cases hh),?_⟩
   rotate_left 2
   ·intro j z hj hz;have Gw:(l.map D.it)[j]?=some z:=by
     simp only[D.Dj]at hz;rw[List.getElem?_map];cases hl:l[j]?<;>simp_all
    exact⟨(Mw here (Ca ((l.map D.it).take j)),(cs.drop (Ca ((l.map D.it).take j))).take z.size),by rw[←Ag3,P1,Gw],Ru j z hj Gw⟩
   ·rw[←Ag3,P1,E7]
   ·intro G' w' y' c F0 d' hG hc Fg H2 W2 Gh Dw hd;obtain⟨g1,g2⟩:=Q1 hd;simp only[D.Db,Option.some.injEq]at hd;subst hd;obtain⟨Cv,q1,q2,q3,q4,q5,q6⟩:=h6 G' w' y' c F0 hG hc Fg H2 W2 Gh Dw;refine⟨Cv,q1,q2,q3,g1,g2,q4,q5,fun j hj=>?_⟩
    obtain⟨r1,r2⟩:=q6 j hj;refine⟨by rw[r1, ←Ag3,An8],?_⟩
    rw[r2]
    conv=>rhs;rw[←Ag3,P1]
  |arr sz l=>
   simp only[A3,A1]at h;obtain⟨⟨h1,h2⟩,rfl⟩:=h;simp only[D.Dj]at hk;cases hl:l[i]? with
   |none=>simp[hl]at hk
   |some x=>
    simp only[hl,Option.some.injEq]at hk;subst hk;obtain⟨c1,c,c2,rfl,e1,hr,Cs⟩:=A0.nth i h1 hl;have hi:i<l.length:=(List.getElem?_eq_some_iff.1 hl).1;have hx:x.size=sz:=h2 x (List.mem_of_getElem? hl);have ho:c1.length=i*sz:=by
     rw[e1,Dc (sz:=sz) fun z hz=>h2 z (List.mem_of_mem_take hz),List.length_take,Nat.min_eq_left (Nat.le_of_lt hi)]
    have C4:c.length=sz:=by rw[A1.length x c hr,hx]
    have Anw:((c1++c++c2).drop (i*sz)).take sz=c:=by
     rw[←ho, ←C4,Fq]
    refine⟨.inl c1 c2,(Mw here (i*sz),c),[],by simp only[B9,hl,Anw],by simp only[A3,and_true];exact hr,List.nodup_nil,by simp,⟨rfl,by rw[ho]⟩,?_,fun hh=>(by cases hh),?_⟩
    rotate_left 1
    ·intro j z hj hz;simp only[D.Dj]at hz;cases Ue:l[j]? with
     |none=>simp[Ue]at hz
     |some u=>
      simp only[Ue,Option.some.injEq]at hz;subst hz;obtain⟨d1,dd,d2,e2,e3,F2,_⟩:=A0.nth j h1 Ue;have hjl:j<l.length:=(List.getElem?_eq_some_iff.1 Ue).1;have hu:u.size=sz:=h2 u (List.mem_of_getElem? Ue);have hd1:d1.length=j*sz:=by
       rw[e3,Dc (sz:=sz) fun z hz=>h2 z (List.mem_of_mem_take hz),List.length_take,Nat.min_eq_left (Nat.le_of_lt hjl)]
      refine⟨_,by simp only[B9,Ue];rfl,[],?_,List.nodup_nil,by simp,fun _ _ _ _ _ e=>by cases e⟩
      simp only[A3,and_true];rw[e2, ←hd1, ←hu, ←A1.length u dd F2,Fq];exact F2
    intro G' w' y' c' F0 d' hG hc Fg H2 W2 Gh Dw hd;obtain⟨g1,g2⟩:=Q1 hd;cases y' with
    |it u=>
     simp only[D.Db,Option.some.injEq]at hd;subst hd;simp only[A3]at H2;obtain⟨hu,rfl⟩:=H2;have Pw:u.size=sz:=by rw[←A1.length u c' hu,hc,C4]
     refine⟨[],?_,List.nodup_nil,by simp,g1,g2,by simp[D.Dj,hi],?_,?_⟩
     ·simp only[A3,A1,Ho.cells,and_true];refine⟨?_,?_⟩
      ·obtain⟨d1,dd,d2,e2,e3,F2,Bk0⟩:=A0.nth i (A0.mono hG l _ h1) hl;have hd1:d1.length=c1.length:=by rw[e3,e1]
       obtain⟨rfl,e4⟩:=List.append_inj (by simpa using e2) hd1.symm
       have:dd.length=c.length:=by rw[A1.length x dd F2,A1.length x c hr]
       obtain⟨rfl,rfl⟩:=List.append_inj e4 this.symm;exact Bk0 u c' hu
      ·intro z hz;rcases List.mem_or_eq_of_mem_set hz with hz|rfl
       ·exact h2 z hz
       ·exact Pw
     ·simp only[B9,List.getElem?_set_self hi,Ho.cells];rw[←ho, ←C4, ←hc,Fq]
     ·intro j hj;refine⟨by simp only[D.Dj,List.getElem?_set_ne (Ne.symm hj)],?_⟩
      simp only[B9,List.getElem?_set_ne (Ne.symm hj),Ho.cells];cases hz:l[j]? with
      |none=>rfl
      |some z=>
       simp only;rw[Yr hc];rw[C4,ho];rcases Nat.lt_or_gt_of_ne hj with Bb|hgt
       ·left
        calc j*sz+sz=(j+1)*sz:=by rw[Nat.add_mul,Nat.one_mul]
         _≤i*sz:=Nat.mul_le_mul_right sz Bb
       ·right
        calc i*sz+sz=(i+1)*sz:=by rw[Nat.add_mul,Nat.one_mul]
         _≤j*sz:=Nat.mul_le_mul_right sz hgt
    |_=>simp[D.Db]at hd
  |_=>simp[D.Dj]at hk
 |st l=>
  simp only[A3]at h;simp only[D.Dj]at hk;obtain⟨m,s',G3,rfl,h2,h3,h4,h5,Ru,h6⟩:=A5z h hn hk here;refine⟨m,_,G3,by simp only[B9,hk],h2,h3,h4,h5,?_,fun hh=>(by cases hh),fun j z hj hz=>⟨_,by simp only[D.Dj]at hz;simp only[B9,hz];rfl,Ru j z hj hz⟩⟩
  intro G' w' y' c F0 d' hG hc Fg H2 W2 Gh Dw hd;obtain⟨g1,g2⟩:=Q1 hd;simp only[D.Db,Option.some.injEq]at hd;subst hd;obtain⟨Cv,q1,q2,q3,q4,q5,q6⟩:=h6 G' w' y' c F0 hG hc Fg H2 W2 Gh Dw;refine⟨Cv,q1,q2,q3,g1,g2,q4,q5,fun j hj=>?_⟩
  obtain⟨r1,r2⟩:=q6 j hj;refine⟨r1,?_⟩;rw[r2];simp only[B9]
 |vec e sz l=>
  simp only[A3]at h;simp only[D.Dj]at hk;have hi:i<l.length:=(List.getElem?_eq_some_iff.1 hk).1;rcases h with⟨_,rfl,_⟩|⟨g,off,cap,cur,xs,bs0,rfl,⟨ty,fz,hg,Ke,hty⟩,Pq,K9,Np,Gg,hxs,hds,Bk,rfl⟩
  ·simp at hi
  ·obtain⟨c1,c,c2,b1,b,b2,e1,rfl,hl,hr,Cs,Pr⟩:=Bi.nth hds hk;rw[Agb Bk (Nat.le_of_lt hi)]at hl;have C4:c.length=sz:=by rw[A3.length hr,Bk y (List.mem_of_getElem? hk)]
   obtain⟨hd0,hhd,hhl⟩:∃hd0,hd0=cur.toList.take off∧hd0.length=off:=⟨_,rfl,by simp;omega⟩
   have Lh:cur.toList=hd0++c1++c++(c2++(cur.toList.drop off).drop (l.length*sz)):=by
    have h1:cur.toList.drop off=c1++c++(c2++(cur.toList.drop off).drop (l.length*sz)):=by
     conv=>lhs;rw[←List.take_append_drop (l.length*sz) (cur.toList.drop off),hxs,e1]
     simp only[List.append_assoc]
    conv=>lhs;rw[←List.take_append_drop off cur.toList, ←hhd,h1]
    simp only[List.append_assoc]
   generalize (cur.toList.drop off).drop (l.length*sz)=tl at Lh;have Hz:(hd0++c1).length=off+i*sz:=by rw[List.length_append,hhl,hl]
   have Anw:(cur.toList.drop (off+i*sz)).take sz=c:=by
    rw[Lh, ←Hz, ←C4,Fq]
   have Kz:g ∉ b1++b++b2:=(List.nodup_cons.1 hn).1;have F1:(b1++b++b2).Nodup:=(List.nodup_cons.1 hn).2;refine⟨.Sm g (hd0++c1) (c2++tl) ty fz,(some (g,off+i*sz),c),b,by simp only[B9,hk,hg,Anw],hr,?_,?_,⟨by simp,fun hb=>Kz (by simp[hb]),⟨cur,hg,Ke,Lh⟩,by rw[Hz]⟩,?_,fun _ _ _ e=>(by cases e),?_⟩
   rotate_left 3
   ·intro j z hj hz;simp only[D.Dj]at hz;obtain⟨bz,q1,q2⟩:=Pr j z hj hz;have hjl:j<l.length:=(List.getElem?_eq_some_iff.1 hz).1;rw[Agb Bk (Nat.le_of_lt hjl),Bk z (List.mem_of_getElem? hz)]at q1;have hn2:(b1++b2).Nodup:=by
     simp only[List.nodup_append,List.mem_append]at F1 ⊢;exact⟨F1.1.1,F1.2.1,fun x hx y hy=>F1.2.2 x (.inl hx) y hy⟩
    have hcz:(cur.toList.drop (off+j*sz)).take sz=(xs.drop (j*sz)).take sz:=by
     rw[←hxs,List.drop_take,List.take_take,List.drop_drop,Nat.min_eq_left]
     calc sz=(j+1)*sz - j*sz:=by rw[Nat.add_mul,Nat.one_mul];omega
      _≤l.length*sz - j*sz:=Nat.sub_le_sub_right (Nat.mul_le_mul_right sz hjl) _
    refine⟨_,by simp only[B9,hz,hg];rfl,bz,by rw[hcz];exact q1,q2.nodup hn2,fun x hx=>?_,fun g' _ _ _ _ e hx=>?_⟩
    ·have:=q2.subset hx;simp only[List.nodup_append,List.mem_append]at F1 this;simp only[List.mem_cons,List.mem_append];rcases this with h|h
     ·exact⟨.inr (.inl (.inl h)),fun hb=>F1.1.2.2 x h x hb rfl⟩
     ·exact⟨.inr (.inr h),fun hb=>F1.2.2 x (.inr hb) x h rfl⟩
    ·cases e;have:=q2.subset hx;simp only[List.mem_append]at this Kz;rcases this with h|h
     ·exact Kz (.inl (.inl h))
     ·exact Kz (.inr h)
   ·simp only[List.nodup_append]at F1;exact F1.1.2.1
   ·intro x hx;simp[hx]
   ·intro G' w' y' c' F0 d' hG hc Fg H2 W2 Gh Dw hd;obtain⟨g1,g2⟩:=Q1 hd;simp only[D.Db,Option.some.injEq]at hd;subst hd;have hc:c'.length=c.length:=hc;obtain⟨hn1,hn2⟩:=Dw;have hys:y'.size=sz:=by rw[←A3.length H2,hc,C4]
    obtain⟨p1,p2⟩:=Xo F1 W2 fun x hx=>by
     rcases Gh x hx with h|h
     ·exact .inl h
     ·exact .inr fun hh=>h (List.mem_cons_of_mem _ hh)
    have hgy:g ∉ F0:=by
     intro hx;rcases Gh g hx with h|h
     ·exact Kz (by simp[h])
     ·exact h (by simp)
    have hdj:∀x∈b1++b2,x ∉ b∧x≠g:=by
     intro x hx;simp only[List.nodup_append,List.mem_append]at F1 hx Kz;constructor
     ·intro hb;rcases hx with hx|hx
      ·exact F1.1.2.2 x hx x hb rfl
      ·exact F1.2.2 x (.inr hb) x hx rfl
     ·rintro rfl;rcases hx with hx|hx
      ·exact Kz (.inl (.inl hx))
      ·exact Kz (.inr hx)
    have Ku:(g::(b1++F0++b2)).Nodup:=by
     refine List.nodup_cons.2 ⟨fun hx=>?_,p1⟩
     rcases(p2 g).1 hx with⟨h,_⟩|h
     ·exact Kz h
     ·exact hgy h
    refine⟨g::(b1++F0++b2),?_,Ku,?_,g1,g2,by simp[D.Dj,hi],?_,?_⟩
    ·simp only[A3,Ho.cells];have Boy:(hd0++c1++c'++(c2++tl)).toArray.size=cur.size:=by
      have:=congrArg List.length Lh;simp[hc]at this ⊢;omega
     refine .inr ⟨g,off,cap,(hd0++c1++c'++(c2++tl)).toArray,c1++c'++c2,b1++F0++b2,by simp,⟨ty,fz,hn1,?_,hty⟩,fun h=>⟨(Pq h).1,by rw[←(Pq h).2,Boy]⟩,by simpa using K9,Np,?_,?_,?_,?_,rfl⟩
     ·rcases Ke with h|h
      ·exact .inl h
      ·right;have:(hd0++c1++c'++(c2++tl)).toArray.size=cur.size:=by
        have:=congrArg List.length Lh;simp[hc]at this ⊢;omega
       rw[this];exact h
     ·have:=congrArg List.length Lh;simp[hc]at this ⊢;omega
     ·have hlen:(c1++c'++c2).length=(l.set i y').length*sz:=by
       have h1:=congrArg List.length e1;rw[Bi.length hds,H7 Bk]at h1;simp[hc]at h1 ⊢;omega
      rw[←hlen];show((hd0++c1++c'++(c2++tl)).drop off).take _=_;rw[show hd0++c1++c'++(c2++tl)=hd0++(c1++c'++(c2++tl))by simp only[List.append_assoc], ←hhl,List.drop_left]
      rw[←List.append_assoc,List.take_left]
     ·refine Cs G' w' y' c' F0 hG H2 fun x hx=>hn2 x ?_ (hdj x hx).1 (hdj x hx).2
      simp only[List.mem_append,List.mem_cons]at hx ⊢;rcases hx with hx|hx
      ·exact .inr (.inl (.inl hx))
      ·exact .inr (.inr hx)
     ·intro z hz;rcases List.mem_or_eq_of_mem_set hz with hz|rfl
      ·exact Bk z hz
      ·exact hys
    ·intro x;simp only[List.mem_cons];rw[show x∈b1++F0++b2↔_ from p2 x];constructor
     ·rintro(rfl|⟨h1,h2⟩|h1)
      ·exact .inl ⟨.inl rfl,fun hb=>Kz (by simp[hb])⟩
      ·exact .inl ⟨.inr h1,h2⟩
      ·exact .inr h1
     ·rintro(⟨rfl|h1,h2⟩|h1)
      ·exact .inl rfl
      ·exact .inr (.inl ⟨h1,h2⟩)
      ·exact .inr (.inr h1)
    ·simp only[B9,List.getElem?_set_self hi,Ho.cells,hn1];rw[←Hz, ←C4, ←hc,Fq]
    ·intro j hj;refine⟨by simp only[D.Dj,List.getElem?_set_ne (Ne.symm hj)],?_⟩
     simp only[B9,List.getElem?_set_ne (Ne.symm hj),Ho.cells];cases hz:l[j]? with
     |none=>rfl
     |some z=>
      simp only;rw[hn1,hg];simp only;rw[Lh,Yr hc];rw[C4,Hz];rcases Nat.lt_or_gt_of_ne hj with Bb|hgt
      ·left;have:j*sz+sz≤i*sz:=by
        calc j*sz+sz=(j+1)*sz:=by rw[Nat.add_mul,Nat.one_mul]
         _≤i*sz:=Nat.mul_le_mul_right sz Bb
       omega
      ·right;have:i*sz+sz≤j*sz:=by
        calc i*sz+sz=(i+1)*sz:=by rw[Nat.add_mul,Nat.one_mul]
         _≤j*sz:=Nat.mul_le_mul_right sz hgt
       omega
 |ptr d=>
  simp only[A3]at h;obtain rfl:i=0:=by cases i with|zero=>rfl|succ i=>simp[D.Dj]at hk
  simp only[D.Dj,Option.some.injEq]at hk;subst hk;obtain⟨b,cells,ty,bs0,rfl,hb,hr,rfl⟩:=h;have hbn:b ∉ bs0:=(List.nodup_cons.1 hn).1;refine⟨.Sm b [] [] ty (0,0),(some (b,0),cells.toList),bs0,by simp only[B9,hb],hr,(List.nodup_cons.1 hn).2,fun x hx=>by simp[hx],⟨by simp,hbn,⟨cells,hb,.inl rfl,by simp⟩,rfl⟩,?_,fun _ _ _ e=>(by cases e),fun j z hj hz=>by cases j with|zero=>exact absurd rfl hj|succ j=>cases hz⟩
  intro G' w' y' c' F0 d' hG hc Fg H2 W2 Gh Dw hd;obtain⟨g1,g2⟩:=Q1 hd;simp only[D.Db,Option.some.injEq]at hd;subst hd;obtain⟨hn1,hn2⟩:=Dw;simp only[List.nil_append,List.append_nil]at hn1;have Vy:b ∉ F0:=by
   intro hx;rcases Gh b hx with h|h
   ·exact hbn h
   ·exact h (by simp)
  refine⟨b::F0,?_,List.nodup_cons.2 ⟨Vy,W2⟩,?_,g1,g2,rfl,by simp only[B9,Ho.cells,hn1],fun j hj=>?_⟩
  ·simp only[A3,Ho.cells];exact⟨b,_,ty,F0,rfl,hn1,H2,rfl⟩
  ·intro x;simp only[List.mem_cons];constructor
   ·rintro(rfl|h1)
    ·exact .inl ⟨.inl rfl,hbn⟩
    ·exact .inr h1
   ·rintro(⟨rfl|h1,h2⟩|h1)
    ·exact .inl rfl
    ·exact absurd h1 h2
    ·exact .inr h1
  ·cases j with
   |zero=>exact absurd rfl hj
   |succ j=>exact⟨rfl,rfl⟩
 |map ks vs=>
  simp only[A3]at h;simp only[D.Dj]at hk;obtain⟨b,es,clock,kc,vc,bs0,rfl,hb,hkc,hvc,hks,Tq,hbo,C4,rfl⟩:=h;obtain⟨v,b1,bb,b2,hv,rfl,Bn7,hr,Cs,Pr⟩:=Eo.nth Tq hk;have hi:i<vs.length:=(List.getElem?_eq_some_iff.1 hk).1;obtain⟨en,hen,rfl⟩:∃en,es.toList[i]?=some en∧en.val=v:=by
   rw[←hvc,List.getElem?_map]at hv;cases he:es.toList[i]?<;>simp_all
  have Kz:b ∉ b1++bb++b2:=(List.nodup_cons.1 hn).1;have F1:(b1++bb++b2).Nodup:=(List.nodup_cons.1 hn).2;refine⟨.val,(none,en.val.cells.toList),bb,by simp only[B9,hb,hen],hr,?_,?_,rfl,?_,fun _ _ _ e=>(by cases e),?_⟩
  rotate_left 3
  ·intro j z hj hz;simp only[D.Dj]at hz;obtain⟨u,bz,q0,q1,q2⟩:=Pr j z hj hz;obtain⟨ej,hej,rfl⟩:∃en,es.toList[j]?=some en∧en.val=u:=by
    rw[←hvc,List.getElem?_map]at q0;cases he:es.toList[j]?<;>simp_all
   have hn2:(b1++b2).Nodup:=by
    simp only[List.nodup_append,List.mem_append]at F1 ⊢;exact⟨F1.1.1,F1.2.1,fun x hx y hy=>F1.2.2 x (.inl hx) y hy⟩
   refine⟨_,by simp only[B9,hb,hej];rfl,bz,q1,q2.nodup hn2,fun x hx=>?_,fun _ _ _ _ _ e=>by cases e⟩
   have:=q2.subset hx;simp only[List.nodup_append,List.mem_append]at F1 this;simp only[List.mem_cons,List.mem_append];rcases this with h|h
   ·exact⟨.inr (.inl (.inl h)),fun hb=>F1.1.2.2 x h x hb rfl⟩
   ·exact⟨.inr (.inr h),fun hb=>F1.2.2 x (.inr hb) x h rfl⟩
  ·simp only[List.nodup_append]at F1;exact F1.1.2.1
  ·intro x hx;simp[hx]
  ·intro G' w' y' c' F0 d' hG hc Fg H2 W2 Gh Dw hd;obtain⟨g1,g2⟩:=Q1 hd;simp only[D.Db,Option.some.injEq]at hd;subst hd;obtain⟨rfl,hn2⟩:=Dw;obtain⟨p1,p2⟩:=Xo F1 W2 fun x hx=>by
    rcases Gh x hx with h|h
    ·exact .inl h
    ·exact .inr fun hh=>h (List.mem_cons_of_mem _ hh)
   have hgy:b ∉ F0:=by
    intro hx;rcases Gh b hx with h|h
    ·exact Kz (by simp[h])
    ·exact h (by simp)
   have hdj:∀x∈b1++b2,x ∉ bb:=by
    intro x hx hb;simp only[List.nodup_append,List.mem_append]at F1 hx;rcases hx with hx|hx
    ·exact F1.1.2.2 x hx x hb rfl
    ·exact F1.2.2 x (.inr hb) x hx rfl
   have Ayo:w'.heap[b]?=w.heap[b]?:=hn2 b (by simp) fun hx=>Kz (by simp[hx])
   refine⟨b::(b1++F0++b2),?_,List.nodup_cons.2 ⟨fun hx=>?_,p1⟩,?_,g1,g2,by simp[D.Dj,hi],by simp only[B9,Ho.cells,Ayo,hb,hen],fun j hj=>?_⟩
   ·simp only[A3,Ho.cells];refine⟨b,es,clock,kc,vc,_,rfl,by rw[Ayo];exact hb,hkc,hvc,hks.mono hG,Cs G' w' y' F0 hG (by rw[Fg];exact Bn7) H2 fun x hx=>hn2 x ?_ (hdj x hx),hbo,C4,rfl⟩
    simp only[List.mem_append,List.mem_cons]at hx ⊢;rcases hx with hx|hx
    ·exact .inr (.inl (.inl hx))
    ·exact .inr (.inr hx)
   ·rcases(p2 b).1 hx with⟨h,_⟩|h
    ·exact Kz h
    ·exact hgy h
   ·intro x;simp only[List.mem_cons];rw[show x∈b1++F0++b2↔_ from p2 x];constructor
    ·rintro(rfl|⟨h1,h2⟩|h1)
     ·exact .inl ⟨.inl rfl,fun hb=>Kz (by simp[hb])⟩
     ·exact .inl ⟨.inr h1,h2⟩
     ·exact .inr h1
    ·rintro(⟨rfl|h1,h2⟩|h1)
     ·exact .inl rfl
     ·exact .inr (.inl ⟨h1,h2⟩)
     ·exact .inr (.inr h1)
   ·exact⟨by simp only[D.Dj,List.getElem?_set_ne (Ne.symm hj)],by simp only[B9,Ho.cells,Ayo]⟩
def Awr(p:List Nat)(u:D)(q:List Nat):Prop:=q.length≤p.length∨u.leaf=true
def Focus(G:Mem)(w:World)(d:D)(s:Rh)(bs:List Nat)(p:List Nat)(u:D)(s':Rh)(D7:List Nat)(m:Ho):Prop:=
 ∀G' w' u' c Qe d',G.le G'→c.length=s'.2.length→u'.isAgg=u.isAgg→A3 G' w' u' c Qe→Qe.Nodup→(∀b∈Qe,b∈D7∨b ∉ bs)→m.new w w' bs D7 s'.2 c→d.put p u'=some d'→
  ∃Cv,A3 G' w' d' (m.cells s.2 c) Cv∧Cv.Nodup∧(∀b,b∈Cv↔(b∈bs∧b ∉ D7)∨b∈Qe)∧d'.isAgg=(if p=[]then u' else d).isAgg∧
   ∀q,Awr p u q→∀v,d.at q=some v→∀t,spot w q d s=some t→∃v' t',d'.at q=some v'∧spot w' q d' (s.1,m.cells s.2 c)=some t'∧t'.1=t.1∧
    (v.head=true→(q.length<p.length∨u.leaf=true)→v'.head=true∧t'.2=t.2)
theorem Beh{d:D}(h:d.leaf=true)(i:Nat):d.Dj i=none:=by
 cases d with
 |it x=>cases x<;>first|rfl|(simp[D.leaf,I.isAgg]at h)
 |_=>cases h
theorem Ahm{G:Mem}{w w':World}:∀{q:List Nat} {d:D} {s:Rh} {bs:List Nat},A3 G w d s.2 bs→bs.Nodup→(∀b∈bs,w'.heap[b]?=w.heap[b]?)→∀v,d.at q=some v→spot w' q d s=spot w q d s
 | [],d,s,bs,_,_,_,_,_=>rfl
 |i::q,d,s,bs,h,hn,hk,v,hv=>by
  simp only[D.at]at hv;cases hy:d.Dj i with
  |none=>simp[hy]at hv
  |some y=>
   simp only[hy]at hv;obtain⟨here,cs⟩:=s;obtain⟨m,s',G3,h1,h2,h3,h4,h5,_⟩:=An7 h hn hy here;have e:B9 w' d (here,cs) i=B9 w d (here,cs) i:=by
    cases d with
    |it x=>cases x<;>rfl
    |st l=>rfl
    |vec e sz l=>
     simp only[A3]at h;rcases h with⟨rfl,rfl,_⟩|⟨g,off,cap,cur,xs,bs0,rfl,_,_,_,_,_,_,_,_,rfl⟩
     ·simp[D.Dj]at hy
     ·simp only[D.Dj]at hy;simp only[B9,hy];rw[hk g (by simp)]
    |ptr d=>
     simp only[A3]at h;obtain⟨b,cells,ty,bs0,rfl,_,_,rfl⟩:=h;cases i with
     |zero=>
      simp only[B9];rw[hk b (by simp)]
     |succ i=>rfl
    |map ks vs=>
     simp only[A3]at h;obtain⟨b,es,clock,kc,vc,bs0,rfl,_,_,_,_,_,_,_,rfl⟩:=h;simp only[B9];rw[hk b (by simp)]
   simp only[spot,hy,e,h1];exact Ahm h2 h3 (fun b hb=>hk b (h4 b hb)) v hv
theorem focus{G:Mem}{w:World}{u:D}:∀{p:List Nat} {d:D} {cs:List Value} {bs:List Nat} {here:Option (Nat × Nat)},A3 G w d cs bs→bs.Nodup→d.at p=some u→
 ∃(m:Ho) (s':Rh) (D7:List Nat),spot w p d (here,cs)=some s'∧A3 G w u s'.2 D7∧D7.Nodup∧(∀b∈D7,b∈bs)∧m.fits w bs D7 (here,cs) s'∧Focus G w d (here,cs) bs p u s' D7 m
 | [],d,cs,bs,here,h,hn,hu=>by
   simp only[D.at,Option.some.injEq]at hu;subst hu;refine⟨.inl [] [],(here,cs),bs,rfl,h,hn,fun _ h=>h,⟨by simp,?_⟩,?_⟩
   ·cases here<;>simp[Mw]
   ·intro G' w' u' c Qe d' hG hc Fg hu' W2 Gh Dw hd;simp only[D.put,Option.some.injEq]at hd;subst hd;refine⟨Qe,by simpa[Ho.cells]using hu',W2,fun b=>⟨fun h=>.inr h,fun h=>?_⟩,rfl,?_⟩
    ·rcases h with⟨h1,h2⟩|h
     ·exact absurd h1 h2
     ·exact h
    ·intro q hq v hv t ht;rcases hq with hq|hq
     ·obtain rfl:q=[]:=List.eq_nil_of_length_eq_zero (by simpa using hq)
      simp only[spot,Option.some.injEq]at ht;simp only[D.at,Option.some.injEq]at hv;subst ht hv;refine⟨_,_,rfl,rfl,rfl,fun hv h=>?_⟩
      rcases h with h|h
      ·simp at h
      ·cases d<;>simp_all [D.leaf,D.head]
     ·cases q with
      |nil=>
       simp only[spot,Option.some.injEq]at ht;simp only[D.at,Option.some.injEq]at hv;subst ht hv;refine⟨_,_,rfl,rfl,rfl,fun hv h=>?_⟩
       cases d<;>simp_all [D.leaf,D.head]
      |cons i q=>
       simp only[D.at,Beh hq i]at hv;cases hv
 |i::p,d,cs,bs,here,h,hn,hu=>by
  simp only[D.at]at hu;cases hy:d.Dj i with
  |none=>simp[hy]at hu
  |some y=>
   simp only[hy]at hu;obtain⟨m1,⟨Bfr,cs1⟩,G3,a1,a2,a3,a4,a5,a6,a7,a8⟩:=An7 h hn hy here;obtain⟨m2,s2,D7,b1,b2,b3,b4,b5,b6⟩:=focus (p:=p) (here:=Bfr) a2 a3 hu
   have Ay7:∀b∈D7,b∈bs:=fun b hb=>a4 b (b4 b hb)
   have Abm:spot w (i::p) d (here,cs)=some s2:=by simp only[spot,hy,a1];exact b1
   obtain⟨m,hm1,hm2⟩:∃m:Ho,m.fits w bs D7 (here,cs) s2∧∀w' c,c.length=s2.2.length→m.new w w' bs D7 s2.2 c→
    m2.new w w' G3 D7 s2.2 c∧m1.new w w' bs G3 cs1 (m2.cells cs1 c)∧m1.cells cs (m2.cells cs1 c)=m.cells cs c∧(m2.cells cs1 c).length=cs1.length∧(∀a b,m= .inl a b→∃a' b',m1= .inl a' b')∧
     (∀b∈bs,b ∉ G3→(∀g pre post ty fz,m1= .Sm g pre post ty fz→b≠g)→w'.heap[b]?=w.heap[b]?):=by
    cases m2 with
    |inl pre post=>
     obtain⟨e1,e2⟩:=b5;simp only at e1 e2;cases m1 with
     |inl U8 Q0=>
      obtain⟨f1,f2⟩:=a5;simp only at f1 f2;refine⟨.inl (U8++pre) (post++Q0),⟨by simp[f1,e1],?_⟩,?_⟩
      ·rw[e2,f2];cases here<;>simp[Mw,Nat.add_assoc]
      ·intro w' c hc Dw;refine⟨fun b hb hu=>Dw b (a4 b hb) hu,fun b hb hu=>Dw b hb fun hh=>hu (b4 b hh),by simp[Ho.cells],?_,fun _ _ _=>⟨_,_,rfl⟩,fun b hb hu _=>Dw b hb fun hh=>hu (b4 b hh)⟩
       rw[e1];simp[Ho.cells,hc]
     |Sm g U8 Q0 ty fz=>
      obtain⟨f1,f2,⟨row,f3,f4,f5⟩,f6⟩:=a5;simp only at f5 f6;refine⟨.Sm g (U8++pre) (post++Q0) ty fz,⟨f1,fun hh=>f2 (b4 g hh),⟨row,f3,f4,by rw[f5,e1];simp⟩,?_⟩,?_⟩
      ·rw[e2,f6];simp[Mw]
      ·intro w' c hc Dw;obtain⟨n1,n2⟩:=Dw;refine⟨fun b hb hu=>n2 b (a4 b hb) hu fun e=>f2 (e ▸ hb),⟨?_,fun b hb hu hg=>n2 b hb (fun hh=>hu (b4 b hh)) hg⟩,rfl,?_,fun _ _ e=>(by cases e),fun b hb hu hg=>n2 b hb (fun hh=>hu (b4 b hh)) (hg g _ _ _ _ rfl)⟩
       ·rw[n1];simp[Ho.cells]
       ·rw[e1];simp[Ho.cells,hc]
     |val=>
      refine⟨.val,?_,?_⟩
      ·show s2.1=none;rw[e2,show Bfr=none from a5];rfl
      ·intro w' c hc Dw;obtain⟨rfl,n2⟩:=Dw;exact⟨fun b hb hu=>n2 b (a4 b hb) hu,⟨e1.symm,fun b hb hu=>n2 b hb fun hh=>hu (b4 b hh)⟩,rfl,by rw[e1];rfl,fun _ _ e=>(by cases e),fun b hb hu _=>n2 b hb fun hh=>hu (b4 b hh)⟩
    |Sm g pre post ty fz=>
     obtain⟨f1,f2,f3,f4⟩:=b5;refine⟨.Sm g pre post ty fz,⟨a4 g f1,f2,f3,f4⟩,?_⟩;intro w' c hc Dw;obtain⟨n1,n2⟩:=Dw;have keep:∀b∈bs,b ∉ G3→w'.heap[b]?=w.heap[b]?:=fun b hb hu=>n2 b hb (fun hh=>hu (b4 b hh)) fun e=>hu (e ▸ f1)
     refine⟨⟨n1,fun b hb hu hg=>n2 b (a4 b hb) hu hg⟩,?_,?_,rfl,fun _ _ e=>(by cases e),fun b hb hu _=>keep b hb hu⟩
     ·cases m1 with
      |inl U8 Q0=>exact keep
      |Sm g1 U8 Q0 ty1 fz1=>
       obtain⟨q1,q2,⟨row,q3,_,q5⟩,_⟩:=a5;refine⟨?_,fun b hb hu _=>keep b hb hu⟩
       rw[keep g1 q1 q2,q3];simp only[Ho.cells];have:row=(U8++cs1++Q0).toArray:=by rw[←q5]
       rw[this]
      |val=>exact⟨rfl,keep⟩
     ·cases m1 with
      |inl U8 Q0=>exact a5.1.symm
      |Sm g1 U8 Q0 ty1 fz1=>rfl
      |val=>rfl
    |val=>
     refine⟨.val,b5,?_⟩;intro w' c hc Dw;obtain⟨rfl,n2⟩:=Dw;have keep:∀b∈bs,b ∉ G3→w'.heap[b]?=w.heap[b]?:=fun b hb hu=>n2 b hb (fun hh=>hu (b4 b hh))
     refine⟨⟨rfl,fun b hb hu=>n2 b (a4 b hb) hu⟩,?_,?_,rfl,fun _ _ e=>(by cases e),fun b hb hu _=>keep b hb hu⟩
     ·cases m1 with
      |inl U8 Q0=>exact keep
      |Sm g1 U8 Q0 ty1 fz1=>
       obtain⟨q1,q2,⟨row,q3,_,q5⟩,_⟩:=a5;refine⟨?_,fun b hb hu _=>keep b hb hu⟩
       rw[keep g1 q1 q2,q3];simp only[Ho.cells];have:row=(U8++cs1++Q0).toArray:=by rw[←q5]
       rw[this]
      |val=>exact⟨rfl,keep⟩
     ·cases m1 with
      |inl U8 Q0=>exact a5.1.symm
      |Sm g1 U8 Q0 ty1 fz1=>rfl
      |val=>rfl
   refine⟨m,s2,D7,Abm,b2,b3,Ay7,hm1,?_⟩;intro G' w' u' c Qe d' hG hc Fg hu' W2 Gh Dw hd;simp only[D.put,hy]at hd;obtain⟨n2,n1,Bk7,Bpf,Bpe,Bk8⟩:=hm2 w' c hc Dw;cases hp:y.put p u' with
   |none=>simp[hp]at hd
   |some y'=>
    simp only[hp]at hd;obtain⟨F0,r1,r2,r3,r4,r5⟩:=b6 G' w' u' c Qe y' hG hc Fg hu' W2 (fun b hb=>(Gh b hb).imp id fun hh hx=>hh (a4 b hx)) n2 hp
    have Bpc:y'.isAgg=y.isAgg:=by
     rw[r4];split
     ·rename_i hp0;subst hp0;simp only[D.at,Option.some.injEq]at hu;rw[Fg,hu]
     ·rfl
    obtain⟨Cv,q1,q2,q3,q4,q5,q6,q7,q8⟩:=a6 G' w' y' _ F0 d' hG Bpf Bpc r1 r2 (fun b hb=>by
     rcases(r3 b).1 hb with⟨h1,_⟩|h1
     ·exact .inl h1
     ·rcases Gh b h1 with h2|h2
      ·exact .inl (b4 b h2)
      ·exact .inr h2) n1 hd
    rw[Bk7]at q1 q7 q8;refine⟨Cv,q1,q2,fun b=>?_,by rw[if_neg (by simp)];exact q4,?_⟩
    ·rw[q3,r3];constructor
     ·rintro(⟨h1,h2⟩|⟨h1,h2⟩|h1)
      ·exact .inl ⟨h1,fun hh=>h2 (b4 b hh)⟩
      ·exact .inl ⟨a4 b h1,h2⟩
      ·exact .inr h1
     ·rintro(⟨h1,h2⟩|h1)
      ·by_cases h3:b∈G3
       ·exact .inr (.inl ⟨h3,h2⟩)
       ·exact .inl ⟨h1,h3⟩
      ·exact .inr (.inr h1)
    ·intro q hq v hv t ht;cases q with
     |nil=>
      simp only[spot,Option.some.injEq]at ht;simp only[D.at,Option.some.injEq]at hv;subst ht hv;refine⟨_,_,rfl,rfl,rfl,fun hh _=>⟨by rw[q5];exact hh,?_⟩⟩
      cases m with
      |inl pre post=>
       obtain⟨a',b',hab⟩:=Bpe _ _ rfl;exact absurd hab (a7 hh a' b')
      |Sm _ _ _ _ _=>rfl
      |val=>rfl
     |cons j q=>
      simp only[D.at]at hv;simp only[spot]at ht;by_cases hj:j=i
      ·subst hj;simp only[hy]at hv;simp only[hy,a1]at ht;obtain⟨v',t',g1,g2,g3,g4⟩:=r5 q (hq.imp (fun h=>by simpa using h) id) v hv t ht
       exact⟨v',t',by simp only[D.at,q6];exact g1,by simp only[spot,q6,q7];exact g2,g3,fun hh hl=>g4 hh (hl.imp (fun h=>by simpa using h) id)⟩
      ·obtain⟨k1,k2⟩:=q8 j hj;cases hz:d.Dj j with
       |none=>simp[hz]at hv
       |some z=>
        simp only[hz]at hv ht;obtain⟨sz,c1,zbs,c2,c3,c4,c5⟩:=a8 j z hj hz;simp only[c1]at ht;have:spot w' q z sz=spot w q z sz:=Ahm c2 c3 (fun b hb=>Bk8 b (c4 b hb).1 (c4 b hb).2 fun g pre post ty fz e hg=>c5 g pre post ty fz e (hg ▸ hb)) v hv
        exact⟨v,t,by simp only[D.at,k1,hz];exact hv,by simp only[spot,k1,hz,k2,c1];rw[this];exact ht,rfl,fun hh _=>⟨hh,rfl⟩⟩
end Go.Ab
