/- Lemmas -/
import Derived.Test.YtkpojedpcabojaaDoorV14
set_option linter.unusedVariables false
set_option linter.unusedSimpArgs false
namespace Go.Ab
theorem Aqb{l:List Hld}{n k:Az}{e:Hld}(hn:n.length<256)(hl:LSo l)(hv:∀h∈l,Lies h.at_)(he:e∈l)(ha:e.at_=B7 n k):Jm (keysOf n l) k=e.vs:=by
 have hs:=Di (n:=n) hl hv;have hm:(⟨k,e.vs⟩:Kv)∈keysOf n l:=List.mem_filterMap.2 ⟨e,he,by unfold G3;rw[ha,Mt hn];simp⟩
 have:∀{ks:List Kv},KSo ks→(⟨k,e.vs⟩:Kv)∈ks→Jm ks k=e.vs:=by
  intro ks;induction ks with
  |nil=>intro _ h;cases h
  |cons x r ih=>
   intro hs hm;obtain⟨s1,s2⟩:=List.pairwise_cons.1 hs;rw[Dv];rcases List.mem_cons.1 hm with rfl|hm
   ·rw[if_pos rfl]
   ·have:=s1 _ hm;dsimp only at this;rw[if_neg (fun q=>by rw[q]at this;exact absurd this (List.lt_irrefl _)),ih s2 hm]
 exact this hs hm
theorem Ard{l:List Hld}{n k:Az}(hv:∀h∈l,Lies h.at_)(h:∀e∈l,e.at_≠B7 n k):Jm (keysOf n l) k=[]:=by
 unfold Jm;rw[List.find?_eq_none.2]
 ·rfl
 ·intro x hx q;simp only[decide_eq_true_eq]at q;obtain⟨e,he,h2,_⟩:=Ch hv hx;rw[q]at h2;exact h e he h2
theorem Akn{l:List Hld}{n k:Az}(hn:n.length<256)(hl:LSo l)(hv:∀h∈l,Lies h.at_):Q1 l (B7 n k)=newK (keysOf n l) k:=by
 cases hf:bsF (Kh (B7 n k)) (eqH (B7 n k)) l with
 |true=>
  obtain⟨e,h2,h3⟩:=Afp hf;rw[Ai4 hf h2];unfold newK A1;rw[Aqb hn hl hv (List.mem_of_getElem? h2) (by simpa[eqH]using h3)]
 |false=>
  rw[show Q1 l (B7 n k)=ver0 from Sto.lastM_no (s:=⟨[],l⟩) hf,Ao1];refine Ard hv fun e he q=>?_
  have hsplit:e∈l.take (Km (Kh (B7 n k)) l)∨e∈l.drop (Km (Kh (B7 n k)) l):=by
   rw[←List.mem_append,List.take_append_drop];exact he
  rcases hsplit with h|h
  ·have:=Aqf hl e h;rw[q]at this;exact absurd this (List.lt_irrefl _)
  ·have:=Ap7 hl hf e h;rw[q]at this;exact absurd this (List.lt_irrefl _)

def sumV(n:Az):List Hld→Int
 | []=>0
 |h::r=>(if(C1 h.at_).1=n then(h.vs.length:Int)else 0)+sumV n r
theorem Ai6(n:Az):∀a b:List Hld,sumV n (a++b)=sumV n a+sumV n b
 | [],b=>by simp[sumV]
 |h::r,b=>by simp only[List.cons_append,sumV,Ai6 n r b];omega
theorem Ak6{n:Az}{h:Hld}:∀{l:List Hld} {p:Nat} {e:Hld},l[p]?=some e→sumV n (l.set p h)=sumV n l - (if(C1 e.at_).1=n then(e.vs.length:Int)else 0)+(if(C1 h.at_).1=n then(h.vs.length:Int)else 0)
 | [],p,e,he=>by simp at he
 |x::r,0,e,he=>by
  simp only[List.getElem?_cons_zero,Option.some.injEq]at he;subst he;simp only[List.set_cons_zero,sumV];omega
 |x::r,p+1,e,he=>by
  simp only[List.getElem?_cons_succ]at he;simp only[List.set_cons_succ,sumV,Ak6 he];omega
theorem Aen{n:Az}{l:List Hld}{a:Az}{v:Ver}:sumV n (putA l a v)=sumV n l+if(C1 a).1=n then 1 else 0:=by
 unfold putA putL;split
 ·rename_i hf;obtain⟨e,h2,h3⟩:=Afp hf;have h4:e.at_=a:=by simpa[eqH]using h3
  rw[Zv h2,Ak6 h2];dsimp only;rw[h4];split
  ·simp only[List.length_append,List.length_singleton];omega
  ·omega
 ·rename_i hf;rw[Ai6]
  conv=>rhs;rw[←List.take_append_drop (Km (Kh a) l) l,Ai6]
  simp only[sumV,List.length_singleton];split<;>omega
theorem Akj{n k:Az}{c:Chg}{x:WSt}(hn:n.length<256)(h:x.t.vers=sumV n x.l):(Dw n k c x).t.vers=sumV n (Dw n k c x).l:=by
 have hw:(C1 (B7 n k)).1=n:=by rw[Mt hn]
 unfold Dw;dsimp only;split
 ·exact h
 ·split
  ·dsimp only;rw[Aen,if_pos hw,h]
  ·split
   ·dsimp only;rw[Aen,if_pos hw,h]
   ·dsimp only;rw[Aen,if_pos hw,h]
theorem Akk{n k n':Az}{c:Chg}{x:WSt}(hn:n.length<256)(h:n'≠n):sumV n' (Dw n k c x).l=sumV n' x.l:=by
 rcases Q7 n k c x with e|⟨v,_,e,_⟩
 ·rw[e]
 ·rw[e,Aen,Mt hn,if_neg (fun q=>h q.symm)];omega
theorem Aib{n:Az}{F:List Chg}(hn:n.length<256):∀{KK:List Az} {x:WSt},x.t.vers=sumV n x.l→(Ge n F KK x).t.vers=sumV n (Ge n F KK x).l∧∀n',n'≠n→sumV n' (Ge n F KK x).l=sumV n' x.l
 | [],x,h=>⟨h,fun _ _=>rfl⟩
 |k::KK,x,h=>by
  obtain⟨a,b⟩:=Aib (F:=F) hn (KK:=KK) (Akj (k:=k) (c:=getF F k) hn h);exact⟨a,fun n' hn'=>(b n' hn').trans (Akk hn hn')⟩
def VInv(s:Sto):Prop:=∀n,(s.tal n).vers=sumV n s.l
theorem VInv.write{m:Nat}{s:Sto}(h:SInv m s)(hc:VInv s)(n:Az)(cs:List Chg):VInv (s.writeM n cs).1:=by
 unfold Sto.writeM;split
 ·exact hc
 ·rename_i i hi;split
  ·exact hc
  ·rename_i F hF;have hn:n.length<256:=by
    obtain⟨_,_,h3⟩:=Sto.fi_some hi;exact h.nm _ (List.mem_of_getElem? h3)
   obtain⟨a,b⟩:=Aib (F:=F) hn (KK:=Dc (F.map Chg.key)) (x:=⟨s.tal n,s.l,false⟩) (hc n);generalize Ge n F (Dc (F.map Chg.key)) ⟨s.tal n,s.l,false⟩=Z at*;intro n';rw[Mi hi];dsimp only at b ⊢;by_cases e:n'=n
   ·subst e;rw[if_pos rfl, ←a];unfold WSt.fin;split<;>rfl
   ·rw[if_neg e,b n' e];exact hc n'
theorem Aku{n:Az}{rev:Int}:∀{l:List Hld} {x:CSt},(Mz n rev l x).c=x.c+sumV n (l.filterMap (Pf n rev))
 | [],x=>by show x.c=x.c+0;omega
 |h::r,x=>by
  unfold Mz;rw[Aku,List.filterMap_cons];unfold Uy Pf;by_cases e:(C1 h.at_).1=n
  ·rw[if_pos e,if_pos e];by_cases g:h.vs.length≤Lm rev h.vs
   ·rw[if_pos g,if_pos g]
   ·rw[if_neg g,if_neg g];dsimp only;simp only[sumV];rw[if_pos e,List.length_drop];omega
  ·rw[if_neg e,if_neg e];dsimp only;simp only[sumV];rw[if_neg e];omega
theorem Ak5{n n':Az}{rev:Int}(hn:n'≠n):∀{l:List Hld},sumV n' (l.filterMap (Pf n rev))=sumV n' l
 | []=>rfl
 |h::r=>by
  rw[List.filterMap_cons];have ih:=Ak5 (rev:=rev) hn (l:=r);by_cases e:(C1 h.at_).1=n
  ·have e2:¬(C1 h.at_).1=n':=fun q=>hn (q.symm.trans e)
   cases hc:Pf n rev h with
   |none=>
    dsimp only;rw[ih];simp only[sumV];rw[if_neg e2,Int.zero_add]
   |some y=>
    obtain⟨a1,k,a2,_⟩:=Agy hc;dsimp only;simp only[sumV];rw[a1,if_neg e2,if_neg e2,Int.zero_add,Int.zero_add,ih]
  ·rw[show Pf n rev h=some h by unfold Pf;rw[if_neg e]]
   dsimp only;simp only[sumV];rw[ih]
theorem VInv.comp{s:Sto}(hc:VInv s)(n:Az)(rev:Int):VInv (s.compM n rev).1:=by
 unfold Sto.compM;split
 ·exact hc
 ·rename_i i hi;split
  ·obtain⟨c1,_⟩:=Ahp (n:=n) (rev:=rev) (l:=s.l) (x:=⟨[],0⟩);have c2:=Aku (n:=n) (rev:=rev) (l:=s.l) (x:=⟨[],0⟩);rw[List.nil_append]at c1;generalize Mz n rev s.l ⟨[],0⟩=Z at*;dsimp only at c2;intro n';rw[Mi hi];dsimp only;rw[c1];by_cases e:n'=n
   ·subst e;rw[if_pos rfl];dsimp only;rw[c2];omega
   ·rw[if_neg e,Ak5 e];exact hc n'
  ·exact hc
theorem VInv.open{s:Sto}(hc:VInv s)(nm:Bool)(n:Az):VInv (s.openM nm n).1:=by
 have h2:=(Ah4 (s:=s) (nm:=nm) (n:=n) (n':=[])).2;intro n';rw[h2,Ah4.1];exact hc n'
set_option maxRecDepth 100000
set_option maxHeartbeats 40000000

open Go.Proofs
theorem VInv.step{m:Nat}{s:Sto}(h:SInv m s)(hc:VInv s)(o:Opn):VInv (s.stepM o):=by
 unfold Sto.stepM;split
 ·exact hc.write h _ _
 ·split
  ·exact hc.comp _ _
  ·split
   ·exact hc.open _ _
   ·exact hc

def spK1(k:Az):Sp:=⟨k,k++[0]⟩
theorem Aj6{k x:Az}:Bw (spK1 k) x↔x=k:=by
 unfold Bw spK1;dsimp only;rw[←Aik (p:=k) (k:=x)];simp
theorem Aqy{k:Az}(hk:k.length≤64):SpR (spK1 k):=
 ⟨by simp[spK1];omega,by simp[spK1];omega,.inr ((Aik (p:=k) (k:=k)).2 rfl).2⟩
theorem Aqc{k:Az}{rev:Int}:∀{ks:List Kv},KSo ks→ks.filterMap (selR (spK1 k) rev)=if(atGo rev (Jm ks k) ver0).gone=true then[]else[⟨k,(atGo rev (Jm ks k) ver0).val,(atGo rev (Jm ks k) ver0).made,(atGo rev (Jm ks k) ver0).rev⟩]
 | [],_=>by
   rw[if_pos (by rfl)];rfl
 |h::r,hs=>by
  obtain⟨s1,s2⟩:=List.pairwise_cons.1 hs;have ih:=Aqc (k:=k) (rev:=rev) s2;rw[List.filterMap_cons,Dv];by_cases e:h.key=k
  ·rw[if_pos e];have hno:r.filterMap (selR (spK1 k) rev)=[]:=by
    rw[List.filterMap_eq_nil_iff];intro x hx;unfold selR;rw[if_neg];rintro⟨_,h2⟩;have h3:x.key=k:=Aj6.1 h2;have h4:=s1 x hx;rw[h3, ←e]at h4;exact absurd h4 (List.lt_irrefl _)
   have hin:Bw (spK1 k) h.key:=by rw[e];exact Aj6.2 rfl
   unfold selR;cases hg:(atGo rev h.vs ver0).gone with
   |true=>
    rw[if_neg (fun c=>by cases c.1)]
    simp only[if_true];exact hno
   |false=>
    rw[if_pos ⟨rfl,hin⟩];simp only[Bool.false_eq_true,if_false];rw[show r.filterMap (fun h=>if(atGo rev h.vs ver0).gone=false∧Bw (spK1 k) h.key then some (⟨h.key,(atGo rev h.vs ver0).val,(atGo rev h.vs ver0).made,(atGo rev h.vs ver0).rev⟩:Pr)else none)=[]from hno,e]
  ·rw[if_neg e, ←ih];have:selR (spK1 k) rev h=none:=by
    unfold selR;rw[if_neg];rintro⟨_,h2⟩;exact e (Aj6.1 h2)
   rw[this]
def Aqr(was:Ver)(k:Az):List Pr:=if was.gone=true then[]else[⟨k,was.val,was.made,was.rev⟩]
theorem An5{m:Nat}{s:Sto}(h:SInv m s){n k:Az}{i:Nat}(hi:s.fi n=some i)(hk:k.length≤64):s.rangeM n (spK1 k) 0 1=(Aqr (Q1 s.l (B7 n k)) k,false,0):=by
 have hn:=h.name hi;have hl:=h.wi.1;have hv:∀h∈s.l,Lies h.at_:=fun x hx=>(h.wi.2 x hx).1
 have hr:=h.rv n;have hR:=Aqy hk;have hks:=Di (n:=n) hl hv;have hat:atGo (s.tal n).rev (Jm (keysOf n s.l) k) ver0=Q1 s.l (B7 n k):=by
  rw[Akn hn hl hv,D7];unfold newK;rw[List.filter_eq_self.2];intro v hv2;have:∃e∈s.l,e.at_=B7 n k∧v∈e.vs:=by
   unfold Jm at hv2;cases hf:(keysOf n s.l).find? (fun h=>decide (h.key=k))with
   |none=>rw[hf]at hv2;cases hv2
   |some x=>
    rw[hf]at hv2;obtain⟨e,he,h1,h2⟩:=Ch hv (List.mem_of_find?_eq_some hf);have h3:x.key=k:=by simpa using List.find?_some hf
    rw[h3]at h1;exact⟨e,he,h1,by rw[h2];exact hv2⟩
  obtain⟨e,he,h1,h2⟩:=this;have h3:=((h.wi.2 e he).2.2 v h2).2;dsimp only at h3;rw[h1,Mt hn]at h3;simpa using h3
 unfold Sto.rangeM;rw[hi];rw[if_neg (by simp),if_neg (Classical.not_not.2 ⟨hR,by omega,by omega,by omega⟩),if_neg (by omega),if_neg (by omega),if_pos rfl,Am9 hn hl hv]
 have:=Ajx (x:=spK1 k) (m:=1) (V:=Lh n (s.tal n).rev s.l) (out:=[]) (by simp)
 rw[show((1:Nat):Int)=(1:Int)from rfl]at this;rw[this];have hvs:=Ape (n:=n) (x:=spK1 k) (rev:=(s.tal n).rev) (l:=s.l) fun x hx=>(h.wi.2 x hx).2.1
 have hlen:((Lh n (s.tal n).rev s.l).filter fun p=>decide (Bw (spK1 k) p.1)).length=((keysOf n s.l).filterMap (selR (spK1 k) (s.tal n).rev)).length:=by rw[←hvs,List.length_map]
 rw[hlen,hvs,Aqc hks,hat];unfold Aqr;split<;>simp

structure Cm where
 key:Az
 what:Int
 rev:Int
 val:Az
 deriving DecidableEq,Inhabited
def Cm.toI(c:Cm):I:=.agg [.str c.key,ti c.what,ti c.rev,.str c.val]
structure Act where
 kind:Int
 x:Sp
 key:Az
 val:Az
 rev:Int
 most:Int
def Act.toI(d:Act):I:=.agg [ti d.kind,d.x.toI,.str d.key,.str d.val,ti d.rev,ti d.most]
structure Ou where
 prs:List Pr
 more:Bool
 cnt:Int
 deriving DecidableEq,Inhabited
def Ou.toI(o:Ou):I:=.agg [.list (o.prs.map Pr.toI),.bool o.more,ti o.cnt]
def Cm.ok(c:Cm):Prop:=(1≤c.key.length∧c.key.length≤64)∧(1≤c.what∧c.what≤4)∧(0≤c.rev∧c.rev≤1099511627776)∧c.val.length≤256
instance(c:Cm):Decidable c.ok:=by unfold Cm.ok;infer_instance
def Act.ok(d:Act):Prop:=if d.kind=1 then SpR d.x∧(0≤d.rev∧d.rev≤1099511627776)∧(0≤d.most∧d.most≤16)else if d.kind=2 then(1≤d.key.length∧d.key.length≤64)∧d.val.length≤256 else d.kind=3∧SpR d.x
instance(d:Act):Decidable d.ok:=by unfold Act.ok;infer_instance
def cmGo:List Cm→Bool
 | []=>true
 |c::r=>if c.ok then cmGo r else false
def Bc:List Act→Bool
 | []=>true
 |d::r=>if d.ok then Bc r else false
theorem Ap5:∀{l:List Cm},cmGo l=true→∀c∈l,c.ok
 | [],_,c,h=>by cases h
 |d::r,h,c,hc=>by
  unfold cmGo at h;split at h
  ·rcases List.mem_cons.1 hc with rfl|hc
   ·assumption
   ·exact Ap5 h c hc
  ·cases h
theorem Ant:∀{l:List Act},Bc l=true→∀c∈l,c.ok
 | [],_,c,h=>by cases h
 |d::r,h,c,hc=>by
  unfold Bc at h;split at h
  ·rcases List.mem_cons.1 hc with rfl|hc
   ·assumption
   ·exact Ant h c hc
  ·cases h
theorem Am1:∀{a b:List Act},Bc (a++b)=(Bc a&&Bc b)
 | [],b=>by simp[Bc]
 |d::a,b=>by
  rw[List.cons_append];show(if d.ok then Bc (a++b)else false)=((if d.ok then Bc a else false)&&Bc b)
  split
  ·exact Am1
  ·rfl
def Cu(ifs:List Cm)(th el:List Act):Bool:=if 4<ifs.length∨8<th.length∨8<el.length then false else if cmGo ifs=true then Bc (th++el)else false
theorem Akt{ifs:List Cm}{th el:List Act}(h:Cu ifs th el=true):(ifs.length≤4∧th.length≤8∧el.length≤8)∧(∀c∈ifs,c.ok)∧∀d∈th++el,d.ok:=by
 unfold Cu at h;split at h
 ·cases h
 ·split at h
  ·exact⟨by omega,Ap5 (by assumption),Ant h⟩
  ·cases h
def Ana(d:Act):Option Sp:=if d.kind=1 then some d.x else none
def Aiy(d:Act):Option Sp:=if d.kind=2 then some (spK1 d.key)else if d.kind=3 then some d.x else none
def C3(ifs:List Cm)(th el:List Act):List Sp:=(ifs.map fun c=>spK1 c.key)++(th++el).filterMap Ana
def B9(th el:List Act):List Sp:=(th++el).filterMap Aiy
def Ed(P:List Pr)(c:Cm):Bool:=match P with
 | []=>if c.what=1 then false else if c.what=2 then true else if c.what=3 then decide (c.rev=0)else false
 |p::_=>if c.what=1 then decide (p.val=c.val)else if c.what=2 then false else if c.what=3 then decide (p.rev=c.rev)else if c.what=4 then decide (p.rev<c.rev)else false
def Sto.nowK(s:Sto)(n k:Az):List Pr:=(s.rangeM n (spK1 k) 0 1).1
def Sto.holdsM(s:Sto)(n:Az):List Cm→Bool
 | []=>true
 |c::r=>if Ed (s.nowK n c.key) c=true then s.holdsM n r else false
def Sto.inX(s:Sto)(n:Az)(x:Sp):List (Az × Ver):=(Lh n (s.tal n).rev s.l).filter fun p=>decide (Bw x p.1)
def Sto.keysX(s:Sto)(n:Az)(x:Sp):List Az:=(s.inX n x).map (·.1)
def Ako(d:Act):Int:=if d.most=0 then 16 else d.most
def Sto.actO(s:Sto)(n:Az)(d:Act):Ou:=if d.kind=1 then⟨(s.rangeM n d.x d.rev (Ako d)).1,(s.rangeM n d.x d.rev (Ako d)).2.1,0⟩else if d.kind=3 then⟨[],false,((s.keysX n d.x).length:Int)⟩else⟨[],false,0⟩
def Sto.actC(s:Sto)(n:Az)(d:Act):List Chg:=if d.kind=2 then[⟨d.key,d.val,false⟩]else if d.kind=3 then(s.keysX n d.x).map fun k=>⟨k,[],true⟩else[]
def Sto.actE(s:Sto)(n:Az)(d:Act):Int:=if d.kind=1 then(s.rangeM n d.x d.rev (Ako d)).2.2 else 0
def Sto.actGo(s:Sto)(n:Az):List Act→List Ou→List Chg→List Ou × List Chg × Int
 | [],o,c=>(o,c,0)
 |d::r,o,c=>if s.actE n d=0 then s.actGo n r (o++[s.actO n d]) (c++s.actC n d)else([],[],s.actE n d)
structure Rn where
 yes:Bool
 outs:List Ou
 chs:List Chg
 e:Int
 deriving DecidableEq
def Sto.runM(s:Sto)(n:Az)(ifs:List Cm)(th el:List Act):Rn:=
 if(s.fi n).isNone=true then⟨false,[],[],16⟩else if Cu ifs th el=false then⟨false,[],[],1⟩else
 if(s.actGo n (if s.holdsM n ifs=true then th else el) [] []).2.2=0 then⟨s.holdsM n ifs,(s.actGo n (if s.holdsM n ifs=true then th else el) [] []).1,(s.actGo n (if s.holdsM n ifs=true then th else el) [] []).2.1,0⟩
 else⟨false,[],[],(s.actGo n (if s.holdsM n ifs=true then th else el) [] []).2.2⟩
structure Now(s:Sto)(n:Az):Prop where
 so:(Lh n (s.tal n).rev s.l).Pairwise fun a b=>a.1<b.1
 k64:∀p∈Lh n (s.tal n).rev s.l,p.1.length≤64
 len:(Lh n (s.tal n).rev s.l).length≤s.l.length
theorem Am7{m:Nat}{s:Sto}(hI:SInv m s)(hC:CInv s)(n:Az):Now s n:=by
 obtain⟨v1,v2,v3,v4⟩:=Amp (n:=n) (R:=(s.tal n).rev) (l:=s.l) (fun h hh=>by
  obtain⟨a1,a2,a3⟩:=hI.wi.2 h hh;refine⟨a1,a2,(hI.lb.held h hh).2.1,fun e v hv=>?_⟩
  have:=(a3 v hv).2;dsimp only at this;rw[e]at this;exact this) hI.wi.1 hC.vk
 exact⟨v3,fun p hp=>(v4 p hp).1.1,List.length_filterMap_le _ _⟩
def H7(x:Sp)(E:List (Az × Ver)):Nat→Az
 |0=>x.f
 |q+1=>match E[q]? with
  |some p=>p.1++[0]
  |none=>x.f
theorem Ajo{x:Sp}{E:List (Az × Ver)}{q:Nat}{p:Az × Ver}(h:E[q]?=some p):H7 x E (q+1)=p.1++[0]:=by simp only[H7,h]
theorem Aqd{k a:Az}:k++[0]≤a↔k<a:=by
 constructor
 ·intro h;have h1:k<k++[0]:=((Aik (p:=k) (k:=k)).2 rfl).2;exact Std.lt_of_lt_of_le h1 h
 ·intro h;exact List.not_lt.1 (Ar6 h)
theorem Aq9{E:List (Az × Ver)}(hs:E.Pairwise fun a b=>a.1<b.1){r:Nat}{p:Az × Ver}(h:E[r]?=some p):E.filter (fun a=>decide (p.1<a.1))=E.drop (r+1):=by
 obtain⟨hr,e⟩:=List.getElem?_eq_some_iff.1 h
 conv=>lhs;rw[←List.take_append_drop (r+1) E]
 rw[List.filter_append,List.filter_eq_nil_iff.2,List.filter_eq_self.2]
 ·rfl
 ·intro a ha;obtain⟨j,hj,rfl⟩:=List.mem_iff_getElem.1 ha;rw[List.length_drop]at hj;rw[List.getElem_drop];have:=List.pairwise_iff_getElem.1 hs r (r+1+j) hr (by omega) (by omega)
  rw[e]at this;simpa using this
 ·intro a ha;obtain⟨j,hj,rfl⟩:=List.mem_iff_getElem.1 ha;rw[List.length_take]at hj;rw[List.getElem_take];simp only[decide_eq_true_eq];by_cases hjr:j=r
  ·subst hjr;rw[e];exact List.lt_irrefl _
  ·have:=List.pairwise_iff_getElem.1 hs j r (by omega) hr (by omega)
   rw[e]at this;exact fun c=>List.lt_irrefl _ (List.lt_trans this c)
theorem Apk{V:List (Az × Ver)}{x:Sp}(hs:V.Pairwise fun a b=>a.1<b.1){q:Nat}(hq:q≤(V.filter fun p=>decide (Bw x p.1)).length):
 V.filter (fun p=>decide (Bw ⟨H7 x (V.filter fun p=>decide (Bw x p.1)) q,x.t⟩ p.1))=(V.filter fun p=>decide (Bw x p.1)).drop q:=by
 cases q with
 |zero=>rfl
 |succ r=>
  obtain⟨p,hp⟩:∃p,(V.filter fun p=>decide (Bw x p.1))[r]?=some p:=⟨_,List.getElem?_eq_getElem (by omega)⟩
  rw[Ajo hp, ←Aq9 (hs.sublist List.filter_sublist) hp,List.filter_filter];have hpx:Bw x p.1:=by
   have:=List.mem_of_getElem? hp;rw[List.mem_filter]at this;simpa using this.2
  refine List.filter_congr fun a _=>?_
  rw[Bool.eq_iff_iff];simp only[decide_eq_true_eq,Bool.and_eq_true];unfold Bw at hpx ⊢;dsimp only;rw[Aqd];constructor
  ·rintro⟨h1,h2⟩;exact⟨h1,Std.le_trans hpx.1 (Std.le_of_lt h1),h2⟩
  ·rintro⟨h1,h2,h3⟩;exact⟨h1,h3⟩
theorem Apn{V:List (Az × Ver)}{x:Sp}(hs:V.Pairwise fun a b=>a.1<b.1)(hk:∀p∈V,p.1.length≤64)(hx:SpR x){q:Nat}(hq:q=0∨q<(V.filter fun p=>decide (Bw x p.1)).length):
 SpR ⟨H7 x (V.filter fun p=>decide (Bw x p.1)) q,x.t⟩:=by
 cases q with
 |zero=>exact hx
 |succ r=>
  have hq:r+1<(V.filter fun p=>decide (Bw x p.1)).length:=by omega
  obtain⟨p,hp⟩:∃p,(V.filter fun p=>decide (Bw x p.1))[r]?=some p:=⟨_,List.getElem?_eq_getElem (by omega)⟩
  obtain⟨p2,hp2⟩:∃p,(V.filter fun p=>decide (Bw x p.1))[r+1]?=some p:=⟨_,List.getElem?_eq_getElem hq⟩
  rw[Ajo hp];have hpm:=List.mem_filter.1 (List.mem_of_getElem? hp);have hpm2:=List.mem_filter.1 (List.mem_of_getElem? hp2);have h64:=hk p hpm.1;have hlt:p.1<p2.1:=by
   obtain⟨a1,a2⟩:=List.getElem?_eq_some_iff.1 hp;obtain⟨b1,b2⟩:=List.getElem?_eq_some_iff.1 hp2;have:=List.pairwise_iff_getElem.1 (hs.sublist (List.filter_sublist (p:=fun p=>decide (Bw x p.1)))) r (r+1) a1 b1 (by omega)
   rw[a2,b2]at this;exact this
  have hin:Bw x p2.1:=by simpa using hpm2.2
  obtain⟨x1,x2,x3⟩:=hx;refine⟨by simp;omega,x2,?_⟩
  rcases hin.2 with h|h
  ·exact .inl h
  ·exact .inr (Std.lt_of_le_of_lt (Aqd.2 hlt) h)
theorem Asc{m:Nat}{s:Sto}(hI:SInv m s)(hC:CInv s){n:Az}(hf:(s.fi n).isSome=true){x:Sp}(hx:SpR x){q:Nat}(hq:q=0∨q<(s.inX n x).length):
 s.rangeM n ⟨H7 x (s.inX n x) q,x.t⟩ 0 16=((((s.inX n x).drop q).take 16).map prOf,decide (16<((s.inX n x).drop q).length),0):=by
 have hN:=Am7 hI hC n;have hr:=hI.rv n;unfold Sto.inX at hq ⊢;rw[Aqt hI hf (Apn hN.so hN.k64 hx hq) ⟨by omega,by omega,.inl rfl⟩ (by omega),if_pos rfl]
 have:=Ajx (x:=⟨H7 x ((Lh n (s.tal n).rev s.l).filter fun p=>decide (Bw x p.1)) q,x.t⟩) (m:=16) (V:=Lh n (s.tal n).rev s.l) (out:=[]) (by simp)
 rw[show((16:Nat):Int)=(16:Int)from rfl]at this;rw[this,Apk hN.so (by omega)]
 simp[List.map_take]

open Go.Proofs
def tot(ls:List (List I)):Nat:=(ls.map List.length).sum
theorem Ap1(ls:List (List I)):ls.flatten.length=tot ls:=by simp[tot,List.length_flatten]
theorem Aj8{ls:List (List I)}{k:Nat}{l:List I}(h:ls[k]?=some l):tot (ls.take (k+1))=tot (ls.take k)+l.length:=by
 rw[List.take_add_one,h];simp[tot]
theorem Ak9{ls:List (List I)}{k:Nat}{l:List I}(h:ls[k]?=some l):(ls.take (k+1)).flatten=(ls.take k).flatten++l:=by
 rw[List.take_add_one,h];simp
theorem Amn(ls:List (List I))(k:Nat):tot (ls.take k)≤tot ls:=by
 have h:tot (ls.take k)+tot (ls.drop k)=tot ls:=by
  simp only[tot];rw[←List.sum_append, ←List.map_append,List.take_append_drop]
 omega
theorem Ao9(ls:List (List I))(hs:∀l∈ls,∀u∈l,u.size=7)(hl:tot ls≤1000000):
 Fn Tryd.prog Cd [.v (.list (ls.map I.list))] (Is (.v (.list ls.flatten)) [.no]):=by
 refine Em ?_ (by simp)
 repeat'((conv=>whnf);first|((with_reducible refine Exists.intro ?_ ?_);focus (and_intros<;>(with_reducible rfl)))|(with_reducible intro hfact))
 all_goals(try(conv=>whnf))
 have hmax:ls.length≤maxLen:=by simpa using hfact
 refine LoopWq.by (X:=Nat) (fun x=>[(3,.v (.int .i64 (tot (ls.take x):Nat))),(11,.v (.int .i64 x))]) (fun x=>x≤ls.length) (fun x=>ls.length - x) 0 (by kernel_rfl) (Nat.zero_le _) ?_
 intro k h1;by_cases hk:k<ls.length
 ·obtain⟨l,he⟩:∃l,ls[k]?=some l:=⟨ls[k],List.getElem?_eq_getElem hk⟩;have hg:(ls.map I.list)[Int.toNat (k:Int)]?=some (.list l):=by simp[he]
  have hlt:¬decide ((k:Int)<((ls.map I.list).length:Int))=false:=by simp[hk]
  have ht1:=Aj8 he;have ht2:=Amn ls (k+1);have hw:IntKind.i64.wrap ((tot (ls.take k):Int)+(l.length:Int))=(tot (ls.take (k+1)):Int):=(Bf (by omega)).trans (by omega)
  have hneg0:¬decide (IntKind.i64.wrap ((tot (ls.take k):Int)+(l.length:Int))<0)=true:=by
   rw[hw,decide_eq_true_eq];omega
  have hneg:¬decide ((tot (ls.take (k+1)):Int)<0)=true:=by
   rw[decide_eq_true_eq];omega
  repeat'((conv=>whnf);first|((with_reducible refine Ax (by(with_reducible exact Bool.of_not_eq_false (by assumption))) (fun hb=>?_));(try rw[hb]);(try simp only[Aa]at hb))|((with_reducible refine Aw (by(with_reducible exact Bool.of_not_eq_true (by assumption))) (fun hb=>?_));(try rw[hb]);(try simp only[Aa]at hb))|((with_reducible refine Exists.intro ?_ ?_);focus (and_intros<;>first|omega|(with_reducible rfl)|kernel_rfl))|(with_reducible intro hfact)|((try dsimp only);rw[hg])|(skip;rw[hw]))
  all_goals(try(conv=>whnf))
  refine Round.by (k+1) ?_ hk ?_
  ·rw[Dk hk hmax];show norm _ _=upd _ _
   kernel_rfl
  ·show ls.length - (k+1)<ls.length - k;omega
 ·have hlt:¬decide ((k:Int)<((ls.map I.list).length:Int))=true:=by simp;omega
  have hall:ls.take k=ls:=List.take_of_length_le (by omega)
  have hgr:=Asa (tot (ls.take k)) (by rw[hall];exact hl)
  repeat'((conv=>whnf);first|((with_reducible refine Aw (by(with_reducible exact Bool.of_not_eq_true (by assumption))) (fun hb=>?_));(try rw[hb]);(try simp only[Aa]at hb))|((with_reducible refine Exists.intro ?_ ?_);focus (and_intros<;>first|omega|(with_reducible rfl)|(intro _ hh;cases hh;done)|(simp;done)|decide))|(with_reducible intro hfact)|((with_reducible refine CallWp.mk ?_);refine⟨_,hgr,?_⟩;rintro _ _ ⟨rfl,rfl⟩))
  all_goals(try(conv=>whnf))
  refine LoopWq.by (X:=Nat) (fun x=>[(6,.vec Ams 7 (ls.take x).flatten),(27,.v (.int .i64 x))]) (fun x=>x≤ls.length) (fun x=>ls.length - x) 0 (by kernel_rfl) (Nat.zero_le _) ?_
  intro k h1;by_cases hk:k<ls.length
  ·obtain⟨l,he⟩:∃l,ls[k]?=some l:=⟨ls[k],List.getElem?_eq_getElem hk⟩;have hg:(ls.map I.list)[Int.toNat (k:Int)]?=some (.list l):=by simp[he]
   have hlt:¬decide ((k:Int)<((ls.map I.list).length:Int))=false:=by simp[hk]
   have ht1:=Aj8 he;have ht2:=Amn ls (k+1);have ht3:=Ap1 (ls.take k);have hb1:((ls.take k).flatten.length+l.length)*88≤140737488355328:=by omega
   have hb2:(ls.take k).flatten.length+l.length≤maxLen:=by simp only[maxLen];omega
   have hb3:∀u∈l,u.size=7:=hs l (List.mem_of_getElem? he);repeat'((conv=>whnf);first|((with_reducible refine Ax (by(with_reducible exact Bool.of_not_eq_false (by assumption))) (fun hb=>?_));(try rw[hb]);(try simp only[Aa]at hb))|((with_reducible refine Exists.intro ?_ ?_);focus (and_intros<;>first|omega|(with_reducible rfl)|kernel_rfl|(simp;done)))|((try dsimp only);rw[hg]))
   all_goals(try(conv=>whnf))
   refine Round.by (k+1) ?_ hk ?_
   ·rw[Dk hk hmax, ←Ak9 he];show norm _ _=upd _ _
    kernel_rfl
   ·show ls.length - (k+1)<ls.length - k;omega
  ·have hlt:¬decide ((k:Int)<((ls.map I.list).length:Int))=true:=by simp;omega
   have hall:ls.take k=ls:=List.take_of_length_le (by omega)
   repeat'((conv=>whnf);first|((with_reducible refine Aw (by(with_reducible exact Bool.of_not_eq_true (by assumption))) (fun hb=>?_));(try rw[hb]);(try simp only[Aa]at hb))|((with_reducible refine Exists.intro ?_ ?_);focus (and_intros<;>first|omega|(with_reducible rfl)|(simp;done))))
   all_goals(try(conv=>whnf))
   exact Done.mk ⟨by rw[hall];rfl,by kernel_rfl⟩ (by kernel_rfl)

open Go.Proofs
theorem Er(l:List Act):∀u∈l.map Act.toI,u.size=7:=fun u hu=>by obtain⟨d,_,rfl⟩:=List.mem_map.1 hu;rfl
theorem Gy(a b:List Act)(h:a.length+b.length≤1000):Fn Tryd.prog Cd [.v (.list [.list (a.map Act.toI),.list (b.map Act.toI)])] (Is (.v (.list ((a++b).map Act.toI))) [.no]):=by
 have:=Ao9 [a.map Act.toI,b.map Act.toI] (fun l hl=>by
  simp only[List.mem_cons,List.not_mem_nil,or_false]at hl;rcases hl with rfl|rfl
  ·exact Er a
  ·exact Er b) (by simp[tot];omega)
 simp only[List.flatten_cons,List.flatten_nil,List.append_nil, ←List.map_append]at this;exact this

open Go.Proofs
theorem An7(k:Az):Fn Tryd.prog Api [.v (.str k)] (Is (.v (.bool (decide (1≤k.length∧k.length≤64)))) [.no]):=by
 refine Ao5 ?_ (by simp)
 repeat'((conv=>whnf);first|((with_reducible refine Ax (by(with_reducible rfl)) (fun hb=>?_));(try rw[hb]);(try simp only[Aa]at hb))|((with_reducible refine Aw (by(with_reducible rfl)) (fun hb=>?_));(try rw[hb]);(try simp only[Aa]at hb))|((with_reducible refine And.intro (fun hb=>?_) (fun hb=>?_))<;>(((try rw[hb]);(try simp only[Aa]at hb))))|((with_reducible refine Exists.intro ?_ ?_);focus (and_intros<;>(with_reducible rfl)))|(with_reducible intro hfact))
 all_goals(try(conv=>whnf))
 all_goals(refine Done.mk ⟨SV.bool_congr ?_,by kernel_rfl⟩ (by kernel_rfl))
 all_goals(simp only[decide_eq_decide,decide_eq_true_eq,decide_eq_false_iff_not,Bool.false_eq]at*;omega)
theorem Amm(k:Az):Fn Tryd.prog An9 [.v (.str k)] (Is (.v (.bool (decide (k.length≤256)))) [.no]):=by
 refine Ank ?_ (by simp)
 repeat'((conv=>whnf);first|((with_reducible refine Exists.intro ?_ ?_);focus (and_intros<;>(with_reducible rfl)))|(with_reducible intro hfact))
 all_goals(try(conv=>whnf))
 all_goals(refine Done.mk ⟨SV.bool_congr ?_,by kernel_rfl⟩ (by kernel_rfl))
 all_goals(simp only[decide_eq_decide];omega)
theorem An8(n:Int):Fn Tryd.prog Apj [.v (ti n)] (Is (.v (.bool (decide (0≤n∧n≤1099511627776)))) [.no]):=by
 refine Ao6 ?_ (by simp)
 repeat'((conv=>whnf);first|((with_reducible refine Ax (by(with_reducible rfl)) (fun hb=>?_));(try rw[hb]);(try simp only[Aa]at hb))|((with_reducible refine Aw (by(with_reducible rfl)) (fun hb=>?_));(try rw[hb]);(try simp only[Aa]at hb))|((with_reducible refine And.intro (fun hb=>?_) (fun hb=>?_))<;>(((try rw[hb]);(try simp only[Aa]at hb)))))
 all_goals(try(conv=>whnf))
 all_goals(refine Done.mk ⟨SV.bool_congr ?_,by kernel_rfl⟩ (by kernel_rfl))
 all_goals(simp only[decide_eq_decide,decide_eq_true_eq,decide_eq_false_iff_not,Bool.false_eq]at*;(try simp at*);omega)
theorem Aga(ifs:List Cm)(th el:List Act)(hl:ifs.length+th.length+el.length≤1000):
 Fn Tryd.prog Aph [.v (.list (ifs.map Cm.toI)),.v (.list (th.map Act.toI)),.v (.list (el.map Act.toI))] (Is (.v (.bool (Cu ifs th el))) [.no,.no,.no]):=by
 refine Ao4 ?_ (by simp)
 unfold Cu;have hl1:(ifs.map Cm.toI).length=ifs.length:=List.length_map _;have hl2:(th.map Act.toI).length=th.length:=List.length_map _;have hl3:(el.map Act.toI).length=el.length:=List.length_map _;by_cases hb:4<ifs.length∨8<th.length∨8<el.length
 ·rw[if_pos hb];repeat'((conv=>whnf);first|((with_reducible refine Ax (by first|((with_reducible refine decide_eq_true ?_);omega)|(with_reducible rfl)) (fun hb=>?_));(try rw[hb]);(try simp only[Aa]at hb))|((with_reducible refine Aw (by(with_reducible rfl)) (fun hb=>?_));(try rw[hb]);(try simp only[Aa]at hb))|((with_reducible refine And.intro (fun hb=>?_) (fun hb=>?_))<;>(((try rw[hb]);(try simp only[Aa]at hb))))|((with_reducible refine Exists.intro ?_ ?_);focus (and_intros<;>(with_reducible rfl)))|(with_reducible intro hfact)|(skip;rw[hl1])|(skip;rw[hl2])|(skip;rw[hl3]))
  all_goals(try(conv=>whnf))
  all_goals first
   |(exfalso;omega)
    |(exact absurd trivial (by assumption))
   |(apply dKq<;>kernel_rfl)
 rw[if_neg hb];obtain⟨RES,hRES⟩:∃R,(if cmGo ifs=true then Bc (th++el)else false)=R:=⟨_,rfl⟩
 rw[hRES];repeat'((conv=>whnf);first|((with_reducible refine Aw (by first|((with_reducible refine decide_eq_false ?_);omega)|(with_reducible rfl)) (fun hb=>?_));(try rw[hb]);(try simp only[Aa]at hb))|((with_reducible refine Exists.intro ?_ ?_);focus (and_intros<;>(with_reducible rfl)))|(with_reducible intro hfact)|((try dsimp only);rw[hl1])|(skip;rw[hl2])|(skip;rw[hl3]))
 all_goals(try(conv=>whnf))
 refine LoopWq.by (X:=Nat) (fun j=>[(26,.v (ti (j:Int)))]) (fun j=>j≤ifs.length∧(if cmGo (ifs.drop j)=true then Bc (th++el)else false)=RES) (fun j=>ifs.length - j) 0 (by kernel_rfl) ⟨Nat.zero_le _,hRES⟩ ?_
 rintro j ⟨hj,hR⟩
 (try dsimp only at hj hR ⊢)
 have hw:IntKind.i64.wrap ((j:Int)+1)=((j+1:Nat):Int):=(Bf (by omega)).trans (by omega)
 by_cases hjl:j<ifs.length
 ·obtain⟨c,hc⟩:∃x,ifs[j]?=some x:=⟨_,List.getElem?_eq_getElem hjl⟩;have h3:¬decide ((j:Int)<(ifs.length:Int))=false:=by simp;omega
  have hdr:ifs.drop j=c::ifs.drop (j+1):=by rw[List.drop_eq_getElem_cons hjl];rw[List.getElem?_eq_getElem hjl]at hc;cases hc;rfl
  rw[hdr]at hR;unfold cmGo at hR;obtain⟨ck,cw,cr,cv⟩:=c;have hk:=An7 ck;have hv:=Amm cv;have hr:=An8 cr;by_cases hok:(Cm.mk ck cw cr cv).ok
  ·rw[if_pos hok]at hR;unfold Cm.ok at hok;dsimp only at hok;rw[decide_eq_true hok.1]at hk;rw[decide_eq_true hok.2.2.1]at hr;rw[decide_eq_true hok.2.2.2]at hv;repeat'((conv=>whnf);first|((with_reducible refine Ax (by(with_reducible exact Bool.of_not_eq_false (by assumption))) (fun hb=>?_));(try rw[hb]);(try simp only[Aa]at hb))|((with_reducible refine Aw (by(with_reducible rfl)) (fun hb=>?_));(try rw[hb]);(try simp only[Aa]at hb))|((with_reducible refine And.intro (fun hb=>?_) (fun hb=>?_))<;>first|(exact absurd hb (by decide))|(exfalso;((simp only[An]at hb<;>omega)))|((try rw[hb]);(try simp only[Aa]at hb)))|((with_reducible refine Exists.intro ?_ ?_);focus (and_intros<;>first|omega|kernel_rfl|(intro _ hh;cases hh;done)|(simp;done)|decide))|((try dsimp only);(rw[B6 hc]))|((with_reducible refine CallWp.mk ?_);refine⟨_,hk,?_⟩;rintro _ _ ⟨rfl,rfl⟩)|((with_reducible refine CallWp.mk ?_);refine⟨_,hv,?_⟩;rintro _ _ ⟨rfl,rfl⟩)|((with_reducible refine CallWp.mk ?_);refine⟨_,hr,?_⟩;rintro _ _ ⟨rfl,rfl⟩)|((try dsimp only);rw[hw]))
   all_goals(try(conv=>whnf))
   all_goals first
    |(exfalso;omega)
    |(exact absurd trivial (by assumption))
    |(refine Round.by (j+1) ?_ ⟨by omega,hR⟩ (by omega)
      try dsimp only
      show norm _ _=upd _ _
      kernel_rfl)
  ·rw[if_neg hok]at hR;have hR:false=RES:=hR;subst hR;unfold Cm.ok at hok;dsimp only at hok;cases h1:decide (1≤ck.length∧ck.length≤64)<;>rw[h1]at hk<;>cases h2:decide (0≤cr∧cr≤1099511627776)<;>rw[h2]at hr<;>cases h4:decide (cv.length≤256)<;>rw[h4]at hv<;>simp only[decide_eq_true_eq,decide_eq_false_iff_not]at h1 h2 h4;all_goals skip
   all_goals(
    repeat'((conv=>whnf);first|((with_reducible refine Ax (by first|(with_reducible exact Bool.of_not_eq_false (by assumption))|(with_reducible rfl)) (fun hb=>?_));(try rw[hb]);(try simp only[Aa]at hb))|((with_reducible refine Aw (by first|(with_reducible assumption)|(with_reducible rfl)) (fun hb=>?_));(try rw[hb]);(try simp only[Aa]at hb))|((with_reducible refine And.intro (fun hb=>?_) (fun hb=>?_))<;>first|(exact absurd hb (by decide))|(exfalso;((simp only[An]at hb<;>omega)))|((try rw[hb]);(try simp only[Aa]at hb)))|((with_reducible refine Exists.intro ?_ ?_);focus (and_intros<;>first|omega|kernel_rfl|(intro _ hh;cases hh;done)|(simp;done)|decide))|((try dsimp only);(rw[B6 hc]))|((with_reducible refine CallWp.mk ?_);refine⟨_,hk,?_⟩;rintro _ _ ⟨rfl,rfl⟩)|((with_reducible refine CallWp.mk ?_);refine⟨_,hv,?_⟩;rintro _ _ ⟨rfl,rfl⟩)|((with_reducible refine CallWp.mk ?_);refine⟨_,hr,?_⟩;rintro _ _ ⟨rfl,rfl⟩))
    all_goals(try(conv=>whnf)))
   all_goals first
    |(exfalso;omega)
    |(exact absurd trivial (by assumption))
    |(apply dKq<;>kernel_rfl)
 have h3:¬decide ((j:Int)<(ifs.length:Int))=true:=by simp;omega
 rw[List.drop_eq_nil_of_le (by omega),show cmGo []=true from rfl,if_pos rfl]at hR
 have hcc:=Gy th el (by omega)
 have hL:((th++el).map Act.toI).length=(th++el).length:=List.length_map _;have hLl:(th++el).length≤1000:=by rw[List.length_append];omega
 clear hRES;generalize hAL:th++el=L at*;repeat'((conv=>whnf);first|((with_reducible refine Aw (by(with_reducible exact Bool.of_not_eq_true (by assumption))) (fun hb=>?_));(try rw[hb]);(try simp only[Aa]at hb))|((with_reducible refine Exists.intro ?_ ?_);focus (and_intros<;>first|(with_reducible rfl)|kernel_rfl|(intro _ hh;cases hh;done)|exact Ah (by rfl)|(simp;done)|decide))|(with_reducible intro hfact)|((with_reducible refine CallWp.mk ?_);refine⟨_,hcc,?_⟩;rintro _ _ ⟨rfl,rfl⟩)|((try dsimp only);rw[hL]))
 all_goals(try(conv=>whnf))
 refine LoopWq.by (X:=Nat) (fun j=>[(62,.v (ti (j:Int)))]) (fun j=>j≤L.length∧Bc (L.drop j)=RES) (fun j=>L.length - j) 0 (by kernel_rfl) ⟨Nat.zero_le _,hR⟩ ?_
 rintro q ⟨hq,hQ⟩
 (try dsimp only at hq hQ ⊢)
 have hwq:IntKind.i64.wrap ((q:Int)+1)=((q+1:Nat):Int):=(Bf (by omega)).trans (by omega)
 by_cases hql:q<L.length
 case neg=>
  have h5:¬decide ((q:Int)<(L.length:Int))=true:=by simp;omega
  rw[List.drop_eq_nil_of_le (by omega)]at hQ
  have hQ:true=RES:=hQ;subst hQ;repeat'((conv=>whnf);((with_reducible refine Aw (by(with_reducible exact Bool.of_not_eq_true (by assumption))) (fun hb=>?_));(try rw[hb]);(try simp only[Aa]at hb)))
  all_goals(try(conv=>whnf))
  (apply dKq<;>kernel_rfl)
 obtain⟨d,hd⟩:∃x,L[q]?=some x:=⟨_,List.getElem?_eq_getElem hql⟩;have h5:¬decide ((q:Int)<(L.length:Int))=false:=by simp;omega
 have hdr:L.drop q=d::L.drop (q+1):=by rw[List.drop_eq_getElem_cons hql];rw[List.getElem?_eq_getElem hql]at hd;cases hd;rfl
 rw[hdr]at hQ;unfold Bc at hQ;obtain⟨dk,dx,dkey,dv,dr,dm⟩:=d;have hk:=An7 dkey;have hv:=Amm dv;have hr:=An8 dr;have hs:=Pu dx;obtain⟨xf,xt⟩:=dx;by_cases hok:(Act.mk dk ⟨xf,xt⟩ dkey dv dr dm).ok
 ·rw[if_pos hok]at hQ;unfold Act.ok at hok;dsimp only at hok;by_cases k1:dk=1
  ·subst k1;rw[if_pos rfl]at hok;rw[decide_eq_true hok.1]at hs;rw[decide_eq_true hok.2.1]at hr;repeat'((conv=>whnf);first|((with_reducible refine Ax (by first|(with_reducible exact Bool.of_not_eq_false (by assumption))|(with_reducible rfl)) (fun hb=>?_));(try rw[hb]);(try simp only[Aa]at hb))|((with_reducible refine And.intro (fun hb=>?_) (fun hb=>?_))<;>first|(exfalso;((simp only[An]at hb<;>omega)))|((try rw[hb]);(try simp only[Aa]at hb)))|((with_reducible refine Exists.intro ?_ ?_);focus (and_intros<;>first|omega|kernel_rfl|(intro _ hh;cases hh;done)|(simp;done)|decide))|((try dsimp only);(rw[B6 hd]))|((with_reducible refine CallWp.mk ?_);refine⟨_,hs,?_⟩;rintro _ _ ⟨rfl,rfl⟩)|((with_reducible refine CallWp.mk ?_);refine⟨_,hr,?_⟩;rintro _ _ ⟨rfl,rfl⟩)|((try dsimp only);rw[hwq]))
   all_goals(try(conv=>whnf))
   all_goals first
    |(exfalso;omega)
    |(exact absurd trivial (by assumption))
    |(refine Round.by (q+1) ?_ ⟨by omega,hQ⟩ (by omega)
      try dsimp only
      show norm _ _=upd _ _
      kernel_rfl)
  ·rw[if_neg k1]at hok;by_cases k2:dk=2
   ·subst k2;rw[if_pos rfl]at hok;rw[decide_eq_true hok.1]at hk;rw[decide_eq_true hok.2]at hv;repeat'((conv=>whnf);first|((with_reducible refine Ax (by first|(with_reducible exact Bool.of_not_eq_false (by assumption))|(with_reducible rfl)) (fun hb=>?_));(try rw[hb]);(try simp only[Aa]at hb))|((with_reducible refine Aw (by first|(with_reducible exact Bool.of_not_eq_true (by assumption))|((with_reducible refine decide_eq_false ?_);(with_reducible assumption))) (fun hb=>?_));(try rw[hb]);(try simp only[Aa]at hb))|((with_reducible refine And.intro (fun hb=>?_) (fun hb=>?_))<;>first|(exfalso;((simp only[An]at hb<;>omega)))|((try rw[hb]);(try simp only[Aa]at hb)))|((with_reducible refine Exists.intro ?_ ?_);focus (and_intros<;>first|omega|kernel_rfl|(intro _ hh;cases hh;done)|(simp;done)|decide))|((try dsimp only);(rw[B6 hd]))|((with_reducible refine CallWp.mk ?_);refine⟨_,hk,?_⟩;rintro _ _ ⟨rfl,rfl⟩)|((with_reducible refine CallWp.mk ?_);refine⟨_,hv,?_⟩;rintro _ _ ⟨rfl,rfl⟩)|((try dsimp only);rw[hwq]))
    all_goals(try(conv=>whnf))
    all_goals first
     |(exact absurd trivial (by assumption))
     |(refine Round.by (q+1) ?_ ⟨by omega,hQ⟩ (by omega)
       try dsimp only
       show norm _ _=upd _ _
       kernel_rfl)
   ·rw[if_neg k2]at hok;obtain⟨k3,hok⟩:=hok;subst k3;rw[decide_eq_true hok]at hs;repeat'((conv=>whnf);first|((with_reducible refine Ax (by first|(with_reducible exact Bool.of_not_eq_false (by assumption))|(with_reducible rfl)) (fun hb=>?_));(try rw[hb]);(try simp only[Aa]at hb))|((with_reducible refine Aw (by first|(with_reducible exact Bool.of_not_eq_true (by assumption))|((with_reducible refine decide_eq_false ?_);(with_reducible assumption))) (fun hb=>?_));(try rw[hb]);(try simp only[Aa]at hb))|((with_reducible refine And.intro (fun hb=>?_) (fun hb=>?_))<;>(((try rw[hb]);(try simp only[Aa]at hb))))|((with_reducible refine Exists.intro ?_ ?_);focus (and_intros<;>first|omega|kernel_rfl|(intro _ hh;cases hh;done)|(simp;done)|decide))|((try dsimp only);(rw[B6 hd]))|((with_reducible refine CallWp.mk ?_);refine⟨_,hs,?_⟩;rintro _ _ ⟨rfl,rfl⟩)|((try dsimp only);rw[hwq]))
    all_goals(try(conv=>whnf))
    all_goals first
     |(exact absurd trivial (by assumption))
     |(refine Round.by (q+1) ?_ ⟨by omega,hQ⟩ (by omega)
       try dsimp only
       show norm _ _=upd _ _
       kernel_rfl)
 ·rw[if_neg hok]at hQ;have hQ:false=RES:=hQ;subst hQ;unfold Act.ok at hok;dsimp only at hok;by_cases k1:dk=1
  ·subst k1;rw[if_pos rfl]at hok;by_cases c1:SpR ⟨xf,xt⟩
   ·rw[decide_eq_true c1]at hs;cases h2:decide (0≤dr∧dr≤1099511627776)<;>rw[h2]at hr<;>simp only[decide_eq_true_eq,decide_eq_false_iff_not]at h2;all_goals skip
    all_goals(
     repeat'((conv=>whnf);first|((with_reducible refine Ax (by first|(with_reducible exact Bool.of_not_eq_false (by assumption))|(with_reducible rfl)) (fun hb=>?_));(try rw[hb]);(try simp only[Aa]at hb))|((with_reducible refine Aw (by(with_reducible assumption)) (fun hb=>?_));(try rw[hb]);(try simp only[Aa]at hb))|((with_reducible refine And.intro (fun hb=>?_) (fun hb=>?_))<;>first|(exfalso;((simp only[An]at hb<;>omega)))|((try rw[hb]);(try simp only[Aa]at hb)))|((with_reducible refine Exists.intro ?_ ?_);focus (and_intros<;>first|omega|kernel_rfl|(intro _ hh;cases hh;done)|(simp;done)|decide))|((try dsimp only);(rw[B6 hd]))|((with_reducible refine CallWp.mk ?_);refine⟨_,hs,?_⟩;rintro _ _ ⟨rfl,rfl⟩)|((with_reducible refine CallWp.mk ?_);refine⟨_,hr,?_⟩;rintro _ _ ⟨rfl,rfl⟩)|((try dsimp only);rw[hwq]))
     all_goals(try(conv=>whnf)))
    all_goals first
     |(exact absurd trivial (by assumption))
     |(exfalso;exact hok ⟨c1,by omega,by omega⟩)
     |(apply dKq<;>kernel_rfl)
   ·rw[decide_eq_false c1]at hs;repeat'((conv=>whnf);first|((with_reducible refine Ax (by(with_reducible exact Bool.of_not_eq_false (by assumption))) (fun hb=>?_));(try rw[hb]);(try simp only[Aa]at hb))|((with_reducible refine Aw (by(with_reducible assumption)) (fun hb=>?_));(try rw[hb]);(try simp only[Aa]at hb))|((with_reducible refine And.intro (fun hb=>?_) (fun hb=>?_))<;>first|(exfalso;((simp only[An]at hb<;>omega)))|((try rw[hb]);(try simp only[Aa]at hb)))|((with_reducible refine Exists.intro ?_ ?_);focus (and_intros<;>first|omega|kernel_rfl|(intro _ hh;cases hh;done)|(simp;done)|decide))|((try dsimp only);(rw[B6 hd]))|((with_reducible refine CallWp.mk ?_);refine⟨_,hs,?_⟩;rintro _ _ ⟨rfl,rfl⟩))
    all_goals(try(conv=>whnf))
    all_goals first
     |(exact absurd trivial (by assumption))
     |(apply dKq<;>kernel_rfl)
  rw[if_neg k1]at hok;have g1:¬decide (dk=1)=true:=by simpa using k1
  by_cases k2:dk=2
  ·subst k2;rw[if_pos rfl]at hok;cases h1:decide (1≤dkey.length∧dkey.length≤64)<;>rw[h1]at hk<;>cases h4:decide (dv.length≤256)<;>rw[h4]at hv<;>simp only[decide_eq_true_eq,decide_eq_false_iff_not]at h1 h4;all_goals skip
   all_goals(
    repeat'((conv=>whnf);first|((with_reducible refine Ax (by first|(with_reducible exact Bool.of_not_eq_false (by assumption))|((with_reducible refine decide_eq_true ?_);omega)|(with_reducible rfl)) (fun hb=>?_));(try rw[hb]);(try simp only[Aa]at hb))|((with_reducible refine Aw (by first|(with_reducible assumption)|(with_reducible exact Bool.of_not_eq_true (by assumption))) (fun hb=>?_));(try rw[hb]);(try simp only[Aa]at hb))|((with_reducible refine And.intro (fun hb=>?_) (fun hb=>?_))<;>first|(exfalso;((simp only[An]at hb<;>omega)))|((try rw[hb]);(try simp only[Aa]at hb)))|((with_reducible refine Exists.intro ?_ ?_);focus (and_intros<;>first|omega|kernel_rfl|(intro _ hh;cases hh;done)|(simp;done)|decide))|((try dsimp only);(rw[B6 hd]))|((with_reducible refine CallWp.mk ?_);refine⟨_,hk,?_⟩;rintro _ _ ⟨rfl,rfl⟩)|((with_reducible refine CallWp.mk ?_);refine⟨_,hv,?_⟩;rintro _ _ ⟨rfl,rfl⟩))
    all_goals(try(conv=>whnf)))
   all_goals first
    |(exact absurd trivial (by assumption))
    |(exfalso;exact hok ⟨h1,h4⟩)
    |(apply dKq<;>kernel_rfl)
  rw[if_neg k2]at hok;have g2:¬decide (dk=2)=true:=by simpa using k2
  by_cases k3:dk=3
  ·subst k3;rw[decide_eq_false (fun c=>hok ⟨rfl,c⟩)]at hs
   repeat'((conv=>whnf);first|((with_reducible refine Ax (by(with_reducible exact Bool.of_not_eq_false (by assumption))) (fun hb=>?_));(try rw[hb]);(try simp only[Aa]at hb))|((with_reducible refine Aw (by first|(with_reducible assumption)|(with_reducible exact Bool.of_not_eq_true (by assumption))) (fun hb=>?_));(try rw[hb]);(try simp only[Aa]at hb))|((with_reducible refine And.intro (fun hb=>?_) (fun hb=>?_))<;>(((try rw[hb]);(try simp only[Aa]at hb))))|((with_reducible refine Exists.intro ?_ ?_);focus (and_intros<;>first|omega|kernel_rfl|(intro _ hh;cases hh;done)|(simp;done)|decide))|((try dsimp only);(rw[B6 hd]))|((with_reducible refine CallWp.mk ?_);refine⟨_,hs,?_⟩;rintro _ _ ⟨rfl,rfl⟩))
   all_goals(try(conv=>whnf))
   all_goals first
    |(exact absurd trivial (by assumption))
    |(apply dKq<;>kernel_rfl)
  have g3:¬decide (dk=3)=true:=by simpa using k3
  repeat'((conv=>whnf);first|((with_reducible refine Ax (by(with_reducible exact Bool.of_not_eq_false (by assumption))) (fun hb=>?_));(try rw[hb]);(try simp only[Aa]at hb))|((with_reducible refine Aw (by first|(with_reducible assumption)|(with_reducible exact Bool.of_not_eq_true (by assumption))) (fun hb=>?_));(try rw[hb]);(try simp only[Aa]at hb))|((with_reducible refine Exists.intro ?_ ?_);focus (and_intros<;>first|omega|kernel_rfl|(simp;done)))|((try dsimp only);(rw[B6 hd])))
  all_goals(try(conv=>whnf))
  all_goals first
   |(exact absurd trivial (by assumption))
   |(apply dKq<;>kernel_rfl)
end Go.Ab
