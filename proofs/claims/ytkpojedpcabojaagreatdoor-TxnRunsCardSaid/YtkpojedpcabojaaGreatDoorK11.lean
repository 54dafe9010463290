/- Lemmas -/
import Derived.Test.YtkpojedpcabojaaGreatDoorY12
set_option linter.unusedVariables false
set_option linter.unusedSimpArgs false
namespace Go.Ab
open Go.Proofs
theorem Bqq{m:Nat}{s:Cn}(h:Akb m s)(hm:m≤80000)(hl:s.sp.length≤8)(hc:Atm s)(n:Az)(cs:List Ef)(hcs:cs.length≤1000):
 Fn Tryz.prog Aqi [rT s.ref,.v (.str n),.v (.list (cs.map Ef.Bx))] (Is (.tup [.i (ti (s.Acg n cs).2.1),.i (ti (s.Acg n cs).2.2)]) [rT (s.Acg n cs).1.ref,.no,.no]):=by
 have hl2:=A8j s;cases hf:s.fi n with
 |none=>
  rw[show s.Acg n cs=(s,0,16)by unfold Cn.Acg;rw[hf]]
  exact Bcv s.ref n _ (by omega) (Bb7 hf)
 |some j=>
  obtain⟨i,h1,h2,h3⟩:=A2q (s:=s) (n:=n) (by rw[hf];rfl)
  cases hF:K6 cs []with
  |none=>
   rw[show s.Acg n cs=(s,0,1)by unfold Cn.Acg;rw[hf];dsimp only;rw[hF]]
   exact Bfc s.ref n cs (by omega) hcs i (s.Ann n) h1 h2 false rfl (by rw[A76 (F:=[]),hF];rfl)
  |some FF=>
   obtain⟨e1,e2,e3⟩:=A9f h hf hF h3;rw[e1,e2,e3];have hk:=(Bdm h hm hc n).2;have hr:=h.rv n;exact Bhi s.ref n cs (by omega) hcs i (s.Ann n) h1 h2 ⟨Kq hk.1 (by omega),fun x hx=>Kq (hk.2 x hx) (by omega)⟩ ⟨by show 0≤(s.Zp n).rev;omega,by show(s.Zp n).rev≤_;omega⟩ true rfl (by rw[A76 (F:=[]),hF];rfl) _ rfl
theorem Br4{m:Nat}{s:Cn}(h:Akb m s)(hm:m≤80000)(hl:s.sp.length≤8)(hc:Atm s)(n:Az)(x:Sp)(rev most:Int):
 Fn Tryz.prog Aq5 [rT s.ref,.v (.str n),.v x.Bx,.v (ti rev),.v (ti most)] (Is (.tup [.i (.list ((s.An4 n x rev most).1.map Pr.Bx)),.i (.bool (s.An4 n x rev most).2.1),.i (ti (s.An4 n x rev most).2.2)]) [rT s.ref,.no,.no,.no,.no]):=by
 have hl2:=A8j s;cases hf:s.fi n with
 |none=>
  rw[show s.An4 n x rev most=([],false,16)by unfold Cn.An4;rw[if_pos (by rw[hf];rfl)]]
  exact Bf8 s.ref n x rev most (by omega) (Bb7 hf)
 |some j=>
  obtain⟨i,h1,h2,h3⟩:=A2q (s:=s) (n:=n) (by rw[hf];rfl)
  rw[Bcm h (by rw[hf];rfl)]
  have hk:=(Bdm h hm hc n).2;exact Bf9 s.ref n x rev most (by omega) i (s.Ann n) h1 h2 (Kq hk.1 (by omega)) fun y hy=>Kq (hk.2 y hy) (by omega)
theorem Bqo{m:Nat}{s:Cn}(h:Akb m s)(hm:m≤80000)(hl:s.sp.length≤8)(hc:Atm s)(n:Az)(rev:Int):
 Fn Tryz.prog Apm [rT s.ref,.v (.str n),.v (ti rev)] (Is (.v (ti (s.Anu n rev).2)) [rT (s.Anu n rev).1.ref,.no,.no]):=by
 have hl2:=A8j s;cases hf:s.fi n with
 |none=>
  rw[show s.Anu n rev=(s,16)by unfold Cn.Anu;rw[hf]]
  exact Be9 s.ref n rev (by omega) (Bb7 hf)
 |some j=>
  obtain⟨i,h1,h2,h3⟩:=A2q (s:=s) (n:=n) (by rw[hf];rfl)
  by_cases he:s.Aw1 n rev=0
  ·rw[Bjb h hf he h3,show(s.Anu n rev).2=0 by unfold Cn.Anu;rw[hf];dsimp only;rw[if_pos he]]
   obtain⟨c1,c2,c3⟩:=Aht he;have hk:=(Bdm h hm hc n).2;exact Bi9 s.ref n rev (by omega) i (s.Ann n) h1 h2 ⟨c1,c2,c3⟩ ⟨Kq hk.1 (by omega),fun x hx=>Kq (hk.2 x hx) (by omega)⟩
  ·rw[show s.Anu n rev=(s,s.Aw1 n rev)by unfold Cn.Anu;rw[hf];dsimp only;rw[if_neg he]]
   exact Bhd s.ref n rev (by omega) i (s.Ann n) h1 h2 he
theorem Bqp{m:Nat}{s:Cn}(h:Akb m s)(hl:s.sp.length≤8)(n:Az):
 Fn Tryz.prog As3 [rT s.ref,.v (.str n)] (Is (.v (ti (s.Aqk (D9 n) n).2)) [rT (s.Aqk (D9 n) n).1.ref,.no]):=by
 have hl2:=A8j s;have:=Bcy s.ref n (by omega)
 rw[Bjc h n]at this;exact this
theorem Axi.step{m:Nat}{s:Cn}(h:Akb m s)(hc:Axi s)(o:Opn):Axi (s.Ay2 o):=by
 unfold Cn.Ay2;split
 ·exact hc.write h _ _
 ·split
  ·exact hc.comp _ _
  ·split
   ·exact hc.open _ _
   ·exact hc

def Arf(k:Az):Sp:=⟨k,k++[0]⟩
theorem Aj6{k x:Az}:Bw (Arf k) x↔x=k:=by
 unfold Bw Arf;dsimp only;rw[←Aik (p:=k) (k:=x)];simp
theorem Aqy{k:Az}(hk:k.length≤64):SpR (Arf k):=
 ⟨by simp[Arf];omega,by simp[Arf];omega,.inr ((Aik (p:=k) (k:=k)).2 rfl).2⟩
theorem Aqc{k:Az}{rev:Int}:∀{ks:List Kv},KSo ks→ks.filterMap (Ax1 (Arf k) rev)=if(Aps rev (Jm ks k) Akw).gone=true then[]else[⟨k,(Aps rev (Jm ks k) Akw).val,(Aps rev (Jm ks k) Akw).made,(Aps rev (Jm ks k) Akw).rev⟩]
 | [],_=>by
   rw[if_pos (by rfl)];rfl
 |h::r,hs=>by
  obtain⟨s1,s2⟩:=Gr.1 hs;have ih:=Aqc (k:=k) (rev:=rev) s2;rw[Fp,Dv];by_cases e:h.key=k
  ·rw[if_pos e];have hno:r.filterMap (Ax1 (Arf k) rev)=[]:=by
    rw[List.filterMap_eq_nil_iff];intro x hx;unfold Ax1;rw[if_neg];rintro⟨_,h2⟩;have h3:x.key=k:=Aj6.1 h2;have h4:=s1 x hx;rw[h3, ←e]at h4;exact absurd h4 (Af9 _)
   have hin:Bw (Arf k) h.key:=by rw[e];exact Aj6.2 rfl
   unfold Ax1;cases hg:(Aps rev h.vs Akw).gone with
   |true=>
    rw[if_neg (fun c=>by cases c.1)]
    simp only[if_true];exact hno
   |false=>
    rw[if_pos ⟨rfl,hin⟩];simp only[Ado,if_false];rw[show r.filterMap (fun h=>if(Aps rev h.vs Akw).gone=false∧Bw (Arf k) h.key then some (⟨h.key,(Aps rev h.vs Akw).val,(Aps rev h.vs Akw).made,(Aps rev h.vs Akw).rev⟩:Pr)else none)=[]from hno,e]
  ·rw[if_neg e, ←ih];have:Ax1 (Arf k) rev h=none:=by
    unfold Ax1;rw[if_neg];rintro⟨_,h2⟩;exact e (Aj6.1 h2)
   rw[this]
def Aqr(was:Fk)(k:Az):List Pr:=if was.gone=true then[]else[⟨k,was.val,was.made,was.rev⟩]
theorem An5{m:Nat}{s:Cn}(h:Akb m s){n k:Az}{i:Nat}(hi:s.fi n=some i)(hk:k.length≤64):s.An4 n (Arf k) 0 1=(Aqr (Q1 s.l (B7 n k)) k,false,0):=by
 have hn:=h.name hi;have hl:=h.wi.1;have hv:∀h∈s.l,Avh h.at_:=fun x hx=>(h.wi.2 x hx).1
 have hr:=h.rv n;have hR:=Aqy hk;have hks:=Di (n:=n) hl hv;have C3:Aps (s.Zp n).rev (Jm (keysOf n s.l) k) Akw=Q1 s.l (B7 n k):=by
  rw[Akn hn hl hv,D7];unfold Asr;rw[List.filter_eq_self.2];intro v hv2;have:∃e∈s.l,e.at_=B7 n k∧v∈e.vs:=by
   unfold Jm at hv2;cases hf:(keysOf n s.l).find? (fun h=>decide (h.key=k))with
   |none=>rw[hf]at hv2;cases hv2
   |some x=>
    rw[hf]at hv2;obtain⟨e,he,h1,h2⟩:=Ch hv (List.mem_of_find?_eq_some hf);have h3:x.key=k:=by simpa using List.find?_some hf
    rw[h3]at h1;exact⟨e,he,h1,by rw[h2];exact hv2⟩
  obtain⟨e,he,h1,h2⟩:=this;have h3:=((h.wi.2 e he).2.2 v h2).2;dsimp only at h3;rw[h1,Mt hn]at h3;simpa using h3
 unfold Cn.An4;rw[hi];rw[if_neg (by simp),if_neg (Classical.not_not.2 ⟨hR,by omega,by omega,by omega⟩),if_neg (by omega),if_neg (by omega),if_pos rfl,Am9 hn hl hv]
 have:=Ajx (x:=Arf k) (m:=1) (V:=Lh n (s.Zp n).rev s.l) (out:=[]) (by simp)
 rw[show((1:Nat):Int)=(1:Int)from rfl]at this;rw[this];have hvs:=Ape (n:=n) (x:=Arf k) (rev:=(s.Zp n).rev) (l:=s.l) fun x hx=>(h.wi.2 x hx).2.1
 have hlen:((Lh n (s.Zp n).rev s.l).filter fun p=>decide (Bw (Arf k) p.1)).length=((keysOf n s.l).filterMap (Ax1 (Arf k) (s.Zp n).rev)).length:=by rw[←hvs,Bh]
 rw[hlen,hvs,Aqc hks,C3];unfold Aqr;split<;>simp

structure Cm where
 key:Az
 A2h:Int
 rev:Int
 val:Az
 deriving DecidableEq,Inhabited
def Cm.Bx(c:Cm):I:=.agg [.str c.key,ti c.A2h,ti c.rev,.str c.val]
structure Act where
 kind:Int
 x:Sp
 key:Az
 val:Az
 rev:Int
 most:Int
def Act.Bx(d:Act):I:=.agg [ti d.kind,d.x.Bx,.str d.key,.str d.val,ti d.rev,ti d.most]
structure Ou where
 prs:List Pr
 more:Bool
 cnt:Int
 deriving DecidableEq,Inhabited
def Ou.Bx(o:Ou):I:=.agg [.list (o.prs.map Pr.Bx),.bool o.more,ti o.cnt]
def Cm.ok(c:Cm):Prop:=(1≤c.key.length∧c.key.length≤64)∧(1≤c.A2h∧c.A2h≤4)∧(0≤c.rev∧c.rev≤1099511627776)∧c.val.length≤256
instance(c:Cm):Decidable c.ok:=by unfold Cm.ok;infer_instance
def Act.ok(d:Act):Prop:=if d.kind=1 then SpR d.x∧(0≤d.rev∧d.rev≤1099511627776)∧(0≤d.most∧d.most≤16)else if d.kind=2 then(1≤d.key.length∧d.key.length≤64)∧d.val.length≤256 else d.kind=3∧SpR d.x
instance(d:Act):Decidable d.ok:=by unfold Act.ok;infer_instance
def A4i:List Cm→Bool
 | []=>true
 |c::r=>if c.ok then A4i r else false
def Bc:List Act→Bool
 | []=>true
 |d::r=>if d.ok then Bc r else false
theorem Ap5:∀{l:List Cm},A4i l=true→∀c∈l,c.ok
 | [],_,c,h=>by cases h
 |d::r,h,c,hc=>by
  unfold A4i at h;split at h
  ·rcases Bg.1 hc with rfl|hc
   ·assumption
   ·exact Ap5 h c hc
  ·cases h
theorem Ant:∀{l:List Act},Bc l=true→∀c∈l,c.ok
 | [],_,c,h=>by cases h
 |d::r,h,c,hc=>by
  unfold Bc at h;split at h
  ·rcases Bg.1 hc with rfl|hc
   ·assumption
   ·exact Ant h c hc
  ·cases h
theorem A85:∀{a b:List Act},Bc (a++b)=(Bc a&&Bc b)
 | [],b=>by simp[Bc]
 |d::a,b=>by
  rw[H3];show(if d.ok then Bc (a++b)else false)=((if d.ok then Bc a else false)&&Bc b)
  split
  ·exact A85
  ·rfl
def Cu(ifs:List Cm)(th el:List Act):Bool:=if 4<ifs.length∨8<th.length∨8<el.length then false else if A4i ifs=true then Bc (th++el)else false
theorem Akt{ifs:List Cm}{th el:List Act}(h:Cu ifs th el=true):(ifs.length≤4∧th.length≤8∧el.length≤8)∧(∀c∈ifs,c.ok)∧∀d∈th++el,d.ok:=by
 unfold Cu at h;split at h
 ·cases h
 ·split at h
  ·exact⟨by omega,Ap5 (by assumption),Ant h⟩
  ·cases h
def Ed(P:List Pr)(c:Cm):Bool:=match P with
 | []=>if c.A2h=1 then false else if c.A2h=2 then true else if c.A2h=3 then decide (c.rev=0)else false
 |p::_=>if c.A2h=1 then decide (p.val=c.val)else if c.A2h=2 then false else if c.A2h=3 then decide (p.rev=c.rev)else if c.A2h=4 then decide (p.rev<c.rev)else false
def Cn.Be4(s:Cn)(n k:Az):List Pr:=(s.An4 n (Arf k) 0 1).1
def Cn.Aqu(s:Cn)(n:Az):List Cm→Bool
 | []=>true
 |c::r=>if Ed (s.Be4 n c.key) c=true then s.Aqu n r else false
def Cn.inX(s:Cn)(n:Az)(x:Sp):List (Az × Fk):=(Lh n (s.Zp n).rev s.l).filter fun p=>decide (Bw x p.1)
def Cn.Avs(s:Cn)(n:Az)(x:Sp):List Az:=(s.inX n x).map (·.1)
def Ako(d:Act):Int:=if d.most=0 then 16 else d.most
def Cn.A0d(s:Cn)(n:Az)(d:Act):Ou:=if d.kind=1 then⟨(s.An4 n d.x d.rev (Ako d)).1,(s.An4 n d.x d.rev (Ako d)).2.1,0⟩else if d.kind=3 then⟨[],false,((s.Avs n d.x).length:Int)⟩else⟨[],false,0⟩
def Cn.Ayo(s:Cn)(n:Az)(d:Act):List Ef:=if d.kind=2 then[⟨d.key,d.val,false⟩]else if d.kind=3 then(s.Avs n d.x).map fun k=>⟨k,[],true⟩else[]
def Cn.A0c(s:Cn)(n:Az)(d:Act):Int:=if d.kind=1 then(s.An4 n d.x d.rev (Ako d)).2.2 else 0
def Cn.Auc(s:Cn)(n:Az):List Act→List Ou→List Ef→List Ou × List Ef × Int
 | [],o,c=>(o,c,0)
 |d::r,o,c=>if s.A0c n d=0 then s.Auc n r (o++[s.A0d n d]) (c++s.Ayo n d)else([],[],s.A0c n d)
structure Rn where
 yes:Bool
 outs:List Ou
 chs:List Ef
 e:Int
 deriving DecidableEq
def Cn.runM(s:Cn)(n:Az)(ifs:List Cm)(th el:List Act):Rn:=
 if(s.fi n).isNone=true then⟨false,[],[],16⟩else if Cu ifs th el=false then⟨false,[],[],1⟩else
 if(s.Auc n (if s.Aqu n ifs=true then th else el) [] []).2.2=0 then⟨s.Aqu n ifs,(s.Auc n (if s.Aqu n ifs=true then th else el) [] []).1,(s.Auc n (if s.Aqu n ifs=true then th else el) [] []).2.1,0⟩
 else⟨false,[],[],(s.Auc n (if s.Aqu n ifs=true then th else el) [] []).2.2⟩
theorem Bae{s:Cn}{n:Az}:∀{l:List Act} {o:List Ou} {c:List Ef},(s.Auc n l o c).2.2=0→(s.Auc n l o c).1=o++l.map (s.A0d n)∧(s.Auc n l o c).2.1=c++(l.map (s.Ayo n)).flatten∧∀d∈l,s.A0c n d=0
 | [],o,c,_=>by simp[Cn.Auc]
 |d::r,o,c,h=>by
  unfold Cn.Auc at h ⊢;split
  ·rename_i e;rw[if_pos e]at h;obtain⟨a1,a2,a3⟩:=Bae h;rw[a1,a2];refine⟨by simp,by simp,fun x hx=>?_⟩
   rcases Bg.1 hx with rfl|hx
   ·exact e
   ·exact a3 x hx
  ·rename_i e;rw[if_neg e]at h;exact absurd h e
structure Now(s:Cn)(n:Az):Prop where
 so:(Lh n (s.Zp n).rev s.l).Pairwise fun a b=>a.1<b.1
 k64:∀p∈Lh n (s.Zp n).rev s.l,p.1.length≤64
 len:(Lh n (s.Zp n).rev s.l).length≤s.l.length
theorem Am7{m:Nat}{s:Cn}(hI:Akb m s)(hC:Atm s)(n:Az):Now s n:=by
 obtain⟨v1,v2,v3,v4⟩:=Amp (n:=n) (R:=(s.Zp n).rev) (l:=s.l) (fun h hh=>by
  obtain⟨a1,a2,a3⟩:=hI.wi.2 h hh;refine⟨a1,a2,(hI.lb.held h hh).2.1,fun e v hv=>?_⟩
  have:=(a3 v hv).2;dsimp only at this;rw[e]at this;exact this) hI.wi.1 hC.vk
 exact⟨v3,fun p hp=>(v4 p hp).1.1,Anb _ _⟩
def H7(x:Sp)(E:List (Az × Fk)):Nat→Az
 |0=>x.f
 |q+1=>match E[q]? with
  |some p=>p.1++[0]
  |none=>x.f
theorem Ajo{x:Sp}{E:List (Az × Fk)}{q:Nat}{p:Az × Fk}(h:E[q]?=some p):H7 x E (q+1)=p.1++[0]:=by simp only[H7,h]
theorem Aqd{k a:Az}:k++[0]≤a↔k<a:=by
 constructor
 ·intro h;have h1:k<k++[0]:=((Aik (p:=k) (k:=k)).2 rfl).2;exact Std.lt_of_lt_of_le h1 h
 ·intro h;exact List.not_lt.1 (Ar6 h)
theorem Aq9{E:List (Az × Fk)}(hs:E.Pairwise fun a b=>a.1<b.1){r:Nat}{p:Az × Fk}(h:E[r]?=some p):E.filter (fun a=>decide (p.1<a.1))=E.drop (r+1):=by
 obtain⟨hr,e⟩:=A7.1 h
 conv=>lhs;rw[←Fj (r+1) E]
 rw[List.filter_append,List.filter_eq_nil_iff.2,List.filter_eq_self.2]
 ·rfl
 ·intro a ha;obtain⟨j,hj,rfl⟩:=Akp.1 ha;rw[Ei]at hj;rw[List.getElem_drop];have:=Ak2.1 hs r (r+1+j) hr (by omega) (by omega)
  rw[e]at this;simpa using this
 ·intro a ha;obtain⟨j,hj,rfl⟩:=Akp.1 ha;rw[Hg]at hj;rw[List.getElem_take];simp only[decide_eq_true_eq];by_cases hjr:j=r
  ·subst hjr;rw[e];exact Af9 _
  ·have:=Ak2.1 hs j r (by omega) hr (by omega)
   rw[e]at this;exact fun c=>Af9 _ (Amg this c)
theorem Apk{V:List (Az × Fk)}{x:Sp}(hs:V.Pairwise fun a b=>a.1<b.1){q:Nat}(hq:q≤(V.filter fun p=>decide (Bw x p.1)).length):
 V.filter (fun p=>decide (Bw ⟨H7 x (V.filter fun p=>decide (Bw x p.1)) q,x.t⟩ p.1))=(V.filter fun p=>decide (Bw x p.1)).drop q:=by
 cases q with
 |zero=>rfl
 |succ r=>
  obtain⟨p,hp⟩:∃p,(V.filter fun p=>decide (Bw x p.1))[r]?=some p:=⟨_,Ae (by omega)⟩
  rw[Ajo hp, ←Aq9 (hs.sublist List.filter_sublist) hp,List.filter_filter];have hpx:Bw x p.1:=by
   have:=Cb hp;rw[Ajh]at this;simpa using this.2
  refine List.filter_congr fun a _=>?_
  rw[Bool.eq_iff_iff];simp only[decide_eq_true_eq,Ap];unfold Bw at hpx ⊢;dsimp only;rw[Aqd];constructor
  ·rintro⟨h1,h2⟩;exact⟨h1,Std.le_trans hpx.1 (Std.le_of_lt h1),h2⟩
  ·rintro⟨h1,h2,h3⟩;exact⟨h1,h3⟩
theorem Apn{V:List (Az × Fk)}{x:Sp}(hs:V.Pairwise fun a b=>a.1<b.1)(hk:∀p∈V,p.1.length≤64)(hx:SpR x){q:Nat}(hq:q=0∨q<(V.filter fun p=>decide (Bw x p.1)).length):
 SpR ⟨H7 x (V.filter fun p=>decide (Bw x p.1)) q,x.t⟩:=by
 cases q with
 |zero=>exact hx
 |succ r=>
  have hq:r+1<(V.filter fun p=>decide (Bw x p.1)).length:=by omega
  obtain⟨p,hp⟩:∃p,(V.filter fun p=>decide (Bw x p.1))[r]?=some p:=⟨_,Ae (by omega)⟩
  obtain⟨p2,hp2⟩:∃p,(V.filter fun p=>decide (Bw x p.1))[r+1]?=some p:=⟨_,Ae hq⟩
  rw[Ajo hp];have hpm:=Ajh.1 (Cb hp);have Bua:=Ajh.1 (Cb hp2);have h64:=hk p hpm.1;have Ze:p.1<p2.1:=by
   obtain⟨a1,a2⟩:=A7.1 hp;obtain⟨b1,b2⟩:=A7.1 hp2;have:=Ak2.1 (hs.sublist (List.filter_sublist (p:=fun p=>decide (Bw x p.1)))) r (r+1) a1 b1 (by omega)
   rw[a2,b2]at this;exact this
  have hin:Bw x p2.1:=by simpa using Bua.2
  obtain⟨x1,x2,x3⟩:=hx;refine⟨by simp;omega,x2,?_⟩
  rcases hin.2 with h|h
  ·exact .inl h
  ·exact .inr (Std.lt_of_le_of_lt (Aqd.2 Ze) h)
theorem Asc{m:Nat}{s:Cn}(hI:Akb m s)(hC:Atm s){n:Az}(hf:(s.fi n).isSome=true){x:Sp}(hx:SpR x){q:Nat}(hq:q=0∨q<(s.inX n x).length):
 s.An4 n ⟨H7 x (s.inX n x) q,x.t⟩ 0 16=((((s.inX n x).drop q).take 16).map Ayx,decide (16<((s.inX n x).drop q).length),0):=by
 have hN:=Am7 hI hC n;have hr:=hI.rv n;unfold Cn.inX at hq ⊢;rw[Aqt hI hf (Apn hN.so hN.k64 hx hq) ⟨by omega,by omega,.inl rfl⟩ (by omega),if_pos rfl]
 have:=Ajx (x:=⟨H7 x ((Lh n (s.Zp n).rev s.l).filter fun p=>decide (Bw x p.1)) q,x.t⟩) (m:=16) (V:=Lh n (s.Zp n).rev s.l) (out:=[]) (by simp)
 rw[show((16:Nat):Int)=(16:Int)from rfl]at this;rw[this,Apk hN.so (by omega)]
 simp[List.map_take]
set_option maxRecDepth 100000
set_option maxHeartbeats 40000000

open Go.Proofs
def tot(ls:List (List I)):Nat:=(ls.map List.length).sum
theorem Ap1(ls:List (List I)):ls.flatten.length=tot ls:=by simp[tot,List.length_flatten]
theorem Aj8{ls:List (List I)}{k:Nat}{l:List I}(h:ls[k]?=some l):tot (ls.take (k+1))=tot (ls.take k)+l.length:=by
 rw[Amx,h];simp[tot]
theorem Ak9{ls:List (List I)}{k:Nat}{l:List I}(h:ls[k]?=some l):(ls.take (k+1)).flatten=(ls.take k).flatten++l:=by
 rw[Amx,h];simp
theorem Amn(ls:List (List I))(k:Nat):tot (ls.take k)≤tot ls:=by
 have h:tot (ls.take k)+tot (ls.drop k)=tot ls:=by
  simp only[tot];rw[←List.sum_append, ←F5,Fj]
 omega
theorem Ao9(ls:List (List I))(hs:∀l∈ls,∀u∈l,u.size=7)(hl:tot ls≤1000000):
 Fn Tryz.prog Cd [.v (.list (ls.map I.list))] (Is (.v (.list ls.flatten)) [.no]):=by
 refine Em ?_ (by simp)
 repeat'((conv=>whnf);first|(with_reducible refine Ac ?_ ?_);focus (and_intros<;>(with_reducible rfl))|with_reducible intro Cq)
 all_goals(try(conv=>whnf))
 have A1r:ls.length≤maxLen:=by simpa using Cq
 refine Afm.by (X:=Nat) (fun x=>[(3,.v (.int .i64 (tot (ls.take x):Nat))),(11,.v (.int .i64 x))]) (fun x=>x≤ls.length) (fun x=>ls.length - x) 0 (by kernel_rfl) (Cr _) ?_
 intro k h1;by_cases hk:k<ls.length
 ·obtain⟨l,he⟩:∃l,ls[k]?=some l:=⟨ls[k],Ae hk⟩;have hg:(ls.map I.list)[Int.toNat (k:Int)]?=some (.list l):=by simp[he]
  have Ze:¬decide ((k:Int)<((ls.map I.list).length:Int))=false:=by simp[hk]
  have ht1:=Aj8 he;have ht2:=Amn ls (k+1);have hw:IntKind.i64.wrap ((tot (ls.take k):Int)+(l.length:Int))=(tot (ls.take (k+1)):Int):=(Bf (by omega)).trans (by omega)
  have Byv:¬decide (IntKind.i64.wrap ((tot (ls.take k):Int)+(l.length:Int))<0)=true:=by
   rw[hw,decide_eq_true_eq];omega
  have Bzc:¬decide ((tot (ls.take (k+1)):Int)<0)=true:=by
   rw[decide_eq_true_eq];omega
  repeat'((conv=>whnf);first|(with_reducible first|refine Ax (by exact Ai (by assumption)) fun hb=>?_|refine Aw (by exact Ak (by assumption)) fun hb=>?_);(try rw[hb]);try simp only[Aa]at hb|(with_reducible refine Ac ?_ ?_);focus (and_intros<;>first|omega|with_reducible rfl|kernel_rfl)|with_reducible intro Cq|(try dsimp only);rw[hg]|skip;rw[hw])
  all_goals(try(conv=>whnf))
  refine Round.by (k+1) ?_ hk ?_
  ·rw[Dk hk A1r];show norm _ _=Cx _ _
   kernel_rfl
  ·show ls.length - (k+1)<ls.length - k;omega
 ·have Ze:¬decide ((k:Int)<((ls.map I.list).length:Int))=true:=by simp;omega
  have Anw:ls.take k=ls:=Am2 (by omega)
  have hgr:=Asa (tot (ls.take k)) (by rw[Anw];exact hl)
  repeat'((conv=>whnf);first|(with_reducible refine Aw (by exact Ak (by assumption)) fun hb=>?_);(try rw[hb]);try simp only[Aa]at hb|(with_reducible refine Ac ?_ ?_);focus (and_intros<;>first|omega|with_reducible rfl|intro _ hh;cases hh;done|simp;done|decide)|with_reducible intro Cq|(with_reducible refine Ct.mk ?_);refine⟨_,hgr,?_⟩;rintro _ _ ⟨rfl,rfl⟩)
  all_goals(try(conv=>whnf))
  refine Afm.by (X:=Nat) (fun x=>[(6,.vec Ams 7 (ls.take x).flatten),(27,.v (.int .i64 x))]) (fun x=>x≤ls.length) (fun x=>ls.length - x) 0 (by kernel_rfl) (Cr _) ?_
  intro k h1;by_cases hk:k<ls.length
  ·obtain⟨l,he⟩:∃l,ls[k]?=some l:=⟨ls[k],Ae hk⟩;have hg:(ls.map I.list)[Int.toNat (k:Int)]?=some (.list l):=by simp[he]
   have Ze:¬decide ((k:Int)<((ls.map I.list).length:Int))=false:=by simp[hk]
   have ht1:=Aj8 he;have ht2:=Amn ls (k+1);have ht3:=Ap1 (ls.take k);have hb1:((ls.take k).flatten.length+l.length)*88≤140737488355328:=by omega
   have hb2:(ls.take k).flatten.length+l.length≤maxLen:=by simp only[maxLen];omega
   have hb3:∀u∈l,u.size=7:=hs l (Cb he);repeat'((conv=>whnf);first|(with_reducible refine Ax (by exact Ai (by assumption)) fun hb=>?_);(try rw[hb]);try simp only[Aa]at hb|(with_reducible refine Ac ?_ ?_);focus (and_intros<;>first|omega|with_reducible rfl|kernel_rfl|simp;done)|(try dsimp only);rw[hg])
   all_goals(try(conv=>whnf))
   refine Round.by (k+1) ?_ hk ?_
   ·rw[Dk hk A1r, ←Ak9 he];show norm _ _=Cx _ _
    kernel_rfl
   ·show ls.length - (k+1)<ls.length - k;omega
  ·have Ze:¬decide ((k:Int)<((ls.map I.list).length:Int))=true:=by simp;omega
   have Anw:ls.take k=ls:=Am2 (by omega)
   repeat'((conv=>whnf);first|(with_reducible refine Aw (by exact Ak (by assumption)) fun hb=>?_);(try rw[hb]);try simp only[Aa]at hb|(with_reducible refine Ac ?_ ?_);focus (and_intros<;>first|omega|with_reducible rfl|simp;done))
   all_goals(try(conv=>whnf))
   exact Am1.mk ⟨by rw[Anw];rfl,by kernel_rfl⟩ (by kernel_rfl)

open Go.Proofs
theorem Er(l:List Act):∀u∈l.map Act.Bx,u.size=7:=fun u hu=>by obtain⟨d,_,rfl⟩:=X4.1 hu;rfl
theorem Gy(a b:List Act)(h:a.length+b.length≤1000):Fn Tryz.prog Cd [.v (.list [.list (a.map Act.Bx),.list (b.map Act.Bx)])] (Is (.v (.list ((a++b).map Act.Bx))) [.no]):=by
 have:=Ao9 [a.map Act.Bx,b.map Act.Bx] (fun l hl=>by
  simp only[Bg,Dg,or_false]at hl;rcases hl with rfl|rfl
  ·exact Er a
  ·exact Er b) (by simp[tot];omega)
 simp only[List.flatten_cons,List.flatten_nil,R2, ←F5]at this;exact this

open Go.Proofs
theorem An7(k:Az):Fn Tryz.prog Api [.v (.str k)] (Is (.v (.bool (decide (1≤k.length∧k.length≤64)))) [.no]):=by
 refine Ao5 ?_ (by simp)
 repeat'((conv=>whnf);first|(with_reducible first|refine Ax (by rfl) fun hb=>?_|refine Aw (by rfl) fun hb=>?_);(try rw[hb]);try simp only[Aa]at hb|(with_reducible refine A5 (fun hb=>?_) fun hb=>?_)<;>(((try rw[hb]);(try simp only[Aa]at hb)))|(with_reducible refine Ac ?_ ?_);focus (and_intros<;>(with_reducible rfl))|with_reducible intro Cq)
 all_goals(try(conv=>whnf))
 all_goals(refine Am1.mk ⟨SV.Aju ?_,by kernel_rfl⟩ (by kernel_rfl))
 all_goals(simp only[decide_eq_decide,decide_eq_true_eq,decide_eq_false_iff_not,Bool.false_eq]at*;omega)
theorem Amm(k:Az):Fn Tryz.prog An9 [.v (.str k)] (Is (.v (.bool (decide (k.length≤256)))) [.no]):=by
 refine Ank ?_ (by simp)
 repeat'((conv=>whnf);first|(with_reducible refine Ac ?_ ?_);focus (and_intros<;>(with_reducible rfl))|with_reducible intro Cq)
 all_goals(try(conv=>whnf))
 all_goals(refine Am1.mk ⟨SV.Aju ?_,by kernel_rfl⟩ (by kernel_rfl))
 all_goals(simp only[decide_eq_decide];omega)
theorem An8(n:Int):Fn Tryz.prog Apj [.v (ti n)] (Is (.v (.bool (decide (0≤n∧n≤1099511627776)))) [.no]):=by
 refine Ao6 ?_ (by simp)
 repeat'((conv=>whnf);first|(with_reducible first|refine Ax (by rfl) fun hb=>?_|refine Aw (by rfl) fun hb=>?_);(try rw[hb]);try simp only[Aa]at hb|(with_reducible refine A5 (fun hb=>?_) fun hb=>?_)<;>(((try rw[hb]);(try simp only[Aa]at hb))))
 all_goals(try(conv=>whnf))
 all_goals(refine Am1.mk ⟨SV.Aju ?_,by kernel_rfl⟩ (by kernel_rfl))
 all_goals(simp only[decide_eq_decide,decide_eq_true_eq,decide_eq_false_iff_not,Bool.false_eq]at*;(try simp at*);omega)
theorem Aga(ifs:List Cm)(th el:List Act)(hl:ifs.length+th.length+el.length≤1000):
 Fn Tryz.prog Aph [.v (.list (ifs.map Cm.Bx)),.v (.list (th.map Act.Bx)),.v (.list (el.map Act.Bx))] (Is (.v (.bool (Cu ifs th el))) [.no,.no,.no]):=by
 refine Ao4 ?_ (by simp)
 unfold Cu;have hl1:(ifs.map Cm.Bx).length=ifs.length:=Bh _;have hl2:(th.map Act.Bx).length=th.length:=Bh _;have hl3:(el.map Act.Bx).length=el.length:=Bh _;by_cases hb:4<ifs.length∨8<th.length∨8<el.length
 ·rw[if_pos hb];repeat'((conv=>whnf);first|(with_reducible first|refine Ax (by first|refine decide_eq_true ?_;omega|rfl) fun hb=>?_|refine Aw (by rfl) fun hb=>?_);(try rw[hb]);try simp only[Aa]at hb|(with_reducible refine A5 (fun hb=>?_) fun hb=>?_)<;>(((try rw[hb]);(try simp only[Aa]at hb)))|(with_reducible refine Ac ?_ ?_);focus (and_intros<;>(with_reducible rfl))|with_reducible intro Cq|skip;rw[hl1]|skip;rw[hl2]|skip;rw[hl3])
  all_goals(try(conv=>whnf))
  all_goals first
   |(exfalso;omega)
    |(exact absurd trivial (by assumption))
   |(apply Dj<;>kernel_rfl)
 rw[if_neg hb];obtain⟨C4,Ajz⟩:∃R,(if A4i ifs=true then Bc (th++el)else false)=R:=⟨_,rfl⟩
 rw[Ajz];repeat'((conv=>whnf);first|(with_reducible refine Aw (by first|refine decide_eq_false ?_;omega|rfl) fun hb=>?_);(try rw[hb]);try simp only[Aa]at hb|(with_reducible refine Ac ?_ ?_);focus (and_intros<;>(with_reducible rfl))|with_reducible intro Cq|(try dsimp only);rw[hl1]|skip;rw[hl2]|skip;rw[hl3])
 all_goals(try(conv=>whnf))
 refine Afm.by (X:=Nat) (fun j=>[(26,.v (ti (j:Int)))]) (fun j=>j≤ifs.length∧(if A4i (ifs.drop j)=true then Bc (th++el)else false)=C4) (fun j=>ifs.length - j) 0 (by kernel_rfl) ⟨Cr _,Ajz⟩ ?_
 rintro j ⟨hj,hR⟩
 (try dsimp only at hj hR ⊢)
 have hw:=zwj (j:=j) (by omega)
 by_cases hjl:j<ifs.length
 ·obtain⟨c,hc⟩:∃x,ifs[j]?=some x:=⟨_,Ae hjl⟩;have h3:¬decide ((j:Int)<(ifs.length:Int))=false:=by simp;omega
  have hdr:ifs.drop j=c::ifs.drop (j+1):=by rw[Cc hjl];rw[Ae hjl]at hc;cases hc;rfl
  rw[hdr]at hR;unfold A4i at hR;obtain⟨ck,cw,cr,cv⟩:=c;have hk:=An7 ck;have hv:=Amm cv;have hr:=An8 cr;by_cases H2:(Cm.mk ck cw cr cv).ok
  ·rw[if_pos H2]at hR;unfold Cm.ok at H2;dsimp only at H2;rw[decide_eq_true H2.1]at hk;rw[decide_eq_true H2.2.2.1]at hr;rw[decide_eq_true H2.2.2.2]at hv;repeat'((conv=>whnf);first|(with_reducible first|refine Ax (by exact Ai (by assumption)) fun hb=>?_|refine Aw (by rfl) fun hb=>?_);(try rw[hb]);try simp only[Aa]at hb|((with_reducible refine A5 (fun hb=>?_) fun hb=>?_)<;>first|exact absurd hb (by decide)|exfalso;((simp only[An]at hb<;>omega))|(try rw[hb]);try simp only[Aa]at hb)|(with_reducible refine Ac ?_ ?_);focus (and_intros<;>first|omega|kernel_rfl|intro _ hh;cases hh;done|simp;done|decide)|(try dsimp only);rw[B6 hc]|(with_reducible refine Ct.mk ?_);(first|refine⟨_,hk,?_⟩|refine⟨_,hv,?_⟩|refine⟨_,hr,?_⟩);rintro _ _ ⟨rfl,rfl⟩|(try dsimp only);rw[hw])
   all_goals(try(conv=>whnf))
   all_goals first
    |(exfalso;omega)
    |(exact absurd trivial (by assumption))
    |(refine Round.by (j+1) ?_ ⟨by omega,hR⟩ (by omega)
      try dsimp only
      show norm _ _=Cx _ _
      kernel_rfl)
  ·rw[if_neg H2]at hR;have hR:false=C4:=hR;subst hR;unfold Cm.ok at H2;dsimp only at H2;cases h1:decide (1≤ck.length∧ck.length≤64)<;>rw[h1]at hk<;>cases h2:decide (0≤cr∧cr≤1099511627776)<;>rw[h2]at hr<;>cases h4:decide (cv.length≤256)<;>rw[h4]at hv<;>simp only[decide_eq_true_eq,decide_eq_false_iff_not]at h1 h2 h4;all_goals skip
   all_goals(
    repeat'((conv=>whnf);first|(with_reducible first|refine Ax (by first|exact Ai (by assumption)|rfl) fun hb=>?_|refine Aw (by first|assumption|rfl) fun hb=>?_);(try rw[hb]);try simp only[Aa]at hb|((with_reducible refine A5 (fun hb=>?_) fun hb=>?_)<;>first|exact absurd hb (by decide)|exfalso;((simp only[An]at hb<;>omega))|(try rw[hb]);try simp only[Aa]at hb)|(with_reducible refine Ac ?_ ?_);focus (and_intros<;>first|omega|kernel_rfl|intro _ hh;cases hh;done|simp;done|decide)|(try dsimp only);rw[B6 hc]|(with_reducible refine Ct.mk ?_);(first|refine⟨_,hk,?_⟩|refine⟨_,hv,?_⟩|refine⟨_,hr,?_⟩);rintro _ _ ⟨rfl,rfl⟩)
    all_goals(try(conv=>whnf)))
   all_goals first
    |(exfalso;omega)
    |(exact absurd trivial (by assumption))
    |(apply Dj<;>kernel_rfl)
 have h3:¬decide ((j:Int)<(ifs.length:Int))=true:=by simp;omega
 rw[Db (by omega),show A4i []=true from rfl,if_pos rfl]at hR
 have hcc:=Gy th el (by omega)
 have hL:((th++el).map Act.Bx).length=(th++el).length:=Bh _;have hLl:(th++el).length≤1000:=by rw[Hq];omega
 clear Ajz;generalize hAL:th++el=L at*;repeat'((conv=>whnf);first|(with_reducible refine Aw (by exact Ak (by assumption)) fun hb=>?_);(try rw[hb]);try simp only[Aa]at hb|(with_reducible refine Ac ?_ ?_);focus (and_intros<;>first|with_reducible rfl|kernel_rfl|intro _ hh;cases hh;done|exact Ah (by rfl)|simp;done|decide)|with_reducible intro Cq|(with_reducible refine Ct.mk ?_);refine⟨_,hcc,?_⟩;rintro _ _ ⟨rfl,rfl⟩|(try dsimp only);rw[hL])
 all_goals(try(conv=>whnf))
 refine Afm.by (X:=Nat) (fun j=>[(62,.v (ti (j:Int)))]) (fun j=>j≤L.length∧Bc (L.drop j)=C4) (fun j=>L.length - j) 0 (by kernel_rfl) ⟨Cr _,hR⟩ ?_
 rintro q ⟨hq,hQ⟩
 (try dsimp only at hq hQ ⊢)
 have hwq:=zwj (j:=q) (by omega)
 by_cases hql:q<L.length
 case neg=>
  have h5:¬decide ((q:Int)<(L.length:Int))=true:=by simp;omega
  rw[Db (by omega)]at hQ
  have hQ:true=C4:=hQ;subst hQ;repeat'((conv=>whnf);((with_reducible refine Aw (by(with_reducible exact Ak (by assumption))) fun hb=>?_);(try rw[hb]);(try simp only[Aa]at hb)))
  all_goals(try(conv=>whnf))
  (apply Dj<;>kernel_rfl)
 obtain⟨d,hd⟩:∃x,L[q]?=some x:=⟨_,Ae hql⟩;have h5:¬decide ((q:Int)<(L.length:Int))=false:=by simp;omega
 have hdr:L.drop q=d::L.drop (q+1):=by rw[Cc hql];rw[Ae hql]at hd;cases hd;rfl
 rw[hdr]at hQ;unfold Bc at hQ;obtain⟨dk,dx,Awk,dv,dr,dm⟩:=d;have hk:=An7 Awk;have hv:=Amm dv;have hr:=An8 dr;have hs:=Pu dx;obtain⟨xf,xt⟩:=dx;by_cases H2:(Act.mk dk ⟨xf,xt⟩ Awk dv dr dm).ok
 ·rw[if_pos H2]at hQ;unfold Act.ok at H2;dsimp only at H2;by_cases k1:dk=1
  ·subst k1;rw[if_pos rfl]at H2;rw[decide_eq_true H2.1]at hs;rw[decide_eq_true H2.2.1]at hr;repeat'((conv=>whnf);first|(with_reducible refine Ax (by first|exact Ai (by assumption)|rfl) fun hb=>?_);(try rw[hb]);try simp only[Aa]at hb|((with_reducible refine A5 (fun hb=>?_) fun hb=>?_)<;>first|exfalso;((simp only[An]at hb<;>omega))|(try rw[hb]);try simp only[Aa]at hb)|(with_reducible refine Ac ?_ ?_);focus (and_intros<;>first|omega|kernel_rfl|intro _ hh;cases hh;done|simp;done|decide)|(try dsimp only);rw[B6 hd]|(with_reducible refine Ct.mk ?_);(first|refine⟨_,hs,?_⟩|refine⟨_,hr,?_⟩);rintro _ _ ⟨rfl,rfl⟩|(try dsimp only);rw[hwq])
   all_goals(try(conv=>whnf))
   all_goals first
    |(exfalso;omega)
    |(exact absurd trivial (by assumption))
    |(refine Round.by (q+1) ?_ ⟨by omega,hQ⟩ (by omega)
      try dsimp only
      show norm _ _=Cx _ _
      kernel_rfl)
  ·rw[if_neg k1]at H2;by_cases k2:dk=2
   ·subst k2;rw[if_pos rfl]at H2;rw[decide_eq_true H2.1]at hk;rw[decide_eq_true H2.2]at hv;repeat'((conv=>whnf);first|(with_reducible first|refine Ax (by first|exact Ai (by assumption)|rfl) fun hb=>?_|refine Aw (by first|exact Ak (by assumption)|refine decide_eq_false ?_;assumption) fun hb=>?_);(try rw[hb]);try simp only[Aa]at hb|((with_reducible refine A5 (fun hb=>?_) fun hb=>?_)<;>first|exfalso;((simp only[An]at hb<;>omega))|(try rw[hb]);try simp only[Aa]at hb)|(with_reducible refine Ac ?_ ?_);focus (and_intros<;>first|omega|kernel_rfl|intro _ hh;cases hh;done|simp;done|decide)|(try dsimp only);rw[B6 hd]|(with_reducible refine Ct.mk ?_);(first|refine⟨_,hk,?_⟩|refine⟨_,hv,?_⟩);rintro _ _ ⟨rfl,rfl⟩|(try dsimp only);rw[hwq])
    all_goals(try(conv=>whnf))
    all_goals first
     |(exact absurd trivial (by assumption))
     |(refine Round.by (q+1) ?_ ⟨by omega,hQ⟩ (by omega)
       try dsimp only
       show norm _ _=Cx _ _
       kernel_rfl)
   ·rw[if_neg k2]at H2;obtain⟨k3,H2⟩:=H2;subst k3;rw[decide_eq_true H2]at hs;repeat'((conv=>whnf);first|(with_reducible first|refine Ax (by first|exact Ai (by assumption)|rfl) fun hb=>?_|refine Aw (by first|exact Ak (by assumption)|refine decide_eq_false ?_;assumption) fun hb=>?_);(try rw[hb]);try simp only[Aa]at hb|(with_reducible refine A5 (fun hb=>?_) fun hb=>?_)<;>(((try rw[hb]);(try simp only[Aa]at hb)))|(with_reducible refine Ac ?_ ?_);focus (and_intros<;>first|omega|kernel_rfl|intro _ hh;cases hh;done|simp;done|decide)|(try dsimp only);rw[B6 hd]|(with_reducible refine Ct.mk ?_);refine⟨_,hs,?_⟩;rintro _ _ ⟨rfl,rfl⟩|(try dsimp only);rw[hwq])
    all_goals(try(conv=>whnf))
    all_goals first
     |(exact absurd trivial (by assumption))
     |(refine Round.by (q+1) ?_ ⟨by omega,hQ⟩ (by omega)
       try dsimp only
       show norm _ _=Cx _ _
       kernel_rfl)
 ·rw[if_neg H2]at hQ;have hQ:false=C4:=hQ;subst hQ;unfold Act.ok at H2;dsimp only at H2;by_cases k1:dk=1
  ·subst k1;rw[if_pos rfl]at H2;by_cases c1:SpR ⟨xf,xt⟩
   ·rw[decide_eq_true c1]at hs;cases h2:decide (0≤dr∧dr≤1099511627776)<;>rw[h2]at hr<;>simp only[decide_eq_true_eq,decide_eq_false_iff_not]at h2;all_goals skip
    all_goals(
     repeat'((conv=>whnf);first|(with_reducible first|refine Ax (by first|exact Ai (by assumption)|rfl) fun hb=>?_|refine Aw (by(assumption)) fun hb=>?_);(try rw[hb]);try simp only[Aa]at hb|((with_reducible refine A5 (fun hb=>?_) fun hb=>?_)<;>first|exfalso;((simp only[An]at hb<;>omega))|(try rw[hb]);try simp only[Aa]at hb)|(with_reducible refine Ac ?_ ?_);focus (and_intros<;>first|omega|kernel_rfl|intro _ hh;cases hh;done|simp;done|decide)|(try dsimp only);rw[B6 hd]|(with_reducible refine Ct.mk ?_);(first|refine⟨_,hs,?_⟩|refine⟨_,hr,?_⟩);rintro _ _ ⟨rfl,rfl⟩|(try dsimp only);rw[hwq])
     all_goals(try(conv=>whnf)))
    all_goals first
     |(exact absurd trivial (by assumption))
     |(exfalso;exact H2 ⟨c1,by omega,by omega⟩)
     |(apply Dj<;>kernel_rfl)
   ·rw[decide_eq_false c1]at hs;repeat'((conv=>whnf);first|(with_reducible first|refine Ax (by exact Ai (by assumption)) fun hb=>?_|refine Aw (by(assumption)) fun hb=>?_);(try rw[hb]);try simp only[Aa]at hb|((with_reducible refine A5 (fun hb=>?_) fun hb=>?_)<;>first|exfalso;((simp only[An]at hb<;>omega))|(try rw[hb]);try simp only[Aa]at hb)|(with_reducible refine Ac ?_ ?_);focus (and_intros<;>first|omega|kernel_rfl|intro _ hh;cases hh;done|simp;done|decide)|(try dsimp only);rw[B6 hd]|(with_reducible refine Ct.mk ?_);refine⟨_,hs,?_⟩;rintro _ _ ⟨rfl,rfl⟩)
    all_goals(try(conv=>whnf))
    all_goals first
     |(exact absurd trivial (by assumption))
     |(apply Dj<;>kernel_rfl)
  rw[if_neg k1]at H2;have g1:¬decide (dk=1)=true:=by simpa using k1
  by_cases k2:dk=2
  ·subst k2;rw[if_pos rfl]at H2;cases h1:decide (1≤Awk.length∧Awk.length≤64)<;>rw[h1]at hk<;>cases h4:decide (dv.length≤256)<;>rw[h4]at hv<;>simp only[decide_eq_true_eq,decide_eq_false_iff_not]at h1 h4;all_goals skip
   all_goals(
    repeat'((conv=>whnf);first|(with_reducible first|refine Ax (by first|exact Ai (by assumption)|refine decide_eq_true ?_;omega|rfl) fun hb=>?_|refine Aw (by first|assumption|exact Ak (by assumption)) fun hb=>?_);(try rw[hb]);try simp only[Aa]at hb|((with_reducible refine A5 (fun hb=>?_) fun hb=>?_)<;>first|exfalso;((simp only[An]at hb<;>omega))|(try rw[hb]);try simp only[Aa]at hb)|(with_reducible refine Ac ?_ ?_);focus (and_intros<;>first|omega|kernel_rfl|intro _ hh;cases hh;done|simp;done|decide)|(try dsimp only);rw[B6 hd]|(with_reducible refine Ct.mk ?_);(first|refine⟨_,hk,?_⟩|refine⟨_,hv,?_⟩);rintro _ _ ⟨rfl,rfl⟩)
    all_goals(try(conv=>whnf)))
   all_goals first
    |(exact absurd trivial (by assumption))
    |(exfalso;exact H2 ⟨h1,h4⟩)
    |(apply Dj<;>kernel_rfl)
  rw[if_neg k2]at H2;have g2:¬decide (dk=2)=true:=by simpa using k2
  by_cases k3:dk=3
  ·subst k3;rw[decide_eq_false (fun c=>H2 ⟨rfl,c⟩)]at hs
   repeat'((conv=>whnf);first|(with_reducible first|refine Ax (by exact Ai (by assumption)) fun hb=>?_|refine Aw (by first|assumption|exact Ak (by assumption)) fun hb=>?_);(try rw[hb]);try simp only[Aa]at hb|(with_reducible refine A5 (fun hb=>?_) fun hb=>?_)<;>(((try rw[hb]);(try simp only[Aa]at hb)))|(with_reducible refine Ac ?_ ?_);focus (and_intros<;>first|omega|kernel_rfl|intro _ hh;cases hh;done|simp;done|decide)|(try dsimp only);rw[B6 hd]|(with_reducible refine Ct.mk ?_);refine⟨_,hs,?_⟩;rintro _ _ ⟨rfl,rfl⟩)
   all_goals(try(conv=>whnf))
   all_goals first
    |(exact absurd trivial (by assumption))
    |(apply Dj<;>kernel_rfl)
  have g3:¬decide (dk=3)=true:=by simpa using k3
  repeat'((conv=>whnf);first|(with_reducible first|refine Ax (by exact Ai (by assumption)) fun hb=>?_|refine Aw (by first|assumption|exact Ak (by assumption)) fun hb=>?_);(try rw[hb]);try simp only[Aa]at hb|(with_reducible refine Ac ?_ ?_);focus (and_intros<;>first|omega|kernel_rfl|simp;done)|(try dsimp only);rw[B6 hd])
  all_goals(try(conv=>whnf))
  all_goals first
   |(exact absurd trivial (by assumption))
   |(apply Dj<;>kernel_rfl)

open Go.Proofs
theorem Akx(k:Az)(h:k.length≤100000):Fn Tryz.prog Am0 [.v (.str k)] (Is (.v (.agg [.str k,.str (k++[0])])) [.no]):=Ary k h

open Go.Proofs
theorem A8z(k:Az):Fn Tryz.prog A4k [.v (.str k)] (Is (.v (.bool (decide (1≤k.length∧k.length≤64)))) [.no]):=by
 refine A38 ?_ (by simp)
 repeat'((conv=>whnf);first|(with_reducible first|refine Ax (by rfl) fun hb=>?_|refine Aw (by rfl) fun hb=>?_);(try rw[hb]);try simp only[Aa]at hb|(with_reducible refine A5 (fun hb=>?_) fun hb=>?_)<;>(((try rw[hb]);(try simp only[Aa]at hb)))|(with_reducible refine Ac ?_ ?_);focus (and_intros<;>(with_reducible rfl))|with_reducible intro Cq)
 all_goals(try(conv=>whnf))
 all_goals(refine Am1.mk ⟨SV.Aju ?_,by kernel_rfl⟩ (by kernel_rfl))
 all_goals(simp only[decide_eq_decide,decide_eq_true_eq,decide_eq_false_iff_not,Bool.false_eq]at*;omega)
theorem Bga(k:Az)(h:k.length≤100000):Fn Tryz.prog A4n [.v (.str k)] (Is (.v (.agg [.str k,.str (k++[0])])) [.no]):=by
 refine A39 ?_ (by simp)
 have h1:k.length+[(0:UInt8)].length≤maxLen:=by simp[maxLen];omega
 repeat'((conv=>whnf);((with_reducible refine Ac ?_ ?_);focus (and_intros<;>first|omega|kernel_rfl)))
 all_goals(try(conv=>whnf))
 exact Am1.mk ⟨rfl,by kernel_rfl⟩ (by kernel_rfl)
theorem A8y(d:Act):Fn Tryz.prog A4h [.v d.Bx] (Is (.v (.bool (decide d.ok))) [.no]):=by
 refine A37 ?_ (by simp)
 have hk:=A8z d.key;have hs:=A7f d.x;obtain⟨dk,⟨xf,xt⟩,Awk,dv,dr,dm⟩:=d;unfold Act.ok;dsimp only at hk hs ⊢;by_cases k1:dk=1
 ·subst k1;simp only[if_true];by_cases c1:SpR ⟨xf,xt⟩
  ·rw[decide_eq_true c1]at hs;repeat'((conv=>whnf);first|(with_reducible first|refine Ax (by rfl) fun hb=>?_|refine Aw (by rfl) fun hb=>?_);(try rw[hb]);try simp only[Aa]at hb|(with_reducible refine A5 (fun hb=>?_) fun hb=>?_)<;>(((try rw[hb]);(try simp only[Aa]at hb);(try(with_reducible exact absurd trivial hb))))|(with_reducible refine Ac ?_ ?_);focus (and_intros<;>first|omega|kernel_rfl|intro _ hh;cases hh;done|simp;done|decide)|(with_reducible refine Ct.mk ?_);refine⟨_,hs,?_⟩;rintro _ _ ⟨rfl,rfl⟩)
   all_goals(try(conv=>whnf))
   all_goals first
    |(exact absurd trivial (by assumption))
    |(refine Am1.mk ⟨SV.Aju ?_,by kernel_rfl⟩ (by kernel_rfl)
      simp only[c1,true_and,decide_eq_decide,decide_eq_true_eq,decide_eq_false_iff_not,Bool.false_eq,Bool.true_eq,Bool.decide_and]at*;first
       |omega
       |(simp[*];done)
       |(simp at*;omega)
       |(rw[eq_comm,decide_eq_false_iff_not];omega))
  ·rw[decide_eq_false c1]at hs;repeat'((conv=>whnf);first|(with_reducible refine Aw (by rfl) fun hb=>?_);(try rw[hb]);try simp only[Aa]at hb|(with_reducible refine A5 (fun hb=>?_) fun hb=>?_)<;>(((try rw[hb]);(try simp only[Aa]at hb);(try(with_reducible exact absurd trivial hb))))|(with_reducible refine Ac ?_ ?_);focus (and_intros<;>first|omega|kernel_rfl|intro _ hh;cases hh;done|simp;done|decide)|(with_reducible refine Ct.mk ?_);refine⟨_,hs,?_⟩;rintro _ _ ⟨rfl,rfl⟩)
   all_goals(try(conv=>whnf))
   all_goals first
    |(exact absurd trivial (by assumption))
    |(refine Am1.mk ⟨SV.Aju ?_,by kernel_rfl⟩ (by kernel_rfl)
      simp[c1])
 have g1:¬decide (dk=1)=true:=by simpa using k1
 by_cases k2:dk=2
 ·subst k2;simp only[show ¬(2:Int)=1 by decide,if_false,if_true]
  by_cases c1:1≤Awk.length∧Awk.length≤64
  ·rw[decide_eq_true c1]at hk;repeat'((conv=>whnf);first|(with_reducible first|refine Ax (by rfl) fun hb=>?_|refine Aw (by exact Ak (by assumption)) fun hb=>?_);(try rw[hb]);try simp only[Aa]at hb|(with_reducible refine A5 (fun hb=>?_) fun hb=>?_)<;>(((try rw[hb]);(try simp only[Aa]at hb);(try(with_reducible exact absurd trivial hb))))|(with_reducible refine Ac ?_ ?_);focus (and_intros<;>first|omega|with_reducible rfl|kernel_rfl|intro _ hh;cases hh;done|simp;done|decide)|with_reducible intro Cq|(with_reducible refine Ct.mk ?_);refine⟨_,hk,?_⟩;rintro _ _ ⟨rfl,rfl⟩)
   all_goals(try(conv=>whnf))
   all_goals first
    |(exact absurd trivial (by assumption))
    |(refine Am1.mk ⟨SV.Aju ?_,by kernel_rfl⟩ (by kernel_rfl)
      simp[c1]<;>omega)
  ·rw[decide_eq_false c1]at hk;repeat'((conv=>whnf);first|(with_reducible refine Aw (by first|exact Ak (by assumption)|rfl) fun hb=>?_);(try rw[hb]);try simp only[Aa]at hb|(with_reducible refine A5 (fun hb=>?_) fun hb=>?_)<;>(((try rw[hb]);(try simp only[Aa]at hb);(try(with_reducible exact absurd trivial hb))))|(with_reducible refine Ac ?_ ?_);focus (and_intros<;>first|omega|kernel_rfl|intro _ hh;cases hh;done|simp;done|decide)|(with_reducible refine Ct.mk ?_);refine⟨_,hk,?_⟩;rintro _ _ ⟨rfl,rfl⟩)
   all_goals(try(conv=>whnf))
   all_goals first
    |(exact absurd trivial (by assumption))
    |(refine Am1.mk ⟨SV.Aju ?_,by kernel_rfl⟩ (by kernel_rfl)
      simp[c1])
 have g2:¬decide (dk=2)=true:=by simpa using k2
 simp only[k1,k2,if_false];by_cases k3:dk=3
 ·subst k3;repeat'((conv=>whnf);first|(with_reducible first|refine Ax (by rfl) fun hb=>?_|refine Aw (by exact Ak (by assumption)) fun hb=>?_);(try rw[hb]);try simp only[Aa]at hb|(with_reducible refine A5 (fun hb=>?_) fun hb=>?_)<;>(((try rw[hb]);(try simp only[Aa]at hb);(try(with_reducible exact absurd trivial hb))))|(with_reducible refine Ac ?_ ?_);focus (and_intros<;>first|omega|kernel_rfl|intro _ hh;cases hh;done|simp;done|decide)|(with_reducible refine Ct.mk ?_);refine⟨_,hs,?_⟩;rintro _ _ ⟨rfl,rfl⟩)
  all_goals(try(conv=>whnf))
  all_goals first
   |(exact absurd trivial (by assumption))
   |(refine Am1.mk ⟨SV.Aju ?_,by kernel_rfl⟩ (by kernel_rfl)
     simp)
 ·have g3:¬decide (dk=3)=true:=by simpa using k3
  repeat'((conv=>whnf);first|(with_reducible refine Aw (by first|exact Ak (by assumption)|rfl) fun hb=>?_);(try rw[hb]);try simp only[Aa]at hb|(with_reducible refine Ac ?_ ?_);focus (and_intros<;>first|omega|kernel_rfl|simp;done))
  all_goals(try(conv=>whnf))
  all_goals(refine Am1.mk ⟨SV.Aju ?_,by kernel_rfl⟩ (by kernel_rfl))
  all_goals simp[k3]
end Go.Ab
