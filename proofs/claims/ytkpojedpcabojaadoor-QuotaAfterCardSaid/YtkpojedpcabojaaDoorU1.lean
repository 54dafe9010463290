/- Lemmas -/
import Derived.Test.YtkpojedpcabojaaDoorV19
set_option linter.unusedVariables false
set_option linter.unusedSimpArgs false
namespace Go.Ab
def qB(was:Ver)(c:Chg):Int:=(if c.gone=true then 0 else(c.key.length:Int)+(c.val.length:Int)) - (if was.gone=true then 0 else(c.key.length:Int)+(was.val.length:Int))
def qK(was:Ver)(c:Chg):Int:=(if c.gone=true then 0 else 1) - (if was.gone=true then 0 else 1)
def sumI:List Int→Int
 | []=>0
 |x::r=>x+sumI r
theorem Qy{a b:List Int}(h:a.Perm b):sumI a=sumI b:=by
 induction h with
 |nil=>rfl
 |cons x _ ih=>simp only[sumI,ih]
 |swap x y l=>simp only[sumI];omega
 |trans _ _ h1 h2=>rw[h1,h2]
theorem Xc{l:List Hld}{n k k':Az}{v:Ver}(hn:n.length<256)(hl:LSo l)(hv:∀h∈l,Lies h.at_)(hk:k'≠k):Q1 (putA l (B7 n k) v) (B7 n k')=Q1 l (B7 n k'):=by
 have hv2:∀h∈putA l (B7 n k) v,Lies h.at_:=fun h hh=>by
  rcases Ajm hh with h1|rfl|⟨e,_,_,rfl⟩
  ·exact hv h h1
  ·exact⟨n,k,rfl,hn⟩
  ·exact⟨n,k,rfl,hn⟩
 rw[Am3 hn (Ajt hl) hv2,Am3 hn hl hv,Anb hn hl hv];unfold newK;rw[Af7 k' (Ws hl hv),if_neg hk]
theorem Ta(n:Az)(c:Chg)(x:WSt):(Dw n c.key c x).t.bytes=x.t.bytes+qB (Q1 x.l (B7 n c.key)) c∧(Dw n c.key c x).t.keys=x.t.keys+qK (Q1 x.l (B7 n c.key)) c:=by
 unfold Dw qB qK;dsimp only;generalize Q1 x.l (B7 n c.key)=was;cases hc:c.gone<;>cases hw:was.gone<;>simp<;>omega
theorem Qk{n k k':Az}{c:Chg}{x:WSt}(hn:n.length<256)(hl:LSo x.l)(hv:∀h∈x.l,Lies h.at_):
 (LSo (Dw n k c x).l∧∀h∈(Dw n k c x).l,Lies h.at_)∧(k'≠k→Q1 (Dw n k c x).l (B7 n k')=Q1 x.l (B7 n k')):=by
 rcases Q7 n k c x with e|⟨v,_,e,_⟩
 ·rw[e];exact⟨⟨hl,hv⟩,fun _=>rfl⟩
 ·rw[e];refine⟨⟨Ajt hl,fun h hh=>?_⟩,fun hk=>Xc hn hl hv hk⟩
  rcases Ajm hh with h1|rfl|⟨e,_,_,rfl⟩
  ·exact hv h h1
  ·exact⟨n,k,rfl,hn⟩
  ·exact⟨n,k,rfl,hn⟩
theorem Mo{n:Az}{F:List Chg}{W:Az→Ver}(hn:n.length<256):∀{KK:List Az} {x:WSt},KK.Nodup→LSo x.l→(∀h∈x.l,Lies h.at_)→(∀k∈KK,Q1 x.l (B7 n k)=W k∧(Bv F k).key=k)→
 (Ge n F KK x).t.bytes=x.t.bytes+sumI (KK.map fun k=>qB (W k) (Bv F k))∧(Ge n F KK x).t.keys=x.t.keys+sumI (KK.map fun k=>qK (W k) (Bv F k))
 | [],x,_,_,_,_=>by simp[Ge,sumI]
 |k::KK,x,hd,hl,hv,hW=>by
  obtain⟨d1,d2⟩:=List.nodup_cons.1 hd;obtain⟨w1,w2⟩:=hW k (List.mem_cons_self ..);obtain⟨s1,s2⟩:=Ta n (Bv F k) x;rw[w2,w1]at s1 s2;have hs:=fun k'=>Qk (k:=k) (k':=k') (c:=Bv F k) (x:=x) hn hl hv
  obtain⟨i1,i2⟩:=Mo (F:=F) (W:=W) hn (KK:=KK) (x:=Dw n k (Bv F k) x) d2 (hs k).1.1 (hs k).1.2 fun k' hk'=>by
   have hne:k'≠k:=fun e=>d1 (e ▸ hk')
   rw[(hs k').2 hne];exact hW k' (List.mem_cons_of_mem _ hk')
  unfold Ge;rw[i1,i2,s1,s2];simp only[List.map_cons,sumI];constructor<;>omega
theorem Wn{F:List Chg}(hd:(F.map Chg.key).Nodup){c:Chg}(hc:c∈F):Bv F c.key=c:=by
 obtain⟨q,h1,h2,h3⟩:=Adz (F:=F) (k:=c.key) (List.mem_map.2 ⟨c,hc,rfl⟩);obtain⟨i,hi⟩:=List.getElem?_of_mem hc;have e1:(F.map Chg.key)[q]?=some c.key:=by rw[List.getElem?_map,h2,Option.map_some,h3]
 have e2:(F.map Chg.key)[i]?=some c.key:=by rw[List.getElem?_map,hi];rfl
 have:q=i:=by
  obtain⟨l1,l2⟩:=List.getElem?_eq_some_iff.1 e1;obtain⟨l3,l4⟩:=List.getElem?_eq_some_iff.1 e2;exact(List.getElem_inj hd).1 (l2.trans l4.symm)
 subst this;rw[hi]at h2;exact(Option.some.inj h2).symm
theorem Mb{m:Nat}{s:Sto}(h:SInv m s){n:Az}{cs F:List Chg}{i:Nat}(hi:s.fi n=some i)(hF:K6 cs []=some F):
 ((s.writeM n cs).1.tal n).bytes=(s.tal n).bytes+sumI (F.map fun c=>qB (Q1 s.l (B7 n c.key)) c)∧((s.writeM n cs).1.tal n).keys=(s.tal n).keys+sumI (F.map fun c=>qK (Q1 s.l (B7 n c.key)) c):=by
 have hn:=h.name hi;obtain⟨f1,f2,_⟩:=Agz hF (by simp) (by simp)
 obtain⟨g1,g2⟩:=Mo (F:=F) (W:=fun k=>Q1 s.l (B7 n k)) (x:=⟨s.tal n,s.l,false⟩) hn (Ahj f1) h.wi.1 (fun x hx=>(h.wi.2 x hx).1) (fun k hk=>by
  obtain⟨_,_,_,h3⟩:=Adz (Aje.1 hk);exact⟨rfl,h3⟩)
 have e:(s.writeM n cs).1.tal n=(Ge n F (Dc (F.map Chg.key)) ⟨s.tal n,s.l,false⟩).fin:=by
  unfold Sto.writeM;simp only[hi,hF];rw[Mi hi,if_pos rfl]
 have hfin:∀x:WSt,x.fin.bytes=x.t.bytes∧x.fin.keys=x.t.keys:=fun x=>by unfold WSt.fin;split<;>exact⟨rfl,rfl⟩
 have hp:∀f:Ver→Chg→Int,sumI ((Dc (F.map Chg.key)).map fun k=>f (Q1 s.l (B7 n k)) (Bv F k))=sumI (F.map fun c=>f (Q1 s.l (B7 n c.key)) c):=fun f=>by
  have hpm:(Dc (F.map Chg.key)).Perm (F.map Chg.key):=List.mergeSort_perm ..;rw[Qy (hpm.map _),List.map_map]
  congr 1
  refine List.map_congr_left fun c hc=>?_
  simp only[Function.comp,Wn f1 hc]
 rw[e,(hfin _).1,(hfin _).2,g1,g2];exact⟨by rw[hp qB],by rw[hp qK]⟩
theorem Lr{s:Sto}{n:Az}{cs:List Chg}(h:s.fi n=none∨K6 cs []=none):(s.writeM n cs).1=s:=by
 unfold Sto.writeM;rcases h with h|h
 ·rw[h]
 ·rw[h];cases s.fi n<;>rfl
def spK1(k:Az):Sp:=⟨k,k++[0]⟩
theorem Ms{k x:Az}:SpH (spK1 k) x↔x=k:=by
 unfold SpH spK1;dsimp only;rw[←Nz (p:=k) (k:=x)];simp
theorem V8{k:Az}(hk:k.length≤64):SpR (spK1 k):=
 ⟨by simp[spK1];omega,by simp[spK1];omega,.inr ((Nz (p:=k) (k:=k)).2 rfl).2⟩
theorem U1{k:Az}{rev:Int}:∀{ks:List Kv},KSo ks→ks.filterMap (selR (spK1 k) rev)=if(Bx rev (Jm ks k) Aj).gone=true then[]else[⟨k,(Bx rev (Jm ks k) Aj).val,(Bx rev (Jm ks k) Aj).made,(Bx rev (Jm ks k) Aj).rev⟩]
 | [],_=>by
   rw[if_pos (by rfl)];rfl
 |h::r,hs=>by
  obtain⟨s1,s2⟩:=List.pairwise_cons.1 hs;have ih:=U1 (k:=k) (rev:=rev) s2;rw[List.filterMap_cons,Dv];by_cases e:h.key=k
  ·rw[if_pos e];have hno:r.filterMap (selR (spK1 k) rev)=[]:=by
    rw[List.filterMap_eq_nil_iff];intro x hx;unfold selR;rw[if_neg];rintro⟨_,h2⟩;have h3:x.key=k:=Ms.1 h2;have h4:=s1 x hx;rw[h3, ←e]at h4;exact absurd h4 (List.lt_irrefl _)
   have hin:SpH (spK1 k) h.key:=by rw[e];exact Ms.2 rfl
   unfold selR;cases hg:(Bx rev h.vs Aj).gone with
   |true=>
    rw[if_neg (fun c=>by cases c.1)]
    simp only[if_true];exact hno
   |false=>
    rw[if_pos ⟨rfl,hin⟩];simp only[Bool.false_eq_true,if_false];rw[show r.filterMap (fun h=>if(Bx rev h.vs Aj).gone=false∧SpH (spK1 k) h.key then some (⟨h.key,(Bx rev h.vs Aj).val,(Bx rev h.vs Aj).made,(Bx rev h.vs Aj).rev⟩:Pr)else none)=[]from hno,e]
  ·rw[if_neg e, ←ih];have:selR (spK1 k) rev h=none:=by
    unfold selR;rw[if_neg];rintro⟨_,h2⟩;exact e (Ms.1 h2)
   rw[this]
def Vw(was:Ver)(k:Az):List Pr:=if was.gone=true then[]else[⟨k,was.val,was.made,was.rev⟩]
theorem Xn{m:Nat}{s:Sto}(h:SInv m s){n k:Az}{i:Nat}(hi:s.fi n=some i)(hk:k.length≤64):s.rangeM n (spK1 k) 0 1=(Vw (Q1 s.l (B7 n k)) k,false,0):=by
 have hn:=h.name hi;have hl:=h.wi.1;have hv:∀h∈s.l,Lies h.at_:=fun x hx=>(h.wi.2 x hx).1
 have hr:=h.rv n;have hR:=V8 hk;have hks:=Ws (n:=n) hl hv;have hat:Bx (s.tal n).rev (Jm (keysOf n s.l) k) Aj=Q1 s.l (B7 n k):=by
  rw[Am3 hn hl hv,V1];unfold newK;rw[List.filter_eq_self.2];intro v hv2;have:∃e∈s.l,e.at_=B7 n k∧v∈e.vs:=by
   unfold Jm at hv2;cases hf:(keysOf n s.l).find? (fun h=>decide (h.key=k))with
   |none=>rw[hf]at hv2;cases hv2
   |some x=>
    rw[hf]at hv2;obtain⟨e,he,h1,h2⟩:=Qq hv (List.mem_of_find?_eq_some hf);have h3:x.key=k:=by simpa using List.find?_some hf
    rw[h3]at h1;exact⟨e,he,h1,by rw[h2];exact hv2⟩
  obtain⟨e,he,h1,h2⟩:=this;have h3:=((h.wi.2 e he).2.2 v h2).2;dsimp only at h3;rw[h1,Mt hn]at h3;simpa using h3
 unfold Sto.rangeM;rw[hi];rw[if_neg (by simp),if_neg (Classical.not_not.2 ⟨hR,by omega,by omega,by omega⟩),if_neg (by omega),if_neg (by omega),if_pos rfl,Ai2 hn hl hv]
 have:=Aiz (x:=spK1 k) (m:=1) (V:=Lh n (s.tal n).rev s.l) (out:=[]) (by simp)
 rw[show((1:Nat):Int)=(1:Int)from rfl]at this;rw[this];have hvs:=Ajh (n:=n) (x:=spK1 k) (rev:=(s.tal n).rev) (l:=s.l) fun x hx=>(h.wi.2 x hx).2.1
 have hlen:((Lh n (s.tal n).rev s.l).filter fun p=>decide (SpH (spK1 k) p.1)).length=((keysOf n s.l).filterMap (selR (spK1 k) (s.tal n).rev)).length:=by rw[←hvs,List.length_map]
 rw[hlen,hvs,U1 hks,hat];unfold Vw;split<;>simp
set_option maxRecDepth 100000
set_option maxHeartbeats 40000000

open Go.Proofs
def qAt(f:Ver→Chg→Int)(n:Az)(l:List Hld)(F:List Chg)(i:Nat):Int:=match F[i]? with
 |some c=>f (Q1 l (B7 n c.key)) c
 |none=>0
theorem Ts{f:Ver→Chg→Int}{n:Az}{l:List Hld}{F:List Chg}{i:Nat}{c:Chg}(h:F[i]?=some c):qAt f n l F i=f (Q1 l (B7 n c.key)) c:=by unfold qAt;rw[h]
theorem Q0(f:Ver→Chg→Int)(n:Az)(l:List Hld)(F:List Chg):sumI ((List.range F.length).map (qAt f n l F))=sumI (F.map fun c=>f (Q1 l (B7 n c.key)) c):=by
 congr 1
 apply List.ext_getElem (by simp)
 intro i h1 h2;simp only[List.getElem_map,List.getElem_range];rw[Ts (List.getElem?_eq_getElem (by simpa using h2))]
theorem Xq{g:Nat→Int}{left:List Nat}{i:Nat}(h:i∈left):sumI (left.map g)=g i+sumI ((left.erase i).map g):=by
 rw[Qy ((List.perm_cons_erase h).map g)];rfl
theorem Wc(s:Sto)(n:Az)(cs:List Chg)(hcs:cs.length≤1000)(RES:Option (List Chg))(hRES:RES=none)(hF:K6 cs []=RES):
 Fn Tryd.prog Ez [sP s,.v (.str n),.v (.list (cs.map Chg.toI))] (Is (.tup [.i (ti (s.tal n).bytes),.i (ti (s.tal n).keys)]) [sP s,.no,.no]):=by
 refine Jh ?_ (by simp)
 repeat'((conv=>whnf);first|((with_reducible refine Exists.intro ?_ ?_);focus (and_intros<;>first|omega|(with_reducible rfl)|kernel_rfl|(intro _ hh;cases hh;done)|(simp;done)|decide))|(with_reducible intro hfact)|((with_reducible refine CallWp.mk ?_);refine⟨_,Aj6 s n,?_⟩;rintro _ _ ⟨rfl,rfl⟩)|((with_reducible refine CallWp.mk ?_);refine⟨_,Akb s n,?_⟩;rintro _ _ ⟨rfl,rfl⟩))
 all_goals(try(conv=>whnf))
 refine LoopWq.by (X:=Nat × List Chg × List I × List D) (fun y=>[(31,.v (ti (y.1:Int))),(12,.own [] (.map y.2.2.1 y.2.2.2))]) (fun y=>y.1≤cs.length∧y.2.1.length≤y.1∧y.2.2.1=Dn y.2.1∧y.2.2.2=Dt y.2.1∧K6 (cs.drop y.1) y.2.1=RES∧(y.2.1.map Chg.key).Nodup∧∀c∈y.2.1,c.ok) (fun y=>cs.length - y.1) (0,[],[],[]) (by kernel_rfl) ⟨Nat.zero_le _,by simp,rfl,rfl,hF,by simp,by simp⟩ ?_
 rintro⟨j,F,KS,VS⟩ ⟨hj,hFl,e1,e2,hR,hnd,hok⟩;dsimp only at hj hFl e1 e2 hR hnd hok ⊢;subst e1 e2;have hclen:(cs.map Chg.toI).length=cs.length:=List.length_map _;have hw:IntKind.i64.wrap ((j:Int)+1)=((j+1:Nat):Int):=Dk (n:=100000) (by omega) (by simp only[maxLen];omega)
 by_cases hjl:j<cs.length
 case neg=>
  rw[List.drop_eq_nil_of_le (by omega)]at hR
  rw[←hR]at hRES;cases hRES
 obtain⟨c,he⟩:∃c,cs[j]?=some c:=⟨_,List.getElem?_eq_getElem hjl⟩;have hlt:¬decide ((j:Int)<(cs.length:Int))=false:=by simp;omega
 have hlt2:¬decide ((j:Int)<((cs.map Chg.toI).length:Int))=false:=by simp;omega
 have hdr:cs.drop j=c::cs.drop (j+1):=by rw[List.drop_eq_getElem_cons hjl];rw[List.getElem?_eq_getElem hjl]at he;cases he;rfl
 rw[hdr]at hR;simp only[K6]at hR;by_cases hc:c.ok
 ·skip
  have hok':∀x∈Bm F c,x.ok:=fun x hx=>by
   rcases Zn hx with h|h
   ·exact hok x h
   ·subst h;exact hc
  have hfl:=Zm F c;rw[if_pos hc]at hR;have hnd':=U5 (c:=c) hnd;obtain⟨⟨hc1,hc1'⟩,hc2⟩:=hc;have hmain:∀KS' VS',KS'=Dn (Bm F c)→VS'=Dt (Bm F c)→j+1≤cs.length∧(Bm F c).length≤j+1∧KS'=Dn (Bm F c)∧VS'=Dt (Bm F c)∧K6 (cs.drop (j+1)) (Bm F c)=RES∧((Bm F c).map Chg.key).Nodup∧∀c'∈Bm F c,c'.ok:=
   fun KS' VS' e1 e2=>⟨by omega,by omega,e1,e2,hR,hnd',hok'⟩
  clear hR hdr;cases hq:F.findIdx? (fun x=>decide (x.key=c.key))with
  |none=>
   obtain⟨g1,g2,g3⟩:=Xf hq;obtain⟨ck,cv,cg⟩:=c;dsimp only at hc1 hc1' hc2;cases cg with
   |true=>
    repeat'((conv=>whnf);first|((with_reducible refine Ax (by(with_reducible exact Bool.of_not_eq_false (by assumption))) (fun hb=>?_));(try rw[hb]);(try simp only[Aa]at hb))|((with_reducible refine Aw (by(with_reducible rfl)) (fun hb=>?_));(try rw[hb]);(try simp only[Aa]at hb))|((with_reducible refine And.intro (fun hb=>?_) (fun hb=>?_))<;>first|(exfalso;((simp only[Bu]at hb<;>omega)))|((try rw[hb]);(try simp only[Aa]at hb)))|((with_reducible refine Exists.intro ?_ ?_);focus (and_intros<;>first|omega|(with_reducible rfl)|kernel_rfl|(simp;done)))|(with_reducible intro hfact)|((try dsimp only);(rw[B6 he]))|((try dsimp only);rw[hw])|(((with_reducible apply A9));(focus (simp only[D.at,D.put,D.kid,D.setKid,mkSt,Ap,D.toI,toIs,Ak,Af,g1,C7]<;>exact rfl))))
    all_goals(try(conv=>whnf))
    refine Round.by (j+1,Bm F ⟨ck,cv,true⟩,Dn F++[.str ck],Dt F++[.it (Chg.mk ck cv true).toI]) ?_ (hmain _ _ g2.symm g3.symm) (by dsimp only;omega)
    try dsimp only
    show norm _ _=upd _ _
    kernel_rfl
   |false=>
    have hc3:cv.length≤256:=by simpa using hc2
    repeat'((conv=>whnf);first|((with_reducible refine Ax (by first|(with_reducible exact Bool.of_not_eq_false (by assumption))|(with_reducible rfl)) (fun hb=>?_));(try rw[hb]);(try simp only[Aa]at hb))|((with_reducible refine Aw (by(with_reducible rfl)) (fun hb=>?_));(try rw[hb]);(try simp only[Aa]at hb))|((with_reducible refine And.intro (fun hb=>?_) (fun hb=>?_))<;>first|(exfalso;((simp only[Bu]at hb<;>omega)))|((try rw[hb]);(try simp only[Aa]at hb)))|((with_reducible refine Exists.intro ?_ ?_);focus (and_intros<;>first|omega|(with_reducible rfl)|kernel_rfl|(simp;done)))|(with_reducible intro hfact)|((try dsimp only);(rw[B6 he]))|((try dsimp only);rw[hw])|(((with_reducible apply A9));(focus (simp only[D.at,D.put,D.kid,D.setKid,mkSt,Ap,D.toI,toIs,Ak,Af,g1,C7]<;>exact rfl))))
    all_goals(try(conv=>whnf))
    refine Round.by (j+1,Bm F ⟨ck,cv,false⟩,Dn F++[.str ck],Dt F++[.it (Chg.mk ck cv false).toI]) ?_ (hmain _ _ g2.symm g3.symm) (by dsimp only;omega)
    try dsimp only
    show norm _ _=upd _ _
    kernel_rfl
  |some q=>
   obtain⟨g1,g2,g3⟩:=Xg hq;obtain⟨ck,cv,cg⟩:=c;dsimp only at hc1 hc1' hc2;cases cg with
   |true=>
    repeat'((conv=>whnf);first|((with_reducible refine Ax (by(with_reducible exact Bool.of_not_eq_false (by assumption))) (fun hb=>?_));(try rw[hb]);(try simp only[Aa]at hb))|((with_reducible refine Aw (by(with_reducible rfl)) (fun hb=>?_));(try rw[hb]);(try simp only[Aa]at hb))|((with_reducible refine And.intro (fun hb=>?_) (fun hb=>?_))<;>first|(exfalso;((simp only[Bu]at hb<;>omega)))|((try rw[hb]);(try simp only[Aa]at hb)))|((with_reducible refine Exists.intro ?_ ?_);focus (and_intros<;>first|omega|(with_reducible rfl)|kernel_rfl|(simp;done)))|(with_reducible intro hfact)|((try dsimp only);(rw[B6 he]))|((try dsimp only);rw[hw])|(((with_reducible apply A9));(focus (simp only[D.at,D.put,D.kid,D.setKid,mkSt,Ap,D.toI,toIs,Ak,Af,g1,C7]<;>exact rfl))))
    all_goals(try(conv=>whnf))
    refine Round.by (j+1,Bm F ⟨ck,cv,true⟩,Dn F,(Dt F).set q (.it (Chg.mk ck cv true).toI)) ?_ (hmain _ _ g2.symm g3.symm) (by dsimp only;omega)
    try dsimp only
    show norm _ _=upd _ _
    kernel_rfl
   |false=>
    have hc3:cv.length≤256:=by simpa using hc2
    repeat'((conv=>whnf);first|((with_reducible refine Ax (by first|(with_reducible exact Bool.of_not_eq_false (by assumption))|(with_reducible rfl)) (fun hb=>?_));(try rw[hb]);(try simp only[Aa]at hb))|((with_reducible refine Aw (by(with_reducible rfl)) (fun hb=>?_));(try rw[hb]);(try simp only[Aa]at hb))|((with_reducible refine And.intro (fun hb=>?_) (fun hb=>?_))<;>first|(exfalso;((simp only[Bu]at hb<;>omega)))|((try rw[hb]);(try simp only[Aa]at hb)))|((with_reducible refine Exists.intro ?_ ?_);focus (and_intros<;>first|omega|(with_reducible rfl)|kernel_rfl|(simp;done)))|(with_reducible intro hfact)|((try dsimp only);(rw[B6 he]))|((try dsimp only);rw[hw])|(((with_reducible apply A9));(focus (simp only[D.at,D.put,D.kid,D.setKid,mkSt,Ap,D.toI,toIs,Ak,Af,g1,C7]<;>exact rfl))))
    all_goals(try(conv=>whnf))
    refine Round.by (j+1,Bm F ⟨ck,cv,false⟩,Dn F,(Dt F).set q (.it (Chg.mk ck cv false).toI)) ?_ (hmain _ _ g2.symm g3.symm) (by dsimp only;omega)
    try dsimp only
    show norm _ _=upd _ _
    kernel_rfl
 ·obtain⟨ck,cv,cg⟩:=c;by_cases hk:1≤ck.length∧ck.length≤64
  ·obtain⟨hk1,hk2⟩:=hk;cases cg with
   |true=>exact absurd ⟨⟨hk1,hk2⟩,.inl rfl⟩ hc
   |false=>
    have hv:¬cv.length≤256:=fun h=>hc ⟨⟨hk1,hk2⟩,.inr h⟩
    repeat'((conv=>whnf);first|((with_reducible refine Ax (by first|(with_reducible exact Bool.of_not_eq_false (by assumption))|(with_reducible rfl)) (fun hb=>?_));(try rw[hb]);(try simp only[Aa]at hb))|((with_reducible refine Aw (by(with_reducible rfl)) (fun hb=>?_));(try rw[hb]);(try simp only[Aa]at hb))|((with_reducible refine And.intro (fun hb=>?_) (fun hb=>?_))<;>first|(exfalso;((simp only[Bu]at hb<;>omega)))|((try rw[hb]);(try simp only[Aa]at hb)))|((with_reducible refine Exists.intro ?_ ?_);focus (and_intros<;>first|omega|(with_reducible rfl)|kernel_rfl|(simp;done)))|(with_reducible intro hfact)|((try dsimp only);(rw[B6 he])))
    all_goals(try(conv=>whnf))
    (apply dKq<;>kernel_rfl)
  ·repeat'((conv=>whnf);first|((with_reducible refine Ax (by first|(with_reducible exact Bool.of_not_eq_false (by assumption))|(with_reducible rfl)) (fun hb=>?_));(try rw[hb]);(try simp only[Aa]at hb))|((with_reducible refine Aw (by(with_reducible rfl)) (fun hb=>?_));(try rw[hb]);(try simp only[Aa]at hb))|((with_reducible refine And.intro (fun hb=>?_) (fun hb=>?_))<;>first|(exfalso;((simp only[Bu]at hb<;>omega)))|((try rw[hb]);(try simp only[Aa]at hb)))|((with_reducible refine Exists.intro ?_ ?_);focus (and_intros<;>first|omega|(with_reducible rfl)|kernel_rfl|(simp;done)))|(with_reducible intro hfact)|((try dsimp only);(rw[B6 he])))
   all_goals(try(conv=>whnf))
   all_goals first
    |(exfalso;omega)
    |(apply dKq<;>kernel_rfl)
theorem Vu(s:Sto)(n:Az)(cs:List Chg)(hcs:cs.length≤1000)(hn:n.length≤1000){m:Nat}(hI:SInv m s)(hm:m≤80000)(hf:s.fi n=none)(FF:List Chg)(RES:Option (List Chg))(hRES:RES=some FF)(hF:K6 cs []=RES):
 Fn Tryd.prog Ez [sP s,.v (.str n),.v (.list (cs.map Chg.toI))] (Is (.tup [.i (ti (s.tal n).bytes),.i (ti (s.tal n).keys)]) [sP s,.no,.no]):=by
 refine Jh ?_ (by simp)
 repeat'((conv=>whnf);first|((with_reducible refine Exists.intro ?_ ?_);focus (and_intros<;>first|omega|(with_reducible rfl)|kernel_rfl|(intro _ hh;cases hh;done)|(simp;done)|decide))|(with_reducible intro hfact)|((with_reducible refine CallWp.mk ?_);refine⟨_,Aj6 s n,?_⟩;rintro _ _ ⟨rfl,rfl⟩)|((with_reducible refine CallWp.mk ?_);refine⟨_,Akb s n,?_⟩;rintro _ _ ⟨rfl,rfl⟩))
 all_goals(try(conv=>whnf))
 refine LoopWq.by (X:=Nat × List Chg × List I × List D) (fun y=>[(31,.v (ti (y.1:Int))),(12,.own [] (.map y.2.2.1 y.2.2.2))]) (fun y=>y.1≤cs.length∧y.2.1.length≤y.1∧y.2.2.1=Dn y.2.1∧y.2.2.2=Dt y.2.1∧K6 (cs.drop y.1) y.2.1=RES∧(y.2.1.map Chg.key).Nodup∧∀c∈y.2.1,c.ok) (fun y=>cs.length - y.1) (0,[],[],[]) (by kernel_rfl) ⟨Nat.zero_le _,by simp,rfl,rfl,hF,by simp,by simp⟩ ?_
 rintro⟨j,F,KS,VS⟩ ⟨hj,hFl,e1,e2,hR,hnd,hok⟩;dsimp only at hj hFl e1 e2 hR hnd hok ⊢;subst e1 e2;have hclen:(cs.map Chg.toI).length=cs.length:=List.length_map _;have hw:IntKind.i64.wrap ((j:Int)+1)=((j+1:Nat):Int):=Dk (n:=100000) (by omega) (by simp only[maxLen];omega)
 by_cases hjl:j<cs.length
 ·skip
  obtain⟨c,he⟩:∃c,cs[j]?=some c:=⟨_,List.getElem?_eq_getElem hjl⟩;have hlt:¬decide ((j:Int)<(cs.length:Int))=false:=by simp;omega
  have hlt2:¬decide ((j:Int)<((cs.map Chg.toI).length:Int))=false:=by simp;omega
  have hdr:cs.drop j=c::cs.drop (j+1):=by rw[List.drop_eq_getElem_cons hjl];rw[List.getElem?_eq_getElem hjl]at he;cases he;rfl
  rw[hdr]at hR;simp only[K6]at hR;by_cases hc:c.ok
  case neg=>
   rw[if_neg hc]at hR;rw[←hR]at hRES;cases hRES
  have hok':∀x∈Bm F c,x.ok:=fun x hx=>by
   rcases Zn hx with h|h
   ·exact hok x h
   ·subst h;exact hc
  have hfl:=Zm F c;rw[if_pos hc]at hR;have hnd':=U5 (c:=c) hnd;obtain⟨⟨hc1,hc1'⟩,hc2⟩:=hc;have hmain:∀KS' VS',KS'=Dn (Bm F c)→VS'=Dt (Bm F c)→j+1≤cs.length∧(Bm F c).length≤j+1∧KS'=Dn (Bm F c)∧VS'=Dt (Bm F c)∧K6 (cs.drop (j+1)) (Bm F c)=RES∧((Bm F c).map Chg.key).Nodup∧∀c'∈Bm F c,c'.ok:=
   fun KS' VS' e1 e2=>⟨by omega,by omega,e1,e2,hR,hnd',hok'⟩
  clear hR hdr;cases hq:F.findIdx? (fun x=>decide (x.key=c.key))with
  |none=>
   obtain⟨g1,g2,g3⟩:=Xf hq;obtain⟨ck,cv,cg⟩:=c;dsimp only at hc1 hc1' hc2;cases cg with
   |true=>
    repeat'((conv=>whnf);first|((with_reducible refine Ax (by(with_reducible exact Bool.of_not_eq_false (by assumption))) (fun hb=>?_));(try rw[hb]);(try simp only[Aa]at hb))|((with_reducible refine Aw (by(with_reducible rfl)) (fun hb=>?_));(try rw[hb]);(try simp only[Aa]at hb))|((with_reducible refine And.intro (fun hb=>?_) (fun hb=>?_))<;>first|(exfalso;((simp only[Bu]at hb<;>omega)))|((try rw[hb]);(try simp only[Aa]at hb)))|((with_reducible refine Exists.intro ?_ ?_);focus (and_intros<;>first|omega|(with_reducible rfl)|kernel_rfl|(simp;done)))|(with_reducible intro hfact)|((try dsimp only);(rw[B6 he]))|((try dsimp only);rw[hw])|(((with_reducible apply A9));(focus (simp only[D.at,D.put,D.kid,D.setKid,mkSt,Ap,D.toI,toIs,Ak,Af,g1,C7]<;>exact rfl))))
    all_goals(try(conv=>whnf))
    refine Round.by (j+1,Bm F ⟨ck,cv,true⟩,Dn F++[.str ck],Dt F++[.it (Chg.mk ck cv true).toI]) ?_ (hmain _ _ g2.symm g3.symm) (by dsimp only;omega)
    try dsimp only
    show norm _ _=upd _ _
    kernel_rfl
   |false=>
    have hc3:cv.length≤256:=by simpa using hc2
    repeat'((conv=>whnf);first|((with_reducible refine Ax (by first|(with_reducible exact Bool.of_not_eq_false (by assumption))|(with_reducible rfl)) (fun hb=>?_));(try rw[hb]);(try simp only[Aa]at hb))|((with_reducible refine Aw (by(with_reducible rfl)) (fun hb=>?_));(try rw[hb]);(try simp only[Aa]at hb))|((with_reducible refine And.intro (fun hb=>?_) (fun hb=>?_))<;>first|(exfalso;((simp only[Bu]at hb<;>omega)))|((try rw[hb]);(try simp only[Aa]at hb)))|((with_reducible refine Exists.intro ?_ ?_);focus (and_intros<;>first|omega|(with_reducible rfl)|kernel_rfl|(simp;done)))|(with_reducible intro hfact)|((try dsimp only);(rw[B6 he]))|((try dsimp only);rw[hw])|(((with_reducible apply A9));(focus (simp only[D.at,D.put,D.kid,D.setKid,mkSt,Ap,D.toI,toIs,Ak,Af,g1,C7]<;>exact rfl))))
    all_goals(try(conv=>whnf))
    refine Round.by (j+1,Bm F ⟨ck,cv,false⟩,Dn F++[.str ck],Dt F++[.it (Chg.mk ck cv false).toI]) ?_ (hmain _ _ g2.symm g3.symm) (by dsimp only;omega)
    try dsimp only
    show norm _ _=upd _ _
    kernel_rfl
  |some q=>
   obtain⟨g1,g2,g3⟩:=Xg hq;obtain⟨ck,cv,cg⟩:=c;dsimp only at hc1 hc1' hc2;cases cg with
   |true=>
    repeat'((conv=>whnf);first|((with_reducible refine Ax (by(with_reducible exact Bool.of_not_eq_false (by assumption))) (fun hb=>?_));(try rw[hb]);(try simp only[Aa]at hb))|((with_reducible refine Aw (by(with_reducible rfl)) (fun hb=>?_));(try rw[hb]);(try simp only[Aa]at hb))|((with_reducible refine And.intro (fun hb=>?_) (fun hb=>?_))<;>first|(exfalso;((simp only[Bu]at hb<;>omega)))|((try rw[hb]);(try simp only[Aa]at hb)))|((with_reducible refine Exists.intro ?_ ?_);focus (and_intros<;>first|omega|(with_reducible rfl)|kernel_rfl|(simp;done)))|(with_reducible intro hfact)|((try dsimp only);(rw[B6 he]))|((try dsimp only);rw[hw])|(((with_reducible apply A9));(focus (simp only[D.at,D.put,D.kid,D.setKid,mkSt,Ap,D.toI,toIs,Ak,Af,g1,C7]<;>exact rfl))))
    all_goals(try(conv=>whnf))
    refine Round.by (j+1,Bm F ⟨ck,cv,true⟩,Dn F,(Dt F).set q (.it (Chg.mk ck cv true).toI)) ?_ (hmain _ _ g2.symm g3.symm) (by dsimp only;omega)
    try dsimp only
    show norm _ _=upd _ _
    kernel_rfl
   |false=>
    have hc3:cv.length≤256:=by simpa using hc2
    repeat'((conv=>whnf);first|((with_reducible refine Ax (by first|(with_reducible exact Bool.of_not_eq_false (by assumption))|(with_reducible rfl)) (fun hb=>?_));(try rw[hb]);(try simp only[Aa]at hb))|((with_reducible refine Aw (by(with_reducible rfl)) (fun hb=>?_));(try rw[hb]);(try simp only[Aa]at hb))|((with_reducible refine And.intro (fun hb=>?_) (fun hb=>?_))<;>first|(exfalso;((simp only[Bu]at hb<;>omega)))|((try rw[hb]);(try simp only[Aa]at hb)))|((with_reducible refine Exists.intro ?_ ?_);focus (and_intros<;>first|omega|(with_reducible rfl)|kernel_rfl|(simp;done)))|(with_reducible intro hfact)|((try dsimp only);(rw[B6 he]))|((try dsimp only);rw[hw])|(((with_reducible apply A9));(focus (simp only[D.at,D.put,D.kid,D.setKid,mkSt,Ap,D.toI,toIs,Ak,Af,g1,C7]<;>exact rfl))))
    all_goals(try(conv=>whnf))
    refine Round.by (j+1,Bm F ⟨ck,cv,false⟩,Dn F,(Dt F).set q (.it (Chg.mk ck cv false).toI)) ?_ (hmain _ _ g2.symm g3.symm) (by dsimp only;omega)
    try dsimp only
    show norm _ _=upd _ _
    kernel_rfl
 have hlt:¬decide ((j:Int)<(cs.length:Int))=true:=by simp;omega
 have hlt2:¬decide ((j:Int)<((cs.map Chg.toI).length:Int))=true:=by simp;omega
 rw[List.drop_eq_nil_of_le (by omega)]at hR
 have hR:some F=RES:=hR;rw[hRES]at hR;cases hR;have hFl2:FF.length≤1000:=by omega
 repeat'((conv=>whnf);((with_reducible refine Aw (by(with_reducible exact Bool.of_not_eq_true (by assumption))) (fun hb=>?_));(try rw[hb]);(try simp only[Aa]at hb)))
 all_goals(try(conv=>whnf))
 refine LoopWq.by (X:=Unit) (fun _=>[(64,.mit (Dn FF) (Dt FF) (List.range (Dn FF).length) none)]) (fun _=>True) (fun _=>0) () (by kernel_rfl) trivial ?_
 rintro _ _;dsimp only;cases hL:(List.range (Dn FF).length).isEmpty with
 |true=>
  repeat'((conv=>whnf);first|((with_reducible refine Ax (by(with_reducible assumption)) (fun hb=>?_));(try simp only[Aa]at hb))|((with_reducible refine Aw (by first|(with_reducible exact Bool.of_not_eq_true (by assumption))|(with_reducible rfl)) (fun hb=>?_));(try rw[hb]);(try simp only[Aa]at hb))|((with_reducible refine Exists.intro ?_ ?_);focus (and_intros<;>omega)))
  all_goals(try(conv=>whnf))
  (apply dKq<;>kernel_rfl)
 |false=>
  repeat'((conv=>whnf);first|((with_reducible refine Aw (by(with_reducible assumption)) (fun hb=>?_));(try simp only[Aa]at hb))|((with_reducible refine Exists.intro ?_ ?_);focus (and_intros<;>omega)))
  all_goals(try(conv=>whnf))
  refine⟨fun i hi=>?_⟩
  have hil:i<FF.length:=by simpa[Dn]using hi
  obtain⟨c,he⟩:∃c,FF[i]?=some c:=⟨_,List.getElem?_eq_getElem hil⟩;have hco:=hok c (List.mem_of_getElem? he);have hr:=Aff hI hm n hn (spK1 c.key) 0 1;rw[show s.rangeM n (spK1 c.key) 0 1=([],false,16)by unfold Sto.rangeM;rw[if_pos (by rw[hf];rfl)]]at hr
  have hky:=Uk c.key (by have:=hco.1.2;omega)
  repeat'((conv=>whnf);first|((with_reducible refine Ax (by(with_reducible rfl)) (fun hb=>?_));(try rw[hb]);(try simp only[Aa]at hb))|((with_reducible refine And.intro (fun hb=>?_) (fun hb=>?_))<;>first|(exact absurd hb (by decide))|((try rw[hb]);(try simp only[Aa]at hb)))|((with_reducible refine Exists.intro ?_ ?_);focus (and_intros<;>first|omega|kernel_rfl|(intro _ hh;cases hh;done)|(simp;done)|decide))|((try dsimp only);(rw[Cv he]))|((with_reducible refine CallWp.mk ?_);refine⟨_,hky,?_⟩;rintro _ _ ⟨rfl,rfl⟩)|((with_reducible refine CallWp.mk ?_);refine⟨_,hr,?_⟩;rintro _ _ ⟨rfl,rfl⟩))
  all_goals(try(conv=>whnf))
  (apply dKq<;>kernel_rfl)
theorem Vt(s:Sto)(n:Az)(cs:List Chg)(hcs:cs.length≤1000)(hn:n.length≤1000){m:Nat}(hI:SInv m s)(hm:m≤80000)(q:Nat)(hf:s.fi n=some q)(FF:List Chg)(RES:Option (List Chg))(hRES:RES=some FF)(hF:K6 cs []=RES)(B0 K0 B K:Int)(hB0:(s.tal n).bytes=B0)(hK0:(s.tal n).keys=K0)(hB:B0+sumI ((List.range FF.length).map (qAt qB n s.l FF))=B)(hK:K0+sumI ((List.range FF.length).map (qAt qK n s.l FF))=K):
 Fn Tryd.prog Ez [sP s,.v (.str n),.v (.list (cs.map Chg.toI))] (Is (.tup [.i (ti B),.i (ti K)]) [sP s,.no,.no]):=by
 refine Jh ?_ (by simp)
 have hby:=Aj6 s n;have hke:=Akb s n;rw[hB0]at hby;rw[hK0]at hke;have hT:=hI.tb n;have hT1:=hT.bytes;have hT2:=hT.keys;rw[hB0]at hT1;rw[hK0]at hT2;clear hB0 hK0 hT;repeat'((conv=>whnf);first|((with_reducible refine Exists.intro ?_ ?_);focus (and_intros<;>first|omega|(with_reducible rfl)|kernel_rfl|(intro _ hh;cases hh;done)|(simp;done)|decide))|(with_reducible intro hfact)|((with_reducible refine CallWp.mk ?_);refine⟨_,hby,?_⟩;rintro _ _ ⟨rfl,rfl⟩)|((with_reducible refine CallWp.mk ?_);refine⟨_,hke,?_⟩;rintro _ _ ⟨rfl,rfl⟩))
 all_goals(try(conv=>whnf))
 refine LoopWq.by (X:=Nat × List Chg × List I × List D) (fun y=>[(31,.v (ti (y.1:Int))),(12,.own [] (.map y.2.2.1 y.2.2.2))]) (fun y=>y.1≤cs.length∧y.2.1.length≤y.1∧y.2.2.1=Dn y.2.1∧y.2.2.2=Dt y.2.1∧K6 (cs.drop y.1) y.2.1=RES∧(y.2.1.map Chg.key).Nodup∧∀c∈y.2.1,c.ok) (fun y=>cs.length - y.1) (0,[],[],[]) (by kernel_rfl) ⟨Nat.zero_le _,by simp,rfl,rfl,hF,by simp,by simp⟩ ?_
 rintro⟨j,F,KS,VS⟩ ⟨hj,hFl,e1,e2,hR,hnd,hok⟩;dsimp only at hj hFl e1 e2 hR hnd hok ⊢;subst e1 e2;have hclen:(cs.map Chg.toI).length=cs.length:=List.length_map _;have hw:IntKind.i64.wrap ((j:Int)+1)=((j+1:Nat):Int):=Dk (n:=100000) (by omega) (by simp only[maxLen];omega)
 by_cases hjl:j<cs.length
 ·skip
  obtain⟨c,he⟩:∃c,cs[j]?=some c:=⟨_,List.getElem?_eq_getElem hjl⟩;have hlt:¬decide ((j:Int)<(cs.length:Int))=false:=by simp;omega
  have hlt2:¬decide ((j:Int)<((cs.map Chg.toI).length:Int))=false:=by simp;omega
  have hdr:cs.drop j=c::cs.drop (j+1):=by rw[List.drop_eq_getElem_cons hjl];rw[List.getElem?_eq_getElem hjl]at he;cases he;rfl
  rw[hdr]at hR;simp only[K6]at hR;by_cases hc:c.ok
  case neg=>
   rw[if_neg hc]at hR;rw[←hR]at hRES;cases hRES
  have hok':∀x∈Bm F c,x.ok:=fun x hx=>by
   rcases Zn hx with h|h
   ·exact hok x h
   ·subst h;exact hc
  have hfl:=Zm F c;rw[if_pos hc]at hR;have hnd':=U5 (c:=c) hnd;obtain⟨⟨hc1,hc1'⟩,hc2⟩:=hc;have hmain:∀KS' VS',KS'=Dn (Bm F c)→VS'=Dt (Bm F c)→j+1≤cs.length∧(Bm F c).length≤j+1∧KS'=Dn (Bm F c)∧VS'=Dt (Bm F c)∧K6 (cs.drop (j+1)) (Bm F c)=RES∧((Bm F c).map Chg.key).Nodup∧∀c'∈Bm F c,c'.ok:=
   fun KS' VS' e1 e2=>⟨by omega,by omega,e1,e2,hR,hnd',hok'⟩
  clear hR hdr;cases hq:F.findIdx? (fun x=>decide (x.key=c.key))with
  |none=>
   obtain⟨g1,g2,g3⟩:=Xf hq;obtain⟨ck,cv,cg⟩:=c;dsimp only at hc1 hc1' hc2;cases cg with
   |true=>
    repeat'((conv=>whnf);first|((with_reducible refine Ax (by(with_reducible exact Bool.of_not_eq_false (by assumption))) (fun hb=>?_));(try rw[hb]);(try simp only[Aa]at hb))|((with_reducible refine Aw (by(with_reducible rfl)) (fun hb=>?_));(try rw[hb]);(try simp only[Aa]at hb))|((with_reducible refine And.intro (fun hb=>?_) (fun hb=>?_))<;>first|(exfalso;((simp only[Bu]at hb<;>omega)))|((try rw[hb]);(try simp only[Aa]at hb)))|((with_reducible refine Exists.intro ?_ ?_);focus (and_intros<;>first|omega|(with_reducible rfl)|kernel_rfl|(simp;done)))|(with_reducible intro hfact)|((try dsimp only);(rw[B6 he]))|((try dsimp only);rw[hw])|(((with_reducible apply A9));(focus (simp only[D.at,D.put,D.kid,D.setKid,mkSt,Ap,D.toI,toIs,Ak,Af,g1,C7]<;>exact rfl))))
    all_goals(try(conv=>whnf))
    refine Round.by (j+1,Bm F ⟨ck,cv,true⟩,Dn F++[.str ck],Dt F++[.it (Chg.mk ck cv true).toI]) ?_ (hmain _ _ g2.symm g3.symm) (by dsimp only;omega)
    try dsimp only
    show norm _ _=upd _ _
    kernel_rfl
   |false=>
    have hc3:cv.length≤256:=by simpa using hc2
    repeat'((conv=>whnf);first|((with_reducible refine Ax (by first|(with_reducible exact Bool.of_not_eq_false (by assumption))|(with_reducible rfl)) (fun hb=>?_));(try rw[hb]);(try simp only[Aa]at hb))|((with_reducible refine Aw (by(with_reducible rfl)) (fun hb=>?_));(try rw[hb]);(try simp only[Aa]at hb))|((with_reducible refine And.intro (fun hb=>?_) (fun hb=>?_))<;>first|(exfalso;((simp only[Bu]at hb<;>omega)))|((try rw[hb]);(try simp only[Aa]at hb)))|((with_reducible refine Exists.intro ?_ ?_);focus (and_intros<;>first|omega|(with_reducible rfl)|kernel_rfl|(simp;done)))|(with_reducible intro hfact)|((try dsimp only);(rw[B6 he]))|((try dsimp only);rw[hw])|(((with_reducible apply A9));(focus (simp only[D.at,D.put,D.kid,D.setKid,mkSt,Ap,D.toI,toIs,Ak,Af,g1,C7]<;>exact rfl))))
    all_goals(try(conv=>whnf))
    refine Round.by (j+1,Bm F ⟨ck,cv,false⟩,Dn F++[.str ck],Dt F++[.it (Chg.mk ck cv false).toI]) ?_ (hmain _ _ g2.symm g3.symm) (by dsimp only;omega)
    try dsimp only
    show norm _ _=upd _ _
    kernel_rfl
  |some q=>
   obtain⟨g1,g2,g3⟩:=Xg hq;obtain⟨ck,cv,cg⟩:=c;dsimp only at hc1 hc1' hc2;cases cg with
   |true=>
    repeat'((conv=>whnf);first|((with_reducible refine Ax (by(with_reducible exact Bool.of_not_eq_false (by assumption))) (fun hb=>?_));(try rw[hb]);(try simp only[Aa]at hb))|((with_reducible refine Aw (by(with_reducible rfl)) (fun hb=>?_));(try rw[hb]);(try simp only[Aa]at hb))|((with_reducible refine And.intro (fun hb=>?_) (fun hb=>?_))<;>first|(exfalso;((simp only[Bu]at hb<;>omega)))|((try rw[hb]);(try simp only[Aa]at hb)))|((with_reducible refine Exists.intro ?_ ?_);focus (and_intros<;>first|omega|(with_reducible rfl)|kernel_rfl|(simp;done)))|(with_reducible intro hfact)|((try dsimp only);(rw[B6 he]))|((try dsimp only);rw[hw])|(((with_reducible apply A9));(focus (simp only[D.at,D.put,D.kid,D.setKid,mkSt,Ap,D.toI,toIs,Ak,Af,g1,C7]<;>exact rfl))))
    all_goals(try(conv=>whnf))
    refine Round.by (j+1,Bm F ⟨ck,cv,true⟩,Dn F,(Dt F).set q (.it (Chg.mk ck cv true).toI)) ?_ (hmain _ _ g2.symm g3.symm) (by dsimp only;omega)
    try dsimp only
    show norm _ _=upd _ _
    kernel_rfl
   |false=>
    have hc3:cv.length≤256:=by simpa using hc2
    repeat'((conv=>whnf);first|((with_reducible refine Ax (by first|(with_reducible exact Bool.of_not_eq_false (by assumption))|(with_reducible rfl)) (fun hb=>?_));(try rw[hb]);(try simp only[Aa]at hb))|((with_reducible refine Aw (by(with_reducible rfl)) (fun hb=>?_));(try rw[hb]);(try simp only[Aa]at hb))|((with_reducible refine And.intro (fun hb=>?_) (fun hb=>?_))<;>first|(exfalso;((simp only[Bu]at hb<;>omega)))|((try rw[hb]);(try simp only[Aa]at hb)))|((with_reducible refine Exists.intro ?_ ?_);focus (and_intros<;>first|omega|(with_reducible rfl)|kernel_rfl|(simp;done)))|(with_reducible intro hfact)|((try dsimp only);(rw[B6 he]))|((try dsimp only);rw[hw])|(((with_reducible apply A9));(focus (simp only[D.at,D.put,D.kid,D.setKid,mkSt,Ap,D.toI,toIs,Ak,Af,g1,C7]<;>exact rfl))))
    all_goals(try(conv=>whnf))
    refine Round.by (j+1,Bm F ⟨ck,cv,false⟩,Dn F,(Dt F).set q (.it (Chg.mk ck cv false).toI)) ?_ (hmain _ _ g2.symm g3.symm) (by dsimp only;omega)
    try dsimp only
    show norm _ _=upd _ _
    kernel_rfl
 have hlt:¬decide ((j:Int)<(cs.length:Int))=true:=by simp;omega
 have hlt2:¬decide ((j:Int)<((cs.map Chg.toI).length:Int))=true:=by simp;omega
 rw[List.drop_eq_nil_of_le (by omega)]at hR
 have hR:some F=RES:=hR;rw[hRES]at hR;cases hR;have hFl2:FF.length≤1000:=by omega
 repeat'((conv=>whnf);((with_reducible refine Aw (by(with_reducible exact Bool.of_not_eq_true (by assumption))) (fun hb=>?_));(try rw[hb]);(try simp only[Aa]at hb)))
 all_goals(try(conv=>whnf))
 refine LoopWq.by (X:=List Nat × Option Nat × Int × Int) (fun y=>[(64,.mit (Dn FF) (Dt FF) y.1 y.2.1),(8,.v (ti y.2.2.1)),(9,.v (ti y.2.2.2))])
  (fun y=>(∀i∈y.1,i<FF.length)∧y.1.length≤FF.length∧y.2.2.1+sumI (y.1.map (qAt qB n s.l FF))=B∧y.2.2.2+sumI (y.1.map (qAt qK n s.l FF))=K∧(B0 - 1400*((FF.length - y.1.length:Nat):Int)≤y.2.2.1∧y.2.2.1≤B0+1400*((FF.length - y.1.length:Nat):Int))∧(K0 - ((FF.length - y.1.length:Nat):Int)≤y.2.2.2∧y.2.2.2≤K0+((FF.length - y.1.length:Nat):Int)))
  (fun y=>y.1.length) (List.range (Dn FF).length,none,B0,K0) (by kernel_rfl) ⟨by simp[Dn],by simp[Dn],by simpa[Dn]using hB,by simpa[Dn]using hK,by simp[Dn],by simp[Dn]⟩ ?_
 rintro⟨left,cur,b,k⟩ ⟨hlt3,hll,hsB,hsK,hb1,hk1⟩;dsimp only at hlt3 hll hsB hsK hb1 hk1 ⊢;cases hL:left.isEmpty with
 |true=>
  have hnil:left=[]:=by simpa using hL
  subst hnil;have e1:b=B:=by simpa[sumI]using hsB
  have e2:k=K:=by simpa[sumI]using hsK
  subst e1 e2;repeat'((conv=>whnf);first|((with_reducible refine Ax (by(with_reducible assumption)) (fun hb=>?_)))|((with_reducible refine Aw (by first|(with_reducible exact Bool.of_not_eq_true (by assumption))|(with_reducible rfl)) (fun hb=>?_));(try rw[hb]);(try simp only[Aa]at hb))|((with_reducible refine Exists.intro ?_ ?_);focus (and_intros<;>omega)))
  all_goals(try(conv=>whnf))
  (apply dKq<;>kernel_rfl)
 |false=>
  repeat'((conv=>whnf);first|((with_reducible refine Aw (by(with_reducible assumption)) (fun hb=>?_)))|((with_reducible refine Exists.intro ?_ ?_);focus (and_intros<;>omega)))
  all_goals(try(conv=>whnf))
  refine⟨fun i hi=>?_⟩
  have hil:=hlt3 i hi;obtain⟨c,he⟩:∃c,FF[i]?=some c:=⟨_,List.getElem?_eq_getElem hil⟩;have hco:=hok c (List.mem_of_getElem? he);have hr:=Aff hI hm n hn (spK1 c.key) 0 1;rw[Xn hI hf hco.1.2]at hr;have hky:=Uk c.key (by have:=hco.1.2;omega)
  rw[Xq hi,Ts he]at hsB hsK;have hel:(left.erase i).length=left.length - 1:=List.length_erase_of_mem hi;have hpos:1≤left.length:=List.length_pos_of_mem hi;have hmem:∀x∈left.erase i,x<FF.length:=fun x hx=>hlt3 x (List.mem_of_mem_erase hx)
  have hwv:=Abt hI.lb (B7 n c.key);generalize Q1 s.l (B7 n c.key)=was at*;obtain⟨wr,wm,wv,wg⟩:=was;obtain⟨ck,cv,cg⟩:=c;obtain⟨⟨hc1,hc2⟩,hc3⟩:=hco;obtain⟨SB,hSB⟩:∃S,sumI ((left.erase i).map (qAt qB n s.l FF))=S:=⟨_,rfl⟩;obtain⟨SK,hSK⟩:∃S,sumI ((left.erase i).map (qAt qK n s.l FF))=S:=⟨_,rfl⟩;rw[hSB]at hsB;rw[hSK]at hsK;unfold qB at hsB;unfold qK at hsK;dsimp only at hwv hc1 hc2 hc3 hsB hsK hr hky;unfold Vw at hr;dsimp only at hr;have hfin:∀(b' k':Int),b'+SB=B→k'+SK=K→(b - 1400≤b'∧b'≤b+1400)→(k - 1≤k'∧k'≤k+1)→
   (∀i_1∈left.erase i,i_1<FF.length)∧(left.erase i).length≤FF.length∧b'+sumI ((left.erase i).map (qAt qB n s.l FF))=B∧k'+sumI ((left.erase i).map (qAt qK n s.l FF))=K∧(B0 - 1400*((FF.length - (left.erase i).length:Nat):Int)≤b'∧b'≤B0+1400*((FF.length - (left.erase i).length:Nat):Int))∧(K0 - ((FF.length - (left.erase i).length:Nat):Int)≤k'∧k'≤K0+((FF.length - (left.erase i).length:Nat):Int)):=
   fun b' k' h1 h2 h3 h4=>⟨hmem,by omega,by rw[hSB];exact h1,by rw[hSK];exact h2,by rw[hel];omega,by rw[hel];omega⟩
  cases wg with
  |true=>
   simp only[if_true]at hr hsB hsK;cases cg with
   |true=>
    simp only[if_true]at hsB hsK;repeat'((conv=>whnf);first|((with_reducible refine Ax (by(with_reducible rfl)) (fun hb=>?_));(try rw[hb]);(try simp only[Aa]at hb))|((with_reducible refine And.intro (fun hb=>?_) (fun hb=>?_))<;>first|(exact absurd hb (by decide))|((try rw[hb]);(try simp only[Aa]at hb)))|((with_reducible refine Exists.intro ?_ ?_);focus (and_intros<;>first|omega|(with_reducible rfl)|kernel_rfl|(intro _ hh;cases hh;done)|(simp;done)|decide))|(with_reducible intro hfact)|((try dsimp only);(rw[Cv he]))|((with_reducible refine CallWp.mk ?_);refine⟨_,hky,?_⟩;rintro _ _ ⟨rfl,rfl⟩)|((with_reducible refine CallWp.mk ?_);refine⟨_,hr,?_⟩;rintro _ _ ⟨rfl,rfl⟩))
    all_goals(try(conv=>whnf))
    refine Round.by (left.erase i,some i,b,k) ?_ (hfin (b) (k) (by omega) (by omega) (by omega) (by omega)) (by dsimp only;omega)
    try dsimp only
    show norm _ _=upd _ _
    kernel_rfl
   |false=>
    have hc4:cv.length≤256:=by simpa using hc3
    simp only[Bool.false_eq_true,if_false]at hsB hsK;have w1:IntKind.i64.wrap (k+1)=k+1:=Bf (by omega)
    have w2:IntKind.i64.wrap ((ck.length:Int)+(cv.length:Int))=(ck.length:Int)+(cv.length:Int):=Bf (by omega)
    have w3:IntKind.i64.wrap (b+((ck.length:Int)+(cv.length:Int)))=b+((ck.length:Int)+(cv.length:Int)):=Bf (by omega)
    repeat'((conv=>whnf);first|((with_reducible refine Ax (by(with_reducible rfl)) (fun hb=>?_));(try rw[hb]);(try simp only[Aa]at hb))|((with_reducible refine And.intro (fun hb=>?_) (fun hb=>?_))<;>first|(exact absurd hb (by decide))|((try rw[hb]);(try simp only[Aa]at hb)))|((with_reducible refine Exists.intro ?_ ?_);focus (and_intros<;>first|omega|(with_reducible rfl)|kernel_rfl|(intro _ hh;cases hh;done)|(simp;done)|decide))|(with_reducible intro hfact)|((try dsimp only);(rw[Cv he]))|((with_reducible refine CallWp.mk ?_);refine⟨_,hky,?_⟩;rintro _ _ ⟨rfl,rfl⟩)|((with_reducible refine CallWp.mk ?_);refine⟨_,hr,?_⟩;rintro _ _ ⟨rfl,rfl⟩)|((try dsimp only);rw[w2])|(skip;rw[w1])|(skip;rw[w3]))
    all_goals(try(conv=>whnf))
    refine Round.by (left.erase i,some i,b+((ck.length:Int)+(cv.length:Int)),k+1) ?_ (hfin (b+((ck.length:Int)+(cv.length:Int))) (k+1) (by omega) (by omega) (by omega) (by omega)) (by dsimp only;omega)
    try dsimp only
    show norm _ _=upd _ _
    kernel_rfl
  |false=>
   simp only[Bool.false_eq_true,if_false]at hr hsB hsK;have v1:IntKind.i64.wrap (k - 1)=k - 1:=Bf (by omega)
   have v2:IntKind.i64.wrap ((ck.length:Int)+(wv.length:Int))=(ck.length:Int)+(wv.length:Int):=Bf (by omega)
   have v3:IntKind.i64.wrap (b - ((ck.length:Int)+(wv.length:Int)))=b - ((ck.length:Int)+(wv.length:Int)):=Bf (by omega)
   cases cg with
   |true=>
    simp only[if_true]at hsB hsK;repeat'((conv=>whnf);first|((with_reducible refine Ax (by(with_reducible rfl)) (fun hb=>?_));(try rw[hb]);(try simp only[Aa]at hb))|((with_reducible refine And.intro (fun hb=>?_) (fun hb=>?_))<;>first|(exact absurd hb (by decide))|(exfalso;((simp only[Bu]at hb<;>omega)))|((try rw[hb]);(try simp only[Aa]at hb)))|((with_reducible refine Exists.intro ?_ ?_);focus (and_intros<;>first|omega|(with_reducible rfl)|kernel_rfl|(intro _ hh;cases hh;done)|(simp;done)|decide))|(with_reducible intro hfact)|((try dsimp only);(rw[Cv he]))|((with_reducible refine CallWp.mk ?_);refine⟨_,hky,?_⟩;rintro _ _ ⟨rfl,rfl⟩)|((with_reducible refine CallWp.mk ?_);refine⟨_,hr,?_⟩;rintro _ _ ⟨rfl,rfl⟩)|((try dsimp only);rw[v2])|(skip;rw[v1])|(skip;rw[v3]))
    all_goals(try(conv=>whnf))
    refine Round.by (left.erase i,some i,b - ((ck.length:Int)+(wv.length:Int)),k - 1) ?_ (hfin (b - ((ck.length:Int)+(wv.length:Int))) (k - 1) (by omega) (by omega) (by omega) (by omega)) (by dsimp only;omega)
    try dsimp only
    show norm _ _=upd _ _
    kernel_rfl
   |false=>
    have hc4:cv.length≤256:=by simpa using hc3
    simp only[Bool.false_eq_true,if_false]at hsB hsK;have w1:IntKind.i64.wrap (k - 1+1)=k:=by rw[Bf (by omega)];omega
    have w2:IntKind.i64.wrap ((ck.length:Int)+(cv.length:Int))=(ck.length:Int)+(cv.length:Int):=Bf (by omega)
    have w3:IntKind.i64.wrap (b - ((ck.length:Int)+(wv.length:Int))+((ck.length:Int)+(cv.length:Int)))=b+((cv.length:Int) - (wv.length:Int)):=by rw[Bf (by omega)];omega
    repeat'((conv=>whnf);first|((with_reducible refine Ax (by(with_reducible rfl)) (fun hb=>?_));(try rw[hb]);(try simp only[Aa]at hb))|((with_reducible refine And.intro (fun hb=>?_) (fun hb=>?_))<;>first|(exact absurd hb (by decide))|(exfalso;((simp only[Bu]at hb<;>omega)))|((try rw[hb]);(try simp only[Aa]at hb)))|((with_reducible refine Exists.intro ?_ ?_);focus (and_intros<;>first|omega|(with_reducible rfl)|kernel_rfl|(intro _ hh;cases hh;done)|(simp;done)|decide))|(with_reducible intro hfact)|((try dsimp only);(rw[Cv he]))|((with_reducible refine CallWp.mk ?_);refine⟨_,hky,?_⟩;rintro _ _ ⟨rfl,rfl⟩)|((with_reducible refine CallWp.mk ?_);refine⟨_,hr,?_⟩;rintro _ _ ⟨rfl,rfl⟩)|((try dsimp only);rw[v2])|(skip;rw[v1])|(skip;rw[v3])|(skip;rw[w2])|(skip;rw[w1])|(skip;rw[w3]))
    all_goals(try(conv=>whnf))
    refine Round.by (left.erase i,some i,b+((cv.length:Int) - (wv.length:Int)),k) ?_ (hfin (b+((cv.length:Int) - (wv.length:Int))) (k) (by omega) (by omega) (by omega) (by omega)) (by dsimp only;omega)
    try dsimp only
    show norm _ _=upd _ _
    kernel_rfl
end Go.Ab
