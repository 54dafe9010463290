/- Lemmas -/
import Derived.Test.YtkpojedpcabojaaDoorV14
set_option linter.unusedVariables false
set_option linter.unusedSimpArgs false
namespace Go.Ab
theorem Ant{l:List Hld}{n k:Az}{e:Hld}(hn:n.length<256)(hl:LSo l)(hv:∀h∈l,Lies h.at_)(he:e∈l)(ha:e.at_=B7 n k):Jm (keysOf n l) k=e.vs:=by
 have hs:=Ws (n:=n) hl hv;have hm:(⟨k,e.vs⟩:Kv)∈keysOf n l:=List.mem_filterMap.2 ⟨e,he,by unfold G3;rw[ha,Mt hn];simp⟩
 have:∀{ks:List Kv},KSo ks→(⟨k,e.vs⟩:Kv)∈ks→Jm ks k=e.vs:=by
  intro ks;induction ks with
  |nil=>intro _ h;cases h
  |cons x r ih=>
   intro hs hm;obtain⟨s1,s2⟩:=List.pairwise_cons.1 hs;rw[Dv];rcases List.mem_cons.1 hm with rfl|hm
   ·rw[if_pos rfl]
   ·have:=s1 _ hm;dsimp only at this;rw[if_neg (fun q=>by rw[q]at this;exact absurd this (List.lt_irrefl _)),ih s2 hm]
 exact this hs hm
theorem Am5{l:List Hld}{n k:Az}(hv:∀h∈l,Lies h.at_)(h:∀e∈l,e.at_≠B7 n k):Jm (keysOf n l) k=[]:=by
 unfold Jm;rw[List.find?_eq_none.2]
 ·rfl
 ·intro x hx q;simp only[decide_eq_true_eq]at q;obtain⟨e,he,h2,_⟩:=Qq hv hx;rw[q]at h2;exact h e he h2
theorem Am3{l:List Hld}{n k:Az}(hn:n.length<256)(hl:LSo l)(hv:∀h∈l,Lies h.at_):Q1 l (B7 n k)=newK (keysOf n l) k:=by
 cases hf:bsF (Kh (B7 n k)) (eqH (B7 n k)) l with
 |true=>
  obtain⟨e,h2,h3⟩:=Afp hf;rw[Ai4 hf h2];unfold newK A1;rw[Ant hn hl hv (List.mem_of_getElem? h2) (by simpa[eqH]using h3)]
 |false=>
  rw[show Q1 l (B7 n k)=Aj from Sto.lastM_no (s:=⟨[],l⟩) hf,Akz];refine Am5 hv fun e he q=>?_
  have hsplit:e∈l.take (Km (Kh (B7 n k)) l)∨e∈l.drop (Km (Kh (B7 n k)) l):=by
   rw[←List.mem_append,List.take_append_drop];exact he
  rcases hsplit with h|h
  ·have:=Amk hl e h;rw[q]at this;exact absurd this (List.lt_irrefl _)
  ·have:=Amh hl hf e h;rw[q]at this;exact absurd this (List.lt_irrefl _)
theorem Acz{n k:Az}{c:Chg}{x:WSt}{p:Spc}(hr:p.rev=x.t.rev):
 (Uw p (Q1 x.l (B7 n k)) c=[]∧(Dw n k c x).l=x.l∧(Dw n k c x).w=x.w)∨∃v,Uw p (Q1 x.l (B7 n k)) c=[v]∧(Dw n k c x).l=putA x.l (B7 n k) v∧(Dw n k c x).w=true:=by
 unfold Dw Uw Xq;dsimp only;rw[hr];by_cases h:c.gone=true∧(Q1 x.l (B7 n k)).gone=true
 ·rw[if_pos h,if_pos h];exact .inl ⟨rfl,rfl,rfl⟩
 ·rw[if_neg h,if_neg h];right;by_cases hc:c.gone=true
  ·rw[if_pos hc,if_pos hc];exact⟨_,rfl,rfl,rfl⟩
  ·rw[if_neg hc,if_neg hc];by_cases hw:(Q1 x.l (B7 n k)).gone=true
   ·rw[if_pos hw,if_pos hw];exact⟨_,rfl,rfl,rfl⟩
   ·rw[if_neg hw,if_neg hw];exact⟨_,rfl,rfl,rfl⟩
theorem Aia{n:Az}{F:List Chg}{R:Az→Int}{p:Spc}{W:Az→Ver}(hn:n.length<256)(hp:0≤p.rev):∀{KK:List Az} {x:WSt},KK.Nodup→p.rev=x.t.rev→WInv (bndW n p.rev R KK) x.l→(∀k∈KK,newK (keysOf n x.l) k=W k)→
 (∀k,Jm (keysOf n (Ge n F KK x).l) k=Jm (keysOf n x.l) k++(if k∈KK then Uw p (W k) (Hq F k)else[]))∧
 ((Ge n F KK x).w=x.w∧(∀k∈KK,Uw p (W k) (Hq F k)=[])∨(Ge n F KK x).w=true∧∃k∈KK,Uw p (W k) (Hq F k)≠[])
 | [],x,_,_,_,_=>⟨fun k=>by simp[Ge],.inl ⟨rfl,fun k hk=>by cases hk⟩⟩
 |k0::KK,x,hd,hr,hw,hW=>by
  obtain⟨d1,d2⟩:=List.nodup_cons.1 hd;have hv:∀h∈x.l,Lies h.at_:=fun h hh=>(hw.2 h hh).1
  have g1:=Ag6 (x:=x) (R:=R) (c:=Hq F k0) hn d1 (by omega) (by rw[←hr];exact hw)
  rw[←hr]at g1;have hlast:Q1 x.l (B7 n k0)=W k0:=by rw[Am3 hn hw.1 hv];exact hW k0 (List.mem_cons_self ..)
  have hlook:∀k,Jm (keysOf n (Dw n k0 (Hq F k0) x).l) k=Jm (keysOf n x.l) k++(if k=k0 then Uw p (W k0) (Hq F k0)else[]):=by
   intro k;rcases Acz (n:=n) (k:=k0) (c:=Hq F k0) (x:=x) hr with⟨e1,e2,_⟩|⟨v,e1,e2,_⟩
   ·rw[hlast]at e1;rw[e2,e1];simp
   ·rw[hlast]at e1;rw[e2,e1,Anb hn hw.1 hv,Af7 k (Ws hw.1 hv)];by_cases e:k=k0
    ·subst e;rw[if_pos rfl,if_pos rfl]
    ·rw[if_neg e,if_neg e];simp
  obtain⟨i1,i2⟩:=Aia (F:=F) (R:=R) (p:=p) (W:=W) hn hp (KK:=KK) (x:=Dw n k0 (Hq F k0) x) d2 (hr.trans (Agt _ _ _ _).1.symm) g1 (fun k hk=>by
   unfold newK;rw[hlook,if_neg (fun e=>d1 (by rw[←e];exact hk)),List.append_nil]
   exact hW k (List.mem_cons_of_mem _ hk))
  refine⟨fun k=>?_,?_⟩
  ·rw[show Ge n F (k0::KK) x=Ge n F KK (Dw n k0 (Hq F k0) x)from rfl,i1,hlook];by_cases e:k=k0
   ·subst e;rw[if_pos rfl,if_neg d1,if_pos (List.mem_cons_self ..)];simp
   ·rw[if_neg e,List.append_nil];simp only[List.mem_cons,e,false_or]
  ·rw[show Ge n F (k0::KK) x=Ge n F KK (Dw n k0 (Hq F k0) x)from rfl];rcases Acz (n:=n) (k:=k0) (c:=Hq F k0) (x:=x) hr with⟨e1,e2,e3⟩|⟨v,e1,e2,e3⟩
   ·rw[hlast]at e1;rcases i2 with⟨j1,j2⟩|⟨j1,k,hk,j2⟩
    ·refine .inl ⟨j1.trans e3,fun k hk=>?_⟩
     rcases List.mem_cons.1 hk with rfl|hk
     ·exact e1
     ·exact j2 k hk
    ·exact .inr ⟨j1,k,List.mem_cons_of_mem _ hk,j2⟩
   ·rw[hlast]at e1;refine .inr ⟨?_,k0,List.mem_cons_self ..,by rw[e1];simp⟩
    rcases i2 with⟨j1,_⟩|⟨j1,_⟩
    ·rw[j1,e3]
    ·exact j1
theorem Akc:∀{cs F:List Chg},Xc cs=(K6 cs F).isSome
 | [],F=>rfl
 |c::r,F=>by
  unfold Xc K6;by_cases h:c.ok
  ·rw[if_pos h,if_pos h];exact Akc
  ·rw[if_neg h,if_neg h];rfl
theorem Am7{m:Nat}{s:Sto}(h:SInv m s){n:Az}{cs FF:List Chg}{i:Nat}(hi:s.fi n=some i)(hF:K6 cs []=some FF){q:Nat}(hq:s.names[q]?=some n):
 (s.writeM n cs).1.ref=s.ref.set q (rwGo (s.spcS n) cs (s.spcS n))∧(s.writeM n cs).2.1=(rwGo (s.spcS n) cs (s.spcS n)).rev∧(s.writeM n cs).2.2=0:=by
 have hn:=h.name hi;obtain⟨f1,f2,_⟩:=Agz hF (by simp) (by simp)
 have hrv:=h.rv n;have hv0:∀y∈s.l,Lies y.at_:=fun y hy=>(h.wi.2 y hy).1
 have hks:=Ws (n:=n) h.wi.1 hv0;have hne:∀x∈keysOf n s.l,x.vs≠[]∧∀u∈x.vs,u.rev≤(s.tal n).rev:=fun x hx=>by
  obtain⟨y,hy,e1,e2⟩:=Qq hv0 hx;rw[←e2];refine⟨(h.lb.held y hy).2.1,fun u hu=>?_⟩
  have:=((h.wi.2 y hy).2.2 u hu).2;dsimp only at this;rw[e1,Mt hn]at this;exact this
 obtain⟨r1,r2,r3,r4,r5,r6⟩:=Ahh (p:=s.spcS n) hks hne (cs:=cs) (nx:=s.spcS n) hks fun x hx=>(hne x hx).1
 have hstart:=h.start n (Dc (FF.map Chg.key));obtain⟨w1,w2⟩:=Aia (F:=FF) (R:=fun n=>(s.tal n).rev) (p:=s.spcS n) (W:=newK (keysOf n s.l)) hn (show 0≤(s.tal n).rev by omega) (KK:=Dc (FF.map Chg.key)) (x:=⟨s.tal n,s.l,false⟩) (Ahj f1) rfl hstart fun k _=>rfl
 obtain⟨g1,g2,g3⟩:=Ahn (F:=FF) (x:=⟨s.tal n,s.l,false⟩) hn (Ahj f1) (show 0≤(s.tal n).rev by omega) hstart
 obtain⟨b1,_⟩:=Ah0 (n:=n) (F:=FF) (x:=⟨s.tal n,s.l,false⟩) (KK:=Dc (FF.map Chg.key)) (by omega) h.lb (h.tb n) fun k hk=>Ajq f2 hk
 have hplan:∀k,(if k∈Dc (FF.map Chg.key)then Uw (s.spcS n) (newK (keysOf n s.l) k) (Hq FF k)else[])=Qy (s.spcS n) (newK (keysOf n s.l) k) (Lr cs k):=fun k=>by
  have hfd:=Ajv hF k;rw[show([]:List Chg).find? (fun x=>decide (x.key=k))=none from rfl,Option.or_none]at hfd
  by_cases hk:k∈FF.map Chg.key
  ·rw[if_pos (Aje.2 hk)];unfold Hq;cases hl:FF.find? (fun x=>decide (x.key=k))with
   |some c=>rw[←hfd,hl];rfl
   |none=>
    rw[List.find?_eq_none]at hl;obtain⟨c,hc,e⟩:=List.mem_map.1 hk;exact absurd (by simpa using e) (hl c hc)
  ·rw[if_neg (fun c=>hk (Aje.1 c)), ←hfd,List.find?_eq_none.2]
   ·rfl
   ·intro c hc e;simp only[decide_eq_true_eq]at e;exact hk (List.mem_map.2 ⟨c,hc,e⟩)
 have hwk:=Aiw (g:=fun _:Hld=>(none:Option Unit)) h n cs (fun _ _ _ _=>rfl) (fun _ _ _ _ _ _ _=>rfl)
 have hWM:s.writeM n cs=(⟨s.sp.set i (n,(Ge n FF (Dc (FF.map Chg.key)) ⟨s.tal n,s.l,false⟩).fin),(Ge n FF (Dc (FF.map Chg.key)) ⟨s.tal n,s.l,false⟩).l⟩,(Ge n FF (Dc (FF.map Chg.key)) ⟨s.tal n,s.l,false⟩).fin.rev,0):=by
  unfold Sto.writeM;rw[hi];dsimp only;rw[hF]
 have hkeep:∀k,k≠n→keysOf k (s.writeM n cs).1.l=keysOf k s.l:=fun k hk=>Aiw h n cs (fun k' v hn' _=>Nv (by dsimp only;rw[Mt hn'];exact fun e=>hk e.symm)) (fun y k' v hn' e _ _=>by
  have:(C1 y.at_).1≠k:=by rw[e,Mt hn'];exact fun e=>hk e.symm
  rw[Nv this];exact Nv this)
 rw[hWM]at hkeep ⊢;generalize Ge n FF (Dc (FF.map Chg.key)) ⟨s.tal n,s.l,false⟩=Z at*;dsimp only at w1 w2 g1 g2 g3 b1 hkeep ⊢;have hvZ:∀y∈Z.l,Lies y.at_:=fun y hy=>(g1.2 y hy).1
 have hkeys:keysOf n Z.l=(rwGo (s.spcS n) cs (s.spcS n)).keys:=by
  refine KSo.ext (Ws g1.1 hvZ) r1 (fun x hx=>?_) r2 fun k=>?_
  ·obtain⟨y,hy,_,e2⟩:=Qq hvZ hx;rw[←e2];exact(b1.held y hy).2.1
  ·rw[w1,r5,hplan];rfl
 have hrev:Z.fin.rev=(rwGo (s.spcS n) cs (s.spcS n)).rev:=by
  unfold WSt.fin;rcases w2 with⟨j1,j2⟩|⟨j1,k,hk,j2⟩
  ·rw[j1,if_neg (by simp),g2]
   rcases r6 with⟨q1,_⟩|⟨_,k,q2⟩
   ·rw[q1];rfl
   ·exfalso;have q3:Qy (s.spcS n) (newK (keysOf n s.l) k) (Lr cs k)≠[]:=q2;rw[←hplan k]at q3;by_cases hk:k∈Dc (FF.map Chg.key)
    ·rw[if_pos hk]at q3;exact q3 (j2 k hk)
    ·rw[if_neg hk]at q3;exact q3 rfl
  ·rw[j1,if_pos rfl];dsimp only;rw[g2];rcases r6 with⟨_,q2⟩|⟨q1,_⟩
   ·exfalso;have q3:Qy (s.spcS n) (newK (keysOf n s.l) k) (Lr cs k)=[]:=q2 k;rw[←hplan k,if_pos hk]at q3;exact j2 q3
   ·rw[q1];rfl
 refine⟨?_,hrev,rfl⟩;have hself:(Sto.mk (s.sp.set i (n,Z.fin)) Z.l).spcS n=rwGo (s.spcS n) cs (s.spcS n):=by
  unfold Sto.spcS at hkeys hrev r3 r4 ⊢;rw[Mi hi,if_pos rfl];dsimp only at r3 r4 ⊢;generalize rwGo ⟨n,(s.tal n).rev,(s.tal n).floor,keysOf n s.l⟩ cs ⟨n,(s.tal n).rev,(s.tal n).floor,keysOf n s.l⟩=Y at*;obtain⟨yn,yr,yf,yk⟩:=Y;dsimp only at hkeys hrev r3 r4;have hfl:Z.fin.floor=Z.t.floor:=by unfold WSt.fin;split<;>rfl
  rw[hkeys,hrev,hfl,g3,r3,r4]
 unfold Sto.ref;rw[show(Sto.mk (s.sp.set i (n,Z.fin)) Z.l).names=s.names by unfold Sto.names;rw[Agj hi], ←hself]
 refine(Ais (Ait h) hq fun k hk hne'=>?_).symm
 unfold Sto.spcS;rw[Mi hi,if_neg hne',hkeep k hne']

def insN(n:Az):List Az→List Az
 | []=>[n]
 |p::r=>if n<p then n::p::r else p::insN n r
theorem Ajx{n:Az}:∀{r out:List Spc},P3 n r out true=out++r
 | [],out=>by unfold P3;rw[if_pos rfl,List.append_nil]
 |p::r,out=>by
  unfold P3;rw[if_neg (fun c=>by cases c.1),if_neg (fun c=>by cases c.1),Ajx,List.append_assoc];rfl
theorem Akp{f:Az→Spc}(hf:∀m,(f m).name=m){n:Az}(hn:f n=⟨n,0,0,[]⟩):∀{NM:List Az} {out:List Spc},P3 n (NM.map f) out false=out++(insN n NM).map f
 | [],out=>by
   show P3 n [] out false=_;unfold P3;rw[if_neg (by simp), ←hn];rfl
 |p::r,out=>by
  show P3 n (f p::r.map f) out false=_;unfold P3 insN;rw[hf p];by_cases c:n<p
  ·rw[if_pos ⟨rfl,c⟩,if_pos ⟨rfl,c⟩,if_pos c,Ajx, ←hn];simp
  ·rw[if_neg (fun q=>c q.2),if_neg (fun q=>c q.2),if_neg c,Akp hf hn]
   simp
theorem Af8{n:Az}:∀{l:List Az},(insN n l).Perm (n::l)
 | []=>List.Perm.refl _
 |p::r=>by
  unfold insN;split
  ·exact List.Perm.refl _
  ·exact(List.Perm.cons p Af8).trans (List.Perm.swap ..)
theorem Aik{n:Az}:∀{l:List Az},l.Pairwise (· ≤ ·)→(insN n l).Pairwise (· ≤ ·)
 | [],_=>by unfold insN;simp
 |p::r,h=>by
  obtain⟨h1,h2⟩:=List.pairwise_cons.1 h;unfold insN;split
  ·rename_i c;refine List.pairwise_cons.2 ⟨fun x hx=>?_,h⟩
   rcases List.mem_cons.1 hx with rfl|hx
   ·exact List.le_of_lt c
   ·exact List.le_trans (List.le_of_lt c) (h1 x hx)
  ·rename_i c;refine List.pairwise_cons.2 ⟨fun x hx=>?_,Aik h2⟩
   rcases List.mem_cons.1 (Af8.mem_iff.1 hx)with rfl|hx
   ·exact List.not_lt.1 c
   ·exact h1 x hx
theorem Ahx(l:List Az):(Dc l).Pairwise (· ≤ ·):=by
 have:=List.pairwise_mergeSort (le:=fun x y:Az=>decide (x≤y)) (fun a b c h1 h2=>by
  simp only[decide_eq_true_eq]at*;exact List.le_trans h1 h2) (fun a b=>by
  simp only[Bool.or_eq_true,decide_eq_true_eq];exact List.le_total a b) l
 exact this.imp fun h=>by simpa using h
theorem Aj5:∀{a b:List Az},a.Pairwise (· ≤ ·)→b.Pairwise (· ≤ ·)→a.Perm b→a=b
 | [],b,_,_,h=>(List.nil_perm.1 h).symm
 |x::a,[],_,_,h=>absurd h.length_eq (by simp)
 |x::a,y::b,h1,h2,h=>by
  obtain⟨a1,a2⟩:=List.pairwise_cons.1 h1;obtain⟨b1,b2⟩:=List.pairwise_cons.1 h2;have e:x=y:=by
   have m1:x∈y::b:=h.mem_iff.1 (List.mem_cons_self ..);have m2:y∈x::a:=h.mem_iff.2 (List.mem_cons_self ..);rcases List.mem_cons.1 m1 with e|m1
   ·exact e
   ·rcases List.mem_cons.1 m2 with e|m2
    ·exact e.symm
    ·exact List.le_antisymm (a1 y m2) (b1 x m1)
  subst e;rw[Aj5 a2 b2 (List.perm_cons x |>.1 h)]
theorem Amt(l:List Az)(n:Az):Dc (l++[n])=insN n (Dc l):=by
 refine Aj5 (Ahx _) (Aik (Ahx _)) ?_;refine(List.mergeSort_perm ..).trans (List.Perm.trans ?_ Af8.symm);exact(List.perm_append_comm (l₁ :=l) (l₂ :=[n])).trans (List.Perm.cons n (List.mergeSort_perm ..).symm)
theorem Am2{m:Nat}{s:Sto}(h:SInv m s){n:Az}(hf:s.fi n=none):keysOf n s.l=[]:=by
 cases hk:keysOf n s.l with
 |nil=>rfl
 |cons x r=>
  exfalso;have hx:x∈keysOf n s.l:=by rw[hk];exact List.mem_cons_self ..
  obtain⟨y,hy,e⟩:=List.mem_filterMap.1 hx;unfold G3 at e;split at e
  ·rename_i ew;have h3:=(h.wi.2 y hy).2.2;have h4:=(h.lb.held y hy).2.1;cases hv:y.vs with
   |nil=>exact h4 hv
   |cons v t=>
    have:=h3 v (by rw[hv];exact List.mem_cons_self ..)
    dsimp only at this;rw[ew,(Sto.fi_none hf).2]at this;unfold tal0 at this;dsimp only at this;omega
  ·cases e
theorem Anh{m:Nat}{s:Sto}(h:SInv m s){n:Az}(hf:s.fi n=none):s.spcS n=⟨n,0,0,[]⟩:=by
 unfold Sto.spcS;rw[Am2 h hf,(Sto.fi_none hf).2];rfl
theorem Ang{m:Nat}{s:Sto}(h:SInv m s)(n:Az):Zh s.ref n=((s.openM (D9 n) n).1.ref,(s.openM (D9 n) n).2):=by
 cases hnm:D9 n with
 |false=>
  have e1:Zh s.ref n=(s.ref,5):=by unfold Zh;rw[if_pos hnm]
  have e2:s.openM false n=(s,5):=by unfold Sto.openM;rw[if_pos rfl]
  rw[e1,e2]
 |true=>
  have e1:Zh s.ref n=if 0≤Jd n s.ref 0 then(s.ref,15)else if 8≤s.ref.length then(s.ref,17)else(P3 n s.ref [] false,0):=by unfold Zh;rw[if_neg (by rw[hnm];simp)]
  have e2:s.openM true n=if(s.fi n).isSome=true then(s,15)else if 8≤s.sp.length then(s,17)else({s with sp:=s.sp++[(n,tal0)]},0):=by unfold Sto.openM;rw[if_neg (by simp)]
  rw[e1,e2];cases hf:s.fi n with
  |some i=>
   obtain⟨q,hq,_⟩:=Acp (s:=s) (n:=n) (by rw[hf];rfl)
   rw[if_pos (show 0≤Jd n s.ref 0 by rw[hq];omega),if_pos (show(some i).isSome=true from rfl)]
  |none=>
   rw[if_neg (show ¬0≤Jd n s.ref 0 by rw[Ahg hf];omega),if_neg (show ¬(none:Option Nat).isSome=true by simp)]
   have hl:s.ref.length=s.sp.length:=by unfold Sto.ref Sto.names;rw[List.length_map,Ajd,List.length_map]
   rw[hl];by_cases h8:8≤s.sp.length
   ·rw[if_pos h8,if_pos h8]
   ·rw[if_neg h8,if_neg h8];refine Prod.ext ?_ rfl;dsimp only;unfold Sto.ref Sto.names;dsimp only;rw[List.map_append,show([(n,tal0)]:List (Az × Tal)).map (·.1)=[n]from rfl,Amt,Akp (f:=s.spcS) (fun _=>rfl) (Anh h hf),List.nil_append]
    refine List.map_congr_left fun k _=>?_
    unfold Sto.spcS;rw[Aij hf]

def sumV(n:Az):List Hld→Int
 | []=>0
 |h::r=>(if(C1 h.at_).1=n then(h.vs.length:Int)else 0)+sumV n r
theorem Ai6(n:Az):∀a b:List Hld,sumV n (a++b)=sumV n a+sumV n b
 | [],b=>by simp[sumV]
 |h::r,b=>by simp only[List.cons_append,sumV,Ai6 n r b];omega
theorem Ak6{n:Az}{h:Hld}:∀{l:List Hld} {p:Nat} {e:Hld},l[p]?=some e→sumV n (l.set p h)=sumV n l - (if(C1 e.at_).1=n then(e.vs.length:Int)else 0)+(if(C1 h.at_).1=n then(h.vs.length:Int)else 0)
 | [],p,e,he=>by simp at he
 |x::r,0,e,he=>by
  simp only[List.getElem?_cons_zero,Option.some.injEq]at he;subst he;simp only[List.set_cons_zero,sumV];omega
 |x::r,p+1,e,he=>by
  simp only[List.getElem?_cons_succ]at he;simp only[List.set_cons_succ,sumV,Ak6 he];omega
theorem Aen{n:Az}{l:List Hld}{a:Az}{v:Ver}:sumV n (putA l a v)=sumV n l+if(C1 a).1=n then 1 else 0:=by
 unfold putA putL;split
 ·rename_i hf;obtain⟨e,h2,h3⟩:=Afp hf;have h4:e.at_=a:=by simpa[eqH]using h3
  rw[Zv h2,Ak6 h2];dsimp only;rw[h4];split
  ·simp only[List.length_append,List.length_singleton];omega
  ·omega
 ·rename_i hf;rw[Ai6]
  conv=>rhs;rw[←List.take_append_drop (Km (Kh a) l) l,Ai6]
  simp only[sumV,List.length_singleton];split<;>omega
theorem Ahy{n:Az}:∀{l:List Hld} {a:Int},V2 (keysOf n l) a=a+sumV n l
 | [],a=>by show a=a+0;omega
 |h::r,a=>by
  unfold keysOf;rw[List.filterMap_cons];unfold G3;simp only[sumV];by_cases e:(C1 h.at_).1=n
  ·rw[if_pos e,if_pos e];show V2 (keysOf n r) (a+(h.vs.length:Int))=_;rw[Ahy];omega
  ·rw[if_neg e,if_neg e];show V2 (keysOf n r) a=_;rw[Ahy];omega
theorem Akj{n k:Az}{c:Chg}{x:WSt}(hn:n.length<256)(h:x.t.vers=sumV n x.l):(Dw n k c x).t.vers=sumV n (Dw n k c x).l:=by
 have hw:(C1 (B7 n k)).1=n:=by rw[Mt hn]
 unfold Dw;dsimp only;split
 ·exact h
 ·split
  ·dsimp only;rw[Aen,if_pos hw,h]
  ·split
   ·dsimp only;rw[Aen,if_pos hw,h]
   ·dsimp only;rw[Aen,if_pos hw,h]
theorem Akk{n k n':Az}{c:Chg}{x:WSt}(hn:n.length<256)(h:n'≠n):sumV n' (Dw n k c x).l=sumV n' x.l:=by
 rcases Q7 n k c x with e|⟨v,_,e,_⟩
 ·rw[e]
 ·rw[e,Aen,Mt hn,if_neg (fun q=>h q.symm)];omega
theorem Aib{n:Az}{F:List Chg}(hn:n.length<256):∀{KK:List Az} {x:WSt},x.t.vers=sumV n x.l→(Ge n F KK x).t.vers=sumV n (Ge n F KK x).l∧∀n',n'≠n→sumV n' (Ge n F KK x).l=sumV n' x.l
 | [],x,h=>⟨h,fun _ _=>rfl⟩
 |k::KK,x,h=>by
  obtain⟨a,b⟩:=Aib (F:=F) hn (KK:=KK) (Akj (k:=k) (c:=Hq F k) hn h);exact⟨a,fun n' hn'=>(b n' hn').trans (Akk hn hn')⟩
def VInv(s:Sto):Prop:=∀n,(s.tal n).vers=sumV n s.l
theorem VInv.write{m:Nat}{s:Sto}(h:SInv m s)(hc:VInv s)(n:Az)(cs:List Chg):VInv (s.writeM n cs).1:=by
 unfold Sto.writeM;split
 ·exact hc
 ·rename_i i hi;split
  ·exact hc
  ·rename_i F hF;have hn:n.length<256:=by
    obtain⟨_,_,h3⟩:=Sto.fi_some hi;exact h.nm _ (List.mem_of_getElem? h3)
   obtain⟨a,b⟩:=Aib (F:=F) hn (KK:=Dc (F.map Chg.key)) (x:=⟨s.tal n,s.l,false⟩) (hc n);generalize Ge n F (Dc (F.map Chg.key)) ⟨s.tal n,s.l,false⟩=Z at*;intro n';rw[Mi hi];dsimp only at b ⊢;by_cases e:n'=n
   ·subst e;rw[if_pos rfl, ←a];unfold WSt.fin;split<;>rfl
   ·rw[if_neg e,b n' e];exact hc n'
theorem Aku{n:Az}{rev:Int}:∀{l:List Hld} {x:CSt},(Mz n rev l x).c=x.c+sumV n (l.filterMap (Pf n rev))
 | [],x=>by show x.c=x.c+0;omega
 |h::r,x=>by
  unfold Mz;rw[Aku,List.filterMap_cons];unfold Uy Pf;by_cases e:(C1 h.at_).1=n
  ·rw[if_pos e,if_pos e];by_cases g:h.vs.length≤Lm rev h.vs
   ·rw[if_pos g,if_pos g]
   ·rw[if_neg g,if_neg g];dsimp only;simp only[sumV];rw[if_pos e,List.length_drop];omega
  ·rw[if_neg e,if_neg e];dsimp only;simp only[sumV];rw[if_neg e];omega
theorem Ak5{n n':Az}{rev:Int}(hn:n'≠n):∀{l:List Hld},sumV n' (l.filterMap (Pf n rev))=sumV n' l
 | []=>rfl
 |h::r=>by
  rw[List.filterMap_cons];have ih:=Ak5 (rev:=rev) hn (l:=r);by_cases e:(C1 h.at_).1=n
  ·have e2:¬(C1 h.at_).1=n':=fun q=>hn (q.symm.trans e)
   cases hc:Pf n rev h with
   |none=>
    dsimp only;rw[ih];simp only[sumV];rw[if_neg e2,Int.zero_add]
   |some y=>
    obtain⟨a1,k,a2,_⟩:=Agy hc;dsimp only;simp only[sumV];rw[a1,if_neg e2,if_neg e2,Int.zero_add,Int.zero_add,ih]
  ·rw[show Pf n rev h=some h by unfold Pf;rw[if_neg e]]
   dsimp only;simp only[sumV];rw[ih]
theorem VInv.comp{s:Sto}(hc:VInv s)(n:Az)(rev:Int):VInv (s.compM n rev).1:=by
 unfold Sto.compM;split
 ·exact hc
 ·rename_i i hi;split
  ·obtain⟨c1,_⟩:=Ahp (n:=n) (rev:=rev) (l:=s.l) (x:=⟨[],0⟩);have c2:=Aku (n:=n) (rev:=rev) (l:=s.l) (x:=⟨[],0⟩);rw[List.nil_append]at c1;generalize Mz n rev s.l ⟨[],0⟩=Z at*;dsimp only at c2;intro n';rw[Mi hi];dsimp only;rw[c1];by_cases e:n'=n
   ·subst e;rw[if_pos rfl];dsimp only;rw[c2];omega
   ·rw[if_neg e,Ak5 e];exact hc n'
  ·exact hc
theorem VInv.open{s:Sto}(hc:VInv s)(nm:Bool)(n:Az):VInv (s.openM nm n).1:=by
 have h2:=(Ah4 (s:=s) (nm:=nm) (n:=n) (n':=[])).2;intro n';rw[h2,Ah4.1];exact hc n'
set_option maxRecDepth 100000
set_option maxHeartbeats 40000000

open Go.Proofs
theorem Ann(s s':Sto)(R R':List Spc)(n:Az)(l:List Chg)(x:Sp)(rev most a b:Int)
 (hw:Fn Tryd.prog Da [sP s,.v (.str n),.v (.list (l.map Chg.toI))] (Is (.tup [.i (ti a),.i (ti b)]) [sP s',.no,.no]))
 (hv:Fn Tryd.prog Ab1 [rT R,.v (.str n),.v (.list (l.map Chg.toI))] (Is (.tup [.i (ti a),.i (ti b)]) [rT R',.no,.no])):
 Fn Tryd.prog Agu [sP s,rT R,.v (⟨0,n,l,x,rev,most⟩:Opn).toI] (Is (.v (.bool true)) [sP s',rT R',.no]):=by
 refine Agq ?_ (by simp)
 unfold Opn.toI;dsimp only;have g1:¬decide (a=a)=false:=by simp
 repeat'((conv=>whnf);first|((with_reducible refine Ax (by first|(with_reducible exact Bool.of_not_eq_false (by assumption))|((with_reducible refine decide_eq_true ?_);omega)|(with_reducible rfl)) (fun hb=>?_));(try rw[hb]);(try simp only[Aa]at hb))|((with_reducible refine Exists.intro ?_ ?_);focus (and_intros<;>first|omega|kernel_rfl|(intro _ hh;cases hh;done)|(simp;done)|decide))|((with_reducible refine CallWp.mk ?_);refine⟨_,hw,?_⟩;rintro _ _ ⟨rfl,rfl⟩)|((with_reducible refine CallWp.mk ?_);refine⟨_,hv,?_⟩;rintro _ _ ⟨rfl,rfl⟩))
 all_goals(try(conv=>whnf))
 all_goals(refine Done.mk ⟨SV.bool_congr ?_,by kernel_rfl⟩ (by kernel_rfl))
 all_goals(first|rfl|(simp;done))
theorem Ano(s:Sto)(R:List Spc)(n:Az)(l:List Chg)(x:Sp)(rev most:Int)(P:List Pr)(m:Bool)(e:Int)(hP:P.length≤100000)
 (hw:Fn Tryd.prog C9 [sP s,.v (.str n),.v x.toI,.v (ti rev),.v (ti most)] (Is (.tup [.i (.list (P.map Pr.toI)),.i (.bool m),.i (ti e)]) [sP s,.no,.no,.no,.no]))
 (hv:Fn Tryd.prog Ab0 [rT R,.v (.str n),.v x.toI,.v (ti rev),.v (ti most)] (Is (.tup [.i (.list (P.map Pr.toI)),.i (.bool m),.i (ti e)]) [rT R,.no,.no,.no,.no])):
 Fn Tryd.prog Agu [sP s,rT R,.v (⟨1,n,l,x,rev,most⟩:Opn).toI] (Is (.v (.bool true)) [sP s,rT R,.no]):=by
 refine Agq ?_ (by simp)
 unfold Opn.toI;dsimp only;have hs:=Agx P P hP;rw[decide_eq_true rfl]at hs;have g1:¬decide (m=m)=false:=by simp
 repeat'((conv=>whnf);first|((with_reducible refine Ax (by first|(with_reducible exact Bool.of_not_eq_false (by assumption))|((with_reducible refine decide_eq_true ?_);omega)|(with_reducible rfl)) (fun hb=>?_));(try rw[hb]);(try simp only[Aa]at hb))|((with_reducible refine Aw (by first|((with_reducible refine decide_eq_false ?_);omega)|(with_reducible rfl)) (fun hb=>?_));(try rw[hb]);(try simp only[Aa]at hb))|((with_reducible refine Exists.intro ?_ ?_);focus (and_intros<;>first|omega|kernel_rfl|(intro _ hh;cases hh;done)|(simp;done)|decide))|((with_reducible refine CallWp.mk ?_);refine⟨_,hw,?_⟩;rintro _ _ ⟨rfl,rfl⟩)|((with_reducible refine CallWp.mk ?_);refine⟨_,hv,?_⟩;rintro _ _ ⟨rfl,rfl⟩)|((with_reducible refine CallWp.mk ?_);refine⟨_,hs,?_⟩;rintro _ _ ⟨rfl,rfl⟩))
 all_goals(try(conv=>whnf))
 all_goals(refine Done.mk ⟨SV.bool_congr ?_,by kernel_rfl⟩ (by kernel_rfl))
 all_goals(first|rfl|(simp;done))
theorem Anp(s s':Sto)(R R':List Spc)(n:Az)(l:List Chg)(x:Sp)(rev most a:Int)
 (hw:Fn Tryd.prog Kc [sP s,.v (.str n),.v (ti rev)] (Is (.v (ti a)) [sP s',.no,.no]))
 (hv:Fn Tryd.prog Nf [rT R,.v (.str n),.v (ti rev)] (Is (.v (ti a)) [rT R',.no,.no])):
 Fn Tryd.prog Agu [sP s,rT R,.v (⟨2,n,l,x,rev,most⟩:Opn).toI] (Is (.v (.bool true)) [sP s',rT R',.no]):=by
 refine Agq ?_ (by simp)
 unfold Opn.toI;dsimp only;repeat'((conv=>whnf);first|((with_reducible refine Ax (by first|((with_reducible refine decide_eq_true ?_);omega)|(with_reducible rfl)) (fun hb=>?_));(try rw[hb]);(try simp only[Aa]at hb))|((with_reducible refine Aw (by first|((with_reducible refine decide_eq_false ?_);omega)|(with_reducible rfl)) (fun hb=>?_));(try rw[hb]);(try simp only[Aa]at hb))|((with_reducible refine Exists.intro ?_ ?_);focus (and_intros<;>first|omega|kernel_rfl|(intro _ hh;cases hh;done)|(simp;done)|decide))|((with_reducible refine Drawn.mkV ?_ ?_ ?_ (fun hfact=>?_));(focus (as_aux_lemma=>kernel_rfl));(focus (as_aux_lemma=>kernel_rfl));(focus (as_aux_lemma=>kernel_rfl));(try simp only[dRS]at hfact))|((with_reducible refine CallIs.mk ?_);refine⟨_,_,hw,?_⟩)|((with_reducible refine CallIs.mk ?_);refine⟨_,_,hv,?_⟩))
 all_goals(try(conv=>whnf))
 all_goals(refine Done.mk ⟨SV.bool_congr ?_,by kernel_rfl⟩ (by kernel_rfl))
 all_goals(first|rfl|(simp;done))
theorem Anq(s s':Sto)(R R':List Spc)(n:Az)(l:List Chg)(x:Sp)(rev most a:Int)
 (hw:Fn Tryd.prog Ec [sP s,.v (.str n)] (Is (.v (ti a)) [sP s',.no]))
 (hv:Fn Tryd.prog Af1 [rT R,.v (.str n)] (Is (.v (ti a)) [rT R',.no])):
 Fn Tryd.prog Agu [sP s,rT R,.v (⟨3,n,l,x,rev,most⟩:Opn).toI] (Is (.v (.bool true)) [sP s',rT R',.no]):=by
 refine Agq ?_ (by simp)
 unfold Opn.toI;dsimp only;repeat'((conv=>whnf);first|((with_reducible refine Ax (by first|((with_reducible refine decide_eq_true ?_);omega)|(with_reducible rfl)) (fun hb=>?_));(try rw[hb]);(try simp only[Aa]at hb))|((with_reducible refine Aw (by first|((with_reducible refine decide_eq_false ?_);omega)|(with_reducible rfl)) (fun hb=>?_));(try rw[hb]);(try simp only[Aa]at hb))|((with_reducible refine Exists.intro ?_ ?_);focus (and_intros<;>first|omega|kernel_rfl|(intro _ hh;cases hh;done)|(simp;done)|decide))|((with_reducible refine Drawn.mkV ?_ ?_ ?_ (fun hfact=>?_));(focus (as_aux_lemma=>kernel_rfl));(focus (as_aux_lemma=>kernel_rfl));(focus (as_aux_lemma=>kernel_rfl));(try simp only[dRS]at hfact))|((with_reducible refine CallIs.mk ?_);refine⟨_,_,hw,?_⟩)|((with_reducible refine CallIs.mk ?_);refine⟨_,_,hv,?_⟩))
 all_goals(try(conv=>whnf))
 all_goals(refine Done.mk ⟨SV.bool_congr ?_,by kernel_rfl⟩ (by kernel_rfl))
 all_goals(first|rfl|(simp;done))
theorem Anr(s:Sto)(R:List Spc)(k:Int)(n:Az)(l:List Chg)(x:Sp)(rev most:Int)(h0:k≠0)(h1:k≠1)(h2:k≠2)(h3:k≠3):
 Fn Tryd.prog Agu [sP s,rT R,.v (⟨k,n,l,x,rev,most⟩:Opn).toI] (Is (.v (.bool true)) [sP s,rT R,.no]):=by
 refine Agq ?_ (by simp)
 unfold Opn.toI;dsimp only;have g0:¬decide (k=0)=true:=by simpa using h0
 have g1:¬decide (k=1)=true:=by simpa using h1
 have g2:¬decide (k=2)=true:=by simpa using h2
 have g3:¬decide (k=3)=true:=by simpa using h3
 repeat'((conv=>whnf);first|((with_reducible refine Aw (by(with_reducible exact Bool.of_not_eq_true (by assumption))) (fun hb=>?_));(try rw[hb]);(try simp only[Aa]at hb))|((with_reducible refine Exists.intro ?_ ?_);focus (and_intros<;>first|omega|kernel_rfl|(simp;done))))
 all_goals(try(conv=>whnf))
 (apply dKq<;>kernel_rfl)
theorem Amx(s:Sto)(R:List Spc)(n:Az)(hl:R.length≤100000)(hf:Jd n R 0= -1)(ht:s.tal n=tal0):
 Fn Tryd.prog Ko [sP s,rT R,.v (.str n)] (Is (.v (.bool true)) [sP s,rT R,.no]):=by
 refine Qk ?_ (by simp)
 have hfi:=Lf R n hl;rw[hf]at hfi;have c1:=Aih s n;have c2:=Aj8 s n;have c3:=Aj6 s n;have c4:=Akb s n;have c5:=Ub s n;rw[ht]at c1 c2 c3 c4 c5;dsimp only[tal0]at c1 c2 c3 c4 c5;repeat'((conv=>whnf);first|((with_reducible refine Ax (by first|((with_reducible refine decide_eq_true ?_);omega)|(with_reducible rfl)) (fun hb=>?_));(try rw[hb]);(try simp only[Aa]at hb))|((with_reducible refine Exists.intro ?_ ?_);focus (and_intros<;>first|kernel_rfl|(intro _ hh;cases hh;done)|(simp;done)|decide))|((with_reducible refine CallWp.mk ?_);refine⟨_,hfi,?_⟩;rintro _ _ ⟨rfl,rfl⟩)|((with_reducible refine CallWp.mk ?_);refine⟨_,c1,?_⟩;rintro _ _ ⟨rfl,rfl⟩)|((with_reducible refine CallWp.mk ?_);refine⟨_,c2,?_⟩;rintro _ _ ⟨rfl,rfl⟩)|((with_reducible refine CallWp.mk ?_);refine⟨_,c3,?_⟩;rintro _ _ ⟨rfl,rfl⟩)|((with_reducible refine CallWp.mk ?_);refine⟨_,c4,?_⟩;rintro _ _ ⟨rfl,rfl⟩)|((with_reducible refine CallWp.mk ?_);refine⟨_,c5,?_⟩;rintro _ _ ⟨rfl,rfl⟩))
 all_goals(try(conv=>whnf))
 all_goals((apply dKq<;>kernel_rfl))
theorem Amo(s:Sto)(R:List Spc)(n:Az)(hl:R.length≤100000)(i:Nat)(p:Spc)(hf:Jd n R 0=(i:Int))(he:R[i]?=some p)(hb:KvBd p.keys)(K B V:Int)
 (hK:((Jw ⟨[],[]⟩ p.rev p.keys []).length:Int)=K) (hB:prsB (Jw ⟨[],[]⟩ p.rev p.keys []) 0=B) (hV:V2 p.keys 0=V) (ht:s.tal n=⟨p.rev,p.floor,B,K,V⟩):
 Fn Tryd.prog Ko [sP s,rT R,.v (.str n)] (Is (.v (.bool true)) [sP s,rT R,.no]):=by
 refine Qk ?_ (by simp)
 have hfi:=Lf R n hl;rw[hf]at hfi;have hil:=(List.getElem?_eq_some_iff.1 he).1;have hlm:((R.map Spc.toI).map D.it).length=R.length:=by simp
 have hco:=Amc p hb;rw[hK,hB,hV]at hco;have c1:=Aih s n;have c2:=Aj8 s n;have c3:=Aj6 s n;have c4:=Akb s n;have c5:=Ub s n;rw[ht]at c1 c2 c3 c4 c5;obtain⟨pn,pr,pf,pk⟩:=p;dsimp only at c1 c2 c3 c4 c5 hco;clear hK hB hV hb ht;have g1:¬decide (pr=pr)=false:=by simp
 have g2:¬decide (pf=pf)=false:=by simp
 have g3:¬decide (B=B)=false:=by simp
 have g4:¬decide (K=K)=false:=by simp
 repeat'((conv=>whnf);first|((with_reducible refine Ax (by first|(with_reducible exact Bool.of_not_eq_false (by assumption))|(with_reducible rfl)) (fun hb=>?_));(try rw[hb]);(try simp only[Aa]at hb))|((with_reducible refine Aw (by first|((with_reducible refine decide_eq_false ?_);omega)|(with_reducible rfl)) (fun hb=>?_));(try rw[hb]);(try simp only[Aa]at hb))|((with_reducible refine Exists.intro ?_ ?_);focus (and_intros<;>first|omega|(with_reducible rfl)|kernel_rfl|(intro _ hh;cases hh;done)|(simp;done)|decide))|((with_reducible refine Drawn.mkV ?_ ?_ ?_ (fun hfact=>?_));(focus (as_aux_lemma=>kernel_rfl));(focus (as_aux_lemma=>kernel_rfl));(focus (as_aux_lemma=>kernel_rfl));(try simp only[dRS]at hfact))|((with_reducible refine CallWp.mk ?_);refine⟨_,hfi,?_⟩;rintro _ _ ⟨rfl,rfl⟩)|((with_reducible refine CallWp.mk ?_);refine⟨_,hco,?_⟩;rintro _ _ ⟨rfl,rfl⟩)|((with_reducible refine CallIs.mk ?_);refine⟨_,_,c1,?_⟩)|((with_reducible refine CallIs.mk ?_);refine⟨_,_,c2,?_⟩)|((with_reducible refine CallIs.mk ?_);refine⟨_,_,c3,?_⟩)|((with_reducible refine CallIs.mk ?_);refine⟨_,_,c4,?_⟩)|((with_reducible refine CallIs.mk ?_);refine⟨_,_,c5,?_⟩)|(((with_reducible apply A3));(focus rfl);(focus (simp only[D.at,D.put,D.kid,D.setKid,mkSt,Ap,D.toI,toIs,Ak,Af,he,hlm]<;>exact rfl));(try(focus exact rfl))))
 all_goals(try(conv=>whnf))
 all_goals(refine Done.mk ⟨SV.bool_congr ?_,by kernel_rfl⟩ (by kernel_rfl))
 all_goals(first|rfl|(simp;done))

open Go.Proofs
theorem Xs(s:Sto):s.ref.length=s.sp.length:=by unfold Sto.ref Sto.names;rw[List.length_map,Ajd,List.length_map]
theorem Aky(n:Az)(l:List Hld):(keysOf n l).length≤l.length:=List.length_filterMap_le _ _
theorem Akq{n:Az}{l:List Hld}{x:Kv}(hx:x∈keysOf n l):∃y∈l,x.key=(C1 y.at_).2.1∧x.vs=y.vs:=by
 obtain⟨y,hy,e⟩:=List.mem_filterMap.1 hx;unfold G3 at e;split at e
 ·simp only[Option.some.injEq]at e;subst e;exact⟨y,hy,rfl,rfl⟩
 ·cases e
theorem Ach{m:Nat}{s:Sto}(h:SInv m s)(hm:m≤80000)(hc:CInv s)(n:Az):KvBd (keysOf n s.l)∧KL 80000 (keysOf n s.l):=by
 have hl:=Aky n s.l;have hlen:=h.lb.len;refine⟨⟨by omega,fun x hx=>?_⟩,⟨by omega,fun x hx=>?_⟩⟩
 ·obtain⟨y,hy,e1,e2⟩:=Akq hx;obtain⟨_,_,b3,b4⟩:=h.lb.held y hy;have:=(hc.vk y hy).1;rw[e1,e2];exact⟨by omega,by omega,b4⟩
 ·obtain⟨y,hy,e1,e2⟩:=Akq hx;obtain⟨_,_,b3,b4⟩:=h.lb.held y hy;rw[e2];omega
theorem Ak0:∀{V:List (Az × Ver)} {a:Int},prsB (V.map prOf) a=a+Bv V
 | [],a=>by show a=a+0;omega
 |p::r,a=>by
  show prsB (r.map prOf) (a+(p.1.length:Int)+(p.2.val.length:Int))=_;rw[Ak0];simp only[Bv];omega
theorem Aju{m:Nat}{s:Sto}(h:SInv m s)(hm:m≤80000)(hl:s.sp.length≤8)(hc:CInv s)(hv:VInv s)(n:Az):
 Fn Tryd.prog Ko [sP s,rT s.ref,.v (.str n)] (Is (.v (.bool true)) [sP s,rT s.ref,.no]):=by
 have hl2:=Xs s;cases hf:s.fi n with
 |none=>exact Amx s s.ref n (by omega) (Ahg hf) (Sto.fi_none hf).2
 |some j=>
  obtain⟨i,h1,h2,_⟩:=Acp (s:=s) (n:=n) (by rw[hf];rfl)
  obtain⟨v1,v2,_⟩:=Ah9 (n:=n) (R:=(s.tal n).rev) (l:=s.l) (fun y hy=>by
   have h3:=h.wi.2 y hy;refine⟨h3.1,h3.2.1,(h.lb.held y hy).2.1,fun e v hv'=>?_⟩
   have h4:=(h3.2.2 v hv').2;dsimp only at h4;rw[e]at h4;exact h4) h.wi.1 hc.vk
  have hall:Jw ⟨[],[]⟩ (s.tal n).rev (keysOf n s.l) []=(Lh n (s.tal n).rev s.l).map prOf:=by
   rw[Wi,List.nil_append, ←Ajh fun y hy=>(h.wi.2 y hy).2.1,List.filter_eq_self.2]
   intro p _;simp only[decide_eq_true_eq];exact⟨List.not_lt.1 (List.not_lt_nil _),.inl rfl⟩
  have hcn:=hc.cnt n;have hvn:=hv n;refine Amo s s.ref n (by omega) i (s.spcS n) h1 h2 (Ach h hm hc n).1 (s.tal n).keys (s.tal n).bytes (s.tal n).vers ?_ ?_ ?_ rfl
  ·show((Jw ⟨[],[]⟩ (s.tal n).rev (keysOf n s.l) []).length:Int)=_;rw[hall,List.length_map,v1,hcn.1]
  ·show prsB (Jw ⟨[],[]⟩ (s.tal n).rev (keysOf n s.l) []) 0=_;rw[hall,Ak0,v2,hcn.2];omega
  ·show V2 (keysOf n s.l) 0=_;rw[Ahy,hvn];omega

open Go.Proofs
def U1:Stm:=(sO [gA 2 cF] (.seq (sO [gC 9 30 [],gT 10 9] (cR 10 [gA 2 cF])) (.seq (sO [gM 11 0,gC 12 31 [nL 11]] (cR 12 [gA 2 cT])) (sO [gC 13 19 [],O1 (.buildD 14 [(.vec 50 4 [])] []),O1 (.boxD 15 14),gA 3 13,O1 (.movD 4 15)] (.seq (sO [gM 16 0,gN 17 16,gM 18 (cI 0)] (.block 0 (.loop [2,6,11,19,20,21,22,23,24,25,26,27,28,29,30,31,32,33,34,35,38,56,61,77] (sO [gB 19 .lss 18 17] (.seq (.cond 19 .skip (.exit 0)) (.seq (.block 1 (sO [gI 20 7 16 18,gU 21 7 20,O1 (.allocD 6 (.st [(.it (.int .i64 0)),(.it (.str [])),(.vec 38 3 []),(.it (.agg [(.str []),(.str [])])),(.it (.int .i64 0)),(.it (.int .i64 0))])),gS 7 6 21] (sO [gM 22 3,gM 23 4,gU 24 7 6,gC 25 35 [(true,22),(true,23),nL 24],gT 26 25,gM 27 26,qf 27 (iM 28 3),qf 27 (iM 29 4),qf 27 (iG 30 6 1 1),qf 27 (iL 31 30),.call (some (27,false)) (some 32) 46 [(true,28),(true,29),nL 31],qf 27 (iT 33 32),gP 34 27 cT 33] (cR 34 [gA 2 cF])))) (.ops [gB 35 .add 18 (cI 1),gM 18 35]))))))) (sO [gM 36 3,gC 37 47 [(true,36)],gA 7 37] (.seq (.seq (.drw [0,1,0,4,12,28,60,127,255,511,1023,511,2559,6655,14847,32767,65535,131071] [gM 38 7,gN 39 38,gM 40 4,O1 (.nchk 41 40),gF 42 41 0,gL 43 42,gN 44 43,gB 45 .neq 39 44,gM 46 45,qf 46 (iM 47 3),.call (some (46,false)) (some 48) 44 [(true,47)],qf 46 (iM 49 4),qf 46 (.nchk 50 49),qf 46 (iG 51 50 0 0),qf 46 (iL 52 51),.peek (some (46,false)) (some 53) 43 [nL 48,nL 52],qf 46 (iT 54 53),gP 55 46 cT 54]) (cR 55 [gA 2 cF])) (.seq (sO [gM 56 7,gN 57 56,gM 58 (cI 0)] (.block 2 (.loop (kr [2,8,11,16,36,38,40,41,42,43,47,49,50,51,52,56] 59 26) (sO [gB 59 .lss 58 57] (.seq (.cond 59 .skip (.exit 2)) (.seq (.block 3 (sO [gM 60 58,gA 8 60] (.seq (.drw [0,0,3,7,0,16,48,112,0,496,1008,2032,4095,8191,16383,16383,16383,16383,212991,475135,1048575,2097151,4194303] [gM 61 7,gM 62 8,gI 63 1 61 62,gL 64 63,gM 65 4,O1 (.nchk 66 65),gF 67 66 0,gL 68 67,gM 69 8,gI 70 4 68 69,gF 71 70 0,gL 72 71,gB 73 .neq 64 72,gM 74 73,qf 74 (iM 75 3),qf 74 (iM 76 4),qf 74 (iM 77 7),qf 74 (iM 78 8),qf 74 (iI 79 1 77 78),qf 74 (iL 80 79),.call (some (74,false)) (some 81) 46 [(true,75),(true,76),nL 80],qf 74 (iT 82 81),gP 83 74 cT 82]) (cR 83 [gA 2 cF])))) (.ops [gB 84 .add 58 (cI 1),gM 58 84]))))))) (sO [gA 2 cT] .ret)))))))))
theorem Vt:OF 11 85 U1 [.t 2]:=oF Tryd.func11 rfl Tryd.ntmps11 (by kernel_rfl) (by kernel_rfl)

open Go.Proofs
theorem Ajz(l:List Opn)(hg:F9 0 l=true):Fn Tryd.prog Mg [.v (.list (l.map Opn.toI))] (Is (.v (.bool true)) [.no]):=by
 refine Vx ?_ (by simp)
 have h1:=Ls l;rw[hg]at h1;repeat'((conv=>whnf);first|((with_reducible refine Ax (by first|(with_reducible assumption)|(with_reducible rfl)) (fun hb=>?_));(try rw[hb]);(try simp only[Aa]at hb))|((with_reducible refine And.intro (fun hb=>?_) (fun hb=>?_))<;>first|(exact absurd hb (by decide))|((try rw[hb]);(try simp only[Aa]at hb)))|((with_reducible refine Exists.intro ?_ ?_);focus (and_intros<;>first|(intro _ hh;cases hh;done)|(simp;done)|decide))|((with_reducible refine CallWp.mk ?_);refine⟨_,Wv,?_⟩;rintro _ _ ⟨rfl,rfl⟩)|((with_reducible refine CallWp.mk ?_);refine⟨_,h1,?_⟩;rintro _ _ ⟨rfl,rfl⟩))
 all_goals(try(conv=>whnf))
 all_goals((apply dKq<;>kernel_rfl))
theorem Akg(l:List Opn)(hl:l.length≤100)(hg:F9 0 l=false)(J:Nat→Sto→List Spc→Prop)(h0:J 0 ⟨[],[]⟩ [])
 (hstep:∀j o s R,l[j]?=some o→J j s R→∃s' R',Fn Tryd.prog Agu [sP s,rT R,.v o.toI] (Is (.v (.bool true)) [sP s',rT R',.no])∧Fn Tryd.prog Ko [sP s',rT R',.v (.str o.n)] (Is (.v (.bool true)) [sP s',rT R',.no])∧J (j+1) s' R')
 (hend:∀s R,J l.length s R→∃NM:List Az,NM=R.map Spc.name∧R.length≤1000∧Amm R∧Fn Tryd.prog N2 [sP s] (Is (.v (.list (NM.map I.str))) [sP s])∧Fn Tryd.prog We [sP s] (Is (.v (.list (R.map Spc.toI))) [sP s])∧
   ∀n∈NM,Fn Tryd.prog Ko [sP s,rT R,.v (.str n)] (Is (.v (.bool true)) [sP s,rT R,.no])):
 Fn Tryd.prog Mg [.v (.list (l.map Opn.toI))] (Is (.v (.bool true)) [.no]):=by
 refine Vt ?_ (by simp)
 have h1:=Ls l;rw[hg]at h1;repeat'((conv=>whnf);first|((with_reducible refine Aw (by first|(with_reducible assumption)|(with_reducible rfl)) (fun hb=>?_));(try rw[hb]);(try simp only[Aa]at hb))|((with_reducible refine And.intro (fun hb=>?_) (fun hb=>?_))<;>first|(exact absurd hb (by decide))|((try rw[hb]);(try simp only[Aa]at hb)))|((with_reducible refine Exists.intro ?_ ?_);focus (and_intros<;>first|(intro _ hh;cases hh;done)|(simp;done)|decide))|((with_reducible refine CallWp.mk ?_);refine⟨_,Wv,?_⟩;rintro _ _ ⟨rfl,rfl⟩)|((with_reducible refine CallWp.mk ?_);refine⟨_,h1,?_⟩;rintro _ _ ⟨rfl,rfl⟩))
 all_goals(try(conv=>whnf))
 generalize hKK:F7 Tryd.prog _ _=KK;as_aux_lemma=>
  repeat'((conv=>whnf);first|((with_reducible refine Exists.intro ?_ ?_);focus (and_intros<;>first|omega|(intro _ hh;cases hh;done)))|((with_reducible refine CallWp.mk ?_);refine⟨_,Adg,?_⟩;rintro _ _ ⟨rfl,rfl⟩))
  all_goals(try(conv=>whnf))
  rw[←hKK];clear hKK;as_aux_lemma=>
   repeat'((conv=>whnf);first|((with_reducible refine Exists.intro ?_ ?_);focus (and_intros<;>(with_reducible rfl)))|(with_reducible intro hfact))
   all_goals(try(conv=>whnf))
   refine LoopWq.by (X:=Nat × Sto × List Spc) (fun y=>[(18,.v (ti (y.1:Int))),(13,sP y.2.1),(4,rT y.2.2)]) (fun y=>y.1≤l.length∧J y.1 y.2.1 y.2.2) (fun y=>l.length - y.1) (0,⟨[],[]⟩,[]) (by kernel_rfl) ⟨Nat.zero_le _,h0⟩ ?_
   rintro⟨j,s,R⟩ ⟨hj,hJ⟩;dsimp only at hj hJ ⊢;have hw:IntKind.i64.wrap ((j:Int)+1)=((j+1:Nat):Int):=(Bf (by omega)).trans (by omega)
   by_cases hjl:j<l.length
   ·obtain⟨o,ho⟩:∃x,l[j]?=some x:=⟨_,List.getElem?_eq_getElem hjl⟩;have h3:¬decide ((j:Int)<((l.map Opn.toI).length:Int))=false:=by simp;omega
    have h4:¬decide ((j:Int)<(l.length:Int))=false:=by simp;omega
    obtain⟨s',R',hd,hc,hJ2⟩:=hstep j o s R ho hJ;obtain⟨k,n,cl,⟨xf,xt⟩,rev,most⟩:=o;repeat'((conv=>whnf);first|((with_reducible refine Ax (by(with_reducible exact Bool.of_not_eq_false (by assumption))) (fun hb=>?_));(try rw[hb]);(try simp only[Aa]at hb))|((with_reducible refine Aw (by first|(with_reducible assumption)|(with_reducible rfl)) (fun hb=>?_));(try rw[hb]);(try simp only[Aa]at hb))|((with_reducible refine And.intro (fun hb=>?_) (fun hb=>?_))<;>first|(exact absurd hb (by decide))|((try rw[hb]);(try simp only[Aa]at hb)))|((with_reducible refine Exists.intro ?_ ?_);focus (and_intros<;>first|omega|kernel_rfl|(intro _ hh;cases hh;done)|(simp;done)|decide))|((try dsimp only);(rw[B6 ho]))|((with_reducible refine CallWp.mk ?_);refine⟨_,hd,?_⟩;rintro _ _ ⟨rfl,rfl⟩)|((with_reducible refine CallWp.mk ?_);refine⟨_,hc,?_⟩;rintro _ _ ⟨rfl,rfl⟩)|((try dsimp only);rw[hw]))
    all_goals(try(conv=>whnf))
    refine Round.by (j+1,s',R') ?_ ⟨by omega,hJ2⟩ (by dsimp only;omega)
    try dsimp only
    show norm _ _=upd _ _
    kernel_rfl
   have h3:¬decide ((j:Int)<((l.map Opn.toI).length:Int))=true:=by simp;omega
   have h4:¬decide ((j:Int)<(l.length:Int))=true:=by simp;omega
   obtain rfl:j=l.length:=by omega
   obtain⟨NM,hNM,hRl,hbd,hsp,hdu,hco⟩:=hend s R hJ;have hlm:((R.map Spc.toI).map D.it).length=R.length:=by simp
   have hNl:NM.length=R.length:=by rw[hNM,List.length_map]
   have hNl2:(NM.map I.str).length=R.length:=by rw[List.length_map,hNl]
   have hsm:=Ame R R hbd hbd;rw[decide_eq_true rfl]at hsm;have g1:¬(!decide ((((NM.map I.str).length:Nat):Int)=(R.length:Int)))=true:=by rw[hNl2];simp
   have g2:¬(!decide (((NM.length:Nat):Int)=(R.length:Int)))=true:=by rw[hNl];simp
   have hti:toIs ((R.map Spc.toI).map D.it)=some (R.map Spc.toI):=Ak _;repeat'((conv=>whnf);first|((with_reducible refine Aw (by first|(with_reducible assumption)|(with_reducible exact Bool.of_not_eq_true (by assumption))|(with_reducible rfl)) (fun hb=>?_));(try rw[hb]);(try simp only[Aa]at hb))|((with_reducible refine And.intro (fun hb=>?_) (fun hb=>?_))<;>first|(exact absurd hb (by decide))|(exfalso;((simp only[Bu]at hb<;>omega)))|((try rw[hb]);(try simp only[Aa]at hb)))|((with_reducible refine Exists.intro ?_ ?_);focus (and_intros<;>first|omega|(with_reducible rfl)|kernel_rfl|(intro _ hh;cases hh;done)|(simp;done)|decide))|(with_reducible intro hfact)|((with_reducible refine Drawn.mkV ?_ ?_ ?_ (fun hfact=>?_));(focus (as_aux_lemma=>kernel_rfl));(focus (as_aux_lemma=>kernel_rfl));(focus (as_aux_lemma=>kernel_rfl));(try simp only[dRS]at hfact))|((with_reducible refine CallWp.mk ?_);refine⟨_,hsp,?_⟩;rintro _ _ ⟨rfl,rfl⟩)|((with_reducible refine CallIs.mk ?_);refine⟨_,_,hdu,?_⟩)|((with_reducible refine CallIs.mk ?_);refine⟨_,_,hsm,?_⟩)|(((with_reducible apply Ba));(focus (simp only[D.at,D.put,D.kid,D.setKid,mkSt,Ap,D.toI,toIs,Ak,Af,hlm,hti]<;>exact rfl))))
   all_goals(try(conv=>whnf))
   refine LoopWq.by (X:=Nat) (fun i=>[(58,.v (ti (i:Int)))]) (fun i=>i≤NM.length) (fun i=>NM.length - i) 0 (by kernel_rfl) (Nat.zero_le _) ?_
   rintro i hi
   (try dsimp only at hi ⊢)
   have hwi:IntKind.i64.wrap ((i:Int)+1)=((i+1:Nat):Int):=(Bf (by omega)).trans (by omega)
   by_cases hil:i<NM.length
   case neg=>
    have h5:¬decide ((i:Int)<((NM.map I.str).length:Int))=true:=by simp;omega
    have h6:¬decide ((i:Int)<(NM.length:Int))=true:=by simp;omega
    repeat'((conv=>whnf);((with_reducible refine Aw (by first|(with_reducible assumption)|(with_reducible exact Bool.of_not_eq_true (by assumption))) (fun hb=>?_));(try rw[hb]);(try simp only[Aa]at hb)))
    all_goals(try(conv=>whnf))
    (apply dKq<;>kernel_rfl)
   have h5:¬decide ((i:Int)<((NM.map I.str).length:Int))=false:=by simp;omega
   have h6:¬decide ((i:Int)<(NM.length:Int))=false:=by simp;omega
   obtain⟨p,hp⟩:∃p,R[i]?=some p:=⟨_,List.getElem?_eq_getElem (by omega)⟩
   have hn:NM[i]?=some p.name:=by rw[hNM,List.getElem?_map,hp];rfl
   have hc:=hco p.name (List.mem_of_getElem? hn);obtain⟨pn,pr,pf,pk⟩:=p;dsimp only at hn hc;have g3:¬(!decide (pn=pn))=true:=by simp
   repeat'((conv=>whnf);first|((with_reducible refine Ax (by(with_reducible exact Bool.of_not_eq_false (by assumption))) (fun hb=>?_));(try rw[hb]);(try simp only[Aa]at hb))|((with_reducible refine Aw (by first|(with_reducible assumption)|(with_reducible exact Bool.of_not_eq_true (by assumption))|(with_reducible rfl)) (fun hb=>?_));(try rw[hb]);(try simp only[Aa]at hb))|((with_reducible refine And.intro (fun hb=>?_) (fun hb=>?_))<;>first|(exact absurd hb (by decide))|((try rw[hb]);(try simp only[Aa]at hb)))|((with_reducible refine Exists.intro ?_ ?_);focus (and_intros<;>first|omega|(with_reducible rfl)|kernel_rfl|(intro _ hh;cases hh;done)|(simp;done)|decide))|((with_reducible refine Drawn.mkV ?_ ?_ ?_ (fun hfact=>?_));(focus (as_aux_lemma=>kernel_rfl));(focus (as_aux_lemma=>kernel_rfl));(focus (as_aux_lemma=>kernel_rfl));(try simp only[dRS]at hfact))|((try dsimp only);(rw[B6 hn]))|((with_reducible refine CallIs.mk ?_);refine⟨_,_,hc,?_⟩)|((try dsimp only);rw[hwi])|(((with_reducible apply A3));(focus rfl);(focus (simp only[D.at,D.put,D.kid,D.setKid,mkSt,Ap,D.toI,toIs,Ak,Af,hp,hlm]<;>exact rfl));(try(focus exact rfl))))
   all_goals(try(conv=>whnf))
   refine Round.by (i+1) ?_ (by omega) (by omega)
   try dsimp only
   show norm _ _=upd _ _
   kernel_rfl
end Go.Ab
