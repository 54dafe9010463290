/- Lemmas -/
import Derived.Test.YtkpojedpcabojaaGreatDoorV14
set_option linter.unusedVariables false
set_option linter.unusedSimpArgs false
namespace Go.Ab
theorem Boj{l:List C0}{n k:A1}{e:C0}(hn:n.length<256)(hl:P6 l)(hv:∀h∈l,Sg h.at_)(he:e∈l)(ha:e.at_=Cp n k):J3 (keysOf n l) k=e.vs:=by
 have hs:=We (n:=n) hl hv;have hm:(⟨k,e.vs⟩:Kv)∈keysOf n l:=Gp.2 ⟨e,he,by unfold G3;rw[ha,D3 hn];simp⟩
 have:∀{ks:List Kv},V6 ks→(⟨k,e.vs⟩:Kv)∈ks→J3 ks k=e.vs:=by
  intro ks;induction ks with
  |nil=>intro _ h;cases h
  |cons x r ih=>
   intro hs hm;obtain⟨s1,s2⟩:=B1.1 hs;rw[He];rcases Ah.1 hm with rfl|hm
   ·rw[if_pos rfl]
   ·have:=s1 _ hm;dsimp only at this;rw[if_neg (fun q=>by rw[q]at this;exact absurd this (Dt _)),ih s2 hm]
 exact this hs hm
theorem Bfv{l:List C0}{n k:A1}(hv:∀h∈l,Sg h.at_)(h:∀e∈l,e.at_≠Cp n k):J3 (keysOf n l) k=[]:=by
 unfold J3;rw[List.find?_eq_none.2]
 ·rfl
 ·intro x hx q;simp only[decide_eq_true_eq]at q;obtain⟨e,he,h2,_⟩:=Uc hv hx;rw[q]at h2;exact h e he h2
theorem Bfq{l:List C0}{n k:A1}(hn:n.length<256)(hl:P6 l)(hv:∀h∈l,Sg h.at_):Ni l (Cp n k)=Po (keysOf n l) k:=by
 cases hf:U6 (Fe (Cp n k)) (Su (Cp n k)) l with
 |true=>
  obtain⟨e,h2,h3⟩:=Ww hf;rw[Ank hf h2];unfold Po Hw;rw[Boj hn hl hv (Aw h2) (by simpa[Su]using h3)]
 |false=>
  rw[show Ni l (Cp n k)=Fx from A6.Ait (s:=⟨[],l⟩) hf,A3k];refine Bfv hv fun e he q=>?_
  have Brj:e∈l.take (Gm (Fe (Cp n k)) l)∨e∈l.drop (Gm (Fe (Cp n k)) l):=by
   rw[←Aj,B3];exact he
  rcases Brj with h|h
  ·have:=A82 hl e h;rw[q]at this;exact absurd this (Dt _)
  ·have:=A7g hl hf e h;rw[q]at this;exact absurd this (Dt _)
theorem Ahj{n k:A1}{c:Ce}{x:N0}{p:Cv}(hr:p.rev=x.t.rev):
 (Xh p (Ni x.l (Cp n k)) c=[]∧(Dv n k c x).l=x.l∧(Dv n k c x).w=x.w)∨∃v,Xh p (Ni x.l (Cp n k)) c=[v]∧(Dv n k c x).l=Pf x.l (Cp n k) v∧(Dv n k c x).w=true:=by
 unfold Dv Xh Abc;dsimp only;rw[hr];by_cases h:c.gone=true∧(Ni x.l (Cp n k)).gone=true
 ·rw[if_pos h,if_pos h];exact .inl ⟨rfl,rfl,rfl⟩
 ·rw[if_neg h,if_neg h];right;by_cases hc:c.gone=true
  ·rw[if_pos hc,if_pos hc];exact⟨_,rfl,rfl,rfl⟩
  ·rw[if_neg hc,if_neg hc];by_cases hw:(Ni x.l (Cp n k)).gone=true
   ·rw[if_pos hw,if_pos hw];exact⟨_,rfl,rfl,rfl⟩
   ·rw[if_neg hw,if_neg hw];exact⟨_,rfl,rfl,rfl⟩
theorem Aos{n:A1}{F:List Ce}{R:A1→Int}{p:Cv}{W:A1→Bt}(hn:n.length<256)(hp:0≤p.rev):∀{KK:List A1} {x:N0},KK.Nodup→p.rev=x.t.rev→Wp (Tm n p.rev R KK) x.l→(∀k∈KK,Po (keysOf n x.l) k=W k)→
 (∀k,J3 (keysOf n (Ea n F KK x).l) k=J3 (keysOf n x.l) k++(if k∈KK then Xh p (W k) (H5 F k)else[]))∧
 ((Ea n F KK x).w=x.w∧(∀k∈KK,Xh p (W k) (H5 F k)=[])∨(Ea n F KK x).w=true∧∃k∈KK,Xh p (W k) (H5 F k)≠[])
 | [],x,_,_,_,_=>⟨fun k=>by simp[Ea],.inl ⟨rfl,fun k hk=>by cases hk⟩⟩
 |k0::KK,x,hd,hr,hw,hW=>by
  obtain⟨d1,d2⟩:=Bs.1 hd;have hv:∀h∈x.l,Sg h.at_:=fun h hh=>(hw.2 h hh).1
  have g1:=Vt (x:=x) (R:=R) (c:=H5 F k0) hn d1 (by omega) (by rw[←hr];exact hw)
  rw[←hr]at g1;have Y6:Ni x.l (Cp n k0)=W k0:=by rw[Bfq hn hw.1 hv];exact hW k0 (Ar ..)
  have Bmz:∀k,J3 (keysOf n (Dv n k0 (H5 F k0) x).l) k=J3 (keysOf n x.l) k++(if k=k0 then Xh p (W k0) (H5 F k0)else[]):=by
   intro k;rcases Ahj (n:=n) (k:=k0) (c:=H5 F k0) (x:=x) hr with⟨e1,e2,_⟩|⟨v,e1,e2,_⟩
   ·rw[Y6]at e1;rw[e2,e1];simp
   ·rw[Y6]at e1;rw[e2,e1,Bjg hn hw.1 hv,Ane k (We hw.1 hv)];by_cases e:k=k0
    ·subst e;rw[if_pos rfl,if_pos rfl]
    ·rw[if_neg e,if_neg e];simp
  obtain⟨i1,i2⟩:=Aos (F:=F) (R:=R) (p:=p) (W:=W) hn hp (KK:=KK) (x:=Dv n k0 (H5 F k0) x) d2 (hr.trans (Zi _ _ _ _).1.symm) g1 (fun k hk=>by
   unfold Po;rw[Bmz,if_neg (fun e=>d1 (by rw[←e];exact hk)),Dk]
   exact hW k (Au _ hk))
  refine⟨fun k=>?_,?_⟩
  ·rw[show Ea n F (k0::KK) x=Ea n F KK (Dv n k0 (H5 F k0) x)from rfl,i1,Bmz];by_cases e:k=k0
   ·subst e;rw[if_pos rfl,if_neg d1,if_pos (Ar ..)];simp
   ·rw[if_neg e,Dk];simp only[Ah,e,false_or]
  ·rw[show Ea n F (k0::KK) x=Ea n F KK (Dv n k0 (H5 F k0) x)from rfl];rcases Ahj (n:=n) (k:=k0) (c:=H5 F k0) (x:=x) hr with⟨e1,e2,e3⟩|⟨v,e1,e2,e3⟩
   ·rw[Y6]at e1;rcases i2 with⟨j1,j2⟩|⟨j1,k,hk,j2⟩
    ·refine .inl ⟨j1.trans e3,fun k hk=>?_⟩
     rcases Ah.1 hk with rfl|hk
     ·exact e1
     ·exact j2 k hk
    ·exact .inr ⟨j1,k,Au _ hk,j2⟩
   ·rw[Y6]at e1;refine .inr ⟨?_,k0,Ar ..,by rw[e1];simp⟩
    rcases i2 with⟨j1,_⟩|⟨j1,_⟩
    ·rw[j1,e3]
    ·exact j1
theorem Avz:∀{cs F:List Ce},Aa3 cs=(L6 cs F).isSome
 | [],F=>rfl
 |c::r,F=>by
  unfold Aa3 L6;by_cases h:c.ok
  ·rw[if_pos h,if_pos h];exact Avz
  ·rw[if_neg h,if_neg h];rfl
theorem Bf7{m:Nat}{s:A6}(h:G6 m s){n:A1}{cs FF:List Ce}{i:Nat}(hi:s.fi n=some i)(hF:L6 cs []=some FF){q:Nat}(hq:s.names[q]?=some n):
 (s.Ja n cs).1.ref=s.ref.set q (Mn (s.Hm n) cs (s.Hm n))∧(s.Ja n cs).2.1=(Mn (s.Hm n) cs (s.Hm n)).rev∧(s.Ja n cs).2.2=0:=by
 have hn:=h.name hi;obtain⟨f1,f2,_⟩:=T8 hF (by simp) (by simp)
 have Ti:=h.rv n;have hv0:∀y∈s.l,Sg y.at_:=fun y hy=>(h.wi.2 y hy).1
 have Pw:=We (n:=n) h.wi.1 hv0;have A2:∀x∈keysOf n s.l,x.vs≠[]∧∀u∈x.vs,u.rev≤(s.De n).rev:=fun x hx=>by
  obtain⟨y,hy,e1,e2⟩:=Uc hv0 hx;rw[←e2];refine⟨(h.lb.held y hy).2.1,fun u hu=>?_⟩
  have:=((h.wi.2 y hy).2.2 u hu).2;dsimp only at this;rw[e1,D3 hn]at this;exact this
 obtain⟨r1,r2,r3,r4,r5,r6⟩:=An5 (p:=s.Hm n) Pw A2 (cs:=cs) (nx:=s.Hm n) Pw fun x hx=>(A2 x hx).1
 have Be5:=h.start n (Fz (FF.map Ce.key));obtain⟨w1,w2⟩:=Aos (F:=FF) (R:=fun n=>(s.De n).rev) (p:=s.Hm n) (W:=Po (keysOf n s.l)) hn (show 0≤(s.De n).rev by omega) (KK:=Fz (FF.map Ce.key)) (x:=⟨s.De n,s.l,false⟩) (S4 f1) rfl Be5 fun k _=>rfl
 obtain⟨g1,g2,g3⟩:=Af3 (F:=FF) (x:=⟨s.De n,s.l,false⟩) hn (S4 f1) (show 0≤(s.De n).rev by omega) Be5
 obtain⟨b1,_⟩:=Ajx (n:=n) (F:=FF) (x:=⟨s.De n,s.l,false⟩) (KK:=Fz (FF.map Ce.key)) (by omega) h.lb (h.tb n) fun k hk=>Av3 f2 hk
 have Bad:∀k,(if k∈Fz (FF.map Ce.key)then Xh (s.Hm n) (Po (keysOf n s.l) k) (H5 FF k)else[])=Ue (s.Hm n) (Po (keysOf n s.l) k) (Lj cs k):=fun k=>by
  have hfd:=As0 hF k;rw[show([]:List Ce).find? (fun x=>decide (x.key=k))=none from rfl,Option.or_none]at hfd
  by_cases hk:k∈FF.map Ce.key
  ·rw[if_pos (Z4.2 hk)];unfold H5;cases hl:FF.find? (fun x=>decide (x.key=k))with
   |some c=>rw[←hfd,hl];rfl
   |none=>
    rw[List.find?_eq_none]at hl;obtain⟨c,hc,e⟩:=Cs.1 hk;exact absurd (by simpa using e) (hl c hc)
  ·rw[if_neg (fun c=>hk (Z4.1 c)), ←hfd,List.find?_eq_none.2]
   ·rfl
   ·intro c hc e;simp only[decide_eq_true_eq]at e;exact hk (Cs.2 ⟨c,hc,e⟩)
 have hwk:=Aqu (g:=fun _:C0=>(none:Option Unit)) h n cs (fun _ _ _ _=>rfl) (fun _ _ _ _ _ _ _=>rfl)
 have hWM:s.Ja n cs=(⟨s.sp.set i (n,(Ea n FF (Fz (FF.map Ce.key)) ⟨s.De n,s.l,false⟩).fin),(Ea n FF (Fz (FF.map Ce.key)) ⟨s.De n,s.l,false⟩).l⟩,(Ea n FF (Fz (FF.map Ce.key)) ⟨s.De n,s.l,false⟩).fin.rev,0):=by
  unfold A6.Ja;rw[hi];dsimp only;rw[hF]
 have A98:∀k,k≠n→keysOf k (s.Ja n cs).1.l=keysOf k s.l:=fun k hk=>Aqu h n cs (fun k' v Kb _=>R9 (by dsimp only;rw[D3 Kb];exact fun e=>hk e.symm)) (fun y k' v Kb e _ _=>by
  have:(Cz y.at_).1≠k:=by rw[e,D3 Kb];exact fun e=>hk e.symm
  rw[R9 this];exact R9 this)
 rw[hWM]at A98 ⊢;generalize Ea n FF (Fz (FF.map Ce.key)) ⟨s.De n,s.l,false⟩=Z at*;dsimp only at w1 w2 g1 g2 g3 b1 A98 ⊢;have hvZ:∀y∈Z.l,Sg y.at_:=fun y hy=>(g1.2 y hy).1
 have Baa:keysOf n Z.l=(Mn (s.Hm n) cs (s.Hm n)).keys:=by
  refine V6.ext (We g1.1 hvZ) r1 (fun x hx=>?_) r2 fun k=>?_
  ·obtain⟨y,hy,_,e2⟩:=Uc hvZ hx;rw[←e2];exact(b1.held y hy).2.1
  ·rw[w1,r5,Bad];rfl
 have Aih:Z.fin.rev=(Mn (s.Hm n) cs (s.Hm n)).rev:=by
  unfold N0.fin;rcases w2 with⟨j1,j2⟩|⟨j1,k,hk,j2⟩
  ·rw[j1,if_neg (by simp),g2]
   rcases r6 with⟨q1,_⟩|⟨_,k,q2⟩
   ·rw[q1];rfl
   ·exfalso;have q3:Ue (s.Hm n) (Po (keysOf n s.l) k) (Lj cs k)≠[]:=q2;rw[←Bad k]at q3;by_cases hk:k∈Fz (FF.map Ce.key)
    ·rw[if_pos hk]at q3;exact q3 (j2 k hk)
    ·rw[if_neg hk]at q3;exact q3 rfl
  ·rw[j1,if_pos rfl];dsimp only;rw[g2];rcases r6 with⟨_,q2⟩|⟨q1,_⟩
   ·exfalso;have q3:Ue (s.Hm n) (Po (keysOf n s.l) k) (Lj cs k)=[]:=q2 k;rw[←Bad k,if_pos hk]at q3;exact j2 q3
   ·rw[q1];rfl
 refine⟨?_,Aih,rfl⟩;have Atw:(A6.mk (s.sp.set i (n,Z.fin)) Z.l).Hm n=Mn (s.Hm n) cs (s.Hm n):=by
  unfold A6.Hm at Baa Aih r3 r4 ⊢;rw[N8 hi,if_pos rfl];dsimp only at r3 r4 ⊢;generalize Mn ⟨n,(s.De n).rev,(s.De n).floor,keysOf n s.l⟩ cs ⟨n,(s.De n).rev,(s.De n).floor,keysOf n s.l⟩=Y at*;obtain⟨yn,yr,yf,yk⟩:=Y;dsimp only at Baa Aih r3 r4;have hfl:Z.fin.floor=Z.t.floor:=by unfold N0.fin;split<;>rfl
  rw[Baa,Aih,hfl,g3,r3,r4]
 unfold A6.ref;rw[show(A6.mk (s.sp.set i (n,Z.fin)) Z.l).names=s.names by unfold A6.names;rw[Aeo hi], ←Atw]
 refine(Aqa (Aqc h) hq fun k hk Bq4=>?_).symm
 unfold A6.Hm;rw[N8 hi,if_neg Bq4,A98 k Bq4]

def Aij(n:A1):List A1→List A1
 | []=>[n]
 |p::r=>if n<p then n::p::r else p::Aij n r
theorem At4{n:A1}:∀{r out:List Cv},Tj n r out true=out++r
 | [],out=>by unfold Tj;rw[if_pos rfl,Dk]
 |p::r,out=>by
  unfold Tj;rw[if_neg (fun c=>by cases c.1),if_neg (fun c=>by cases c.1),At4,A8];rfl
theorem Axy{f:A1→Cv}(hf:∀m,(f m).name=m){n:A1}(hn:f n=⟨n,0,0,[]⟩):∀{NM:List A1} {out:List Cv},Tj n (NM.map f) out false=out++(Aij n NM).map f
 | [],out=>by
   show Tj n [] out false=_;unfold Tj;rw[if_neg (by simp), ←hn];rfl
 |p::r,out=>by
  show Tj n (f p::r.map f) out false=_;unfold Tj Aij;rw[hf p];by_cases c:n<p
  ·rw[if_pos ⟨rfl,c⟩,if_pos ⟨rfl,c⟩,if_pos c,At4, ←hn];simp
  ·rw[if_neg (fun q=>c q.2),if_neg (fun q=>c q.2),if_neg c,Axy hf hn]
   simp
theorem Anf{n:A1}:∀{l:List A1},(Aij n l).Perm (n::l)
 | []=>List.Perm.refl _
 |p::r=>by
  unfold Aij;split
  ·exact List.Perm.refl _
  ·exact(List.Perm.cons p Anf).trans (List.Perm.swap ..)
theorem Ap7{n:A1}:∀{l:List A1},l.Pairwise (· ≤ ·)→(Aij n l).Pairwise (· ≤ ·)
 | [],_=>by unfold Aij;simp
 |p::r,h=>by
  obtain⟨h1,h2⟩:=B1.1 h;unfold Aij;split
  ·rename_i c;refine B1.2 ⟨fun x hx=>?_,h⟩
   rcases Ah.1 hx with rfl|hx
   ·exact List.le_of_lt c
   ·exact List.le_trans (List.le_of_lt c) (h1 x hx)
  ·rename_i c;refine B1.2 ⟨fun x hx=>?_,Ap7 h2⟩
   rcases Ah.1 (Anf.mem_iff.1 hx)with rfl|hx
   ·exact List.not_lt.1 c
   ·exact h1 x hx
theorem Ada(l:List A1):(Fz l).Pairwise (· ≤ ·):=by
 have:=List.pairwise_mergeSort (le:=fun x y:A1=>decide (x≤y)) (fun a b c h1 h2=>by
  simp only[decide_eq_true_eq]at*;exact List.le_trans h1 h2) (fun a b=>by
  simp only[C1,decide_eq_true_eq];exact List.le_total a b) l
 exact this.imp fun h=>by simpa using h
theorem Ajj:∀{a b:List A1},a.Pairwise (· ≤ ·)→b.Pairwise (· ≤ ·)→a.Perm b→a=b
 | [],b,_,_,h=>(List.nil_perm.1 h).symm
 |x::a,[],_,_,h=>absurd h.length_eq (by simp)
 |x::a,y::b,h1,h2,h=>by
  obtain⟨a1,a2⟩:=B1.1 h1;obtain⟨b1,b2⟩:=B1.1 h2;have e:x=y:=by
   have m1:x∈y::b:=h.mem_iff.1 (Ar ..);have m2:y∈x::a:=h.mem_iff.2 (Ar ..);rcases Ah.1 m1 with e|m1
   ·exact e
   ·rcases Ah.1 m2 with e|m2
    ·exact e.symm
    ·exact List.le_antisymm (a1 y m2) (b1 x m1)
  subst e;rw[Ajj a2 b2 (List.perm_cons x |>.1 h)]
theorem Bbr(l:List A1)(n:A1):Fz (l++[n])=Aij n (Fz l):=by
 refine Ajj (Ada _) (Ap7 (Ada _)) ?_;refine(Hy ..).trans (List.Perm.trans ?_ Anf.symm);exact(List.perm_append_comm (l₁ :=l) (l₂ :=[n])).trans (List.Perm.cons n (Hy ..).symm)
theorem Bfn{m:Nat}{s:A6}(h:G6 m s){n:A1}(hf:s.fi n=none):keysOf n s.l=[]:=by
 cases hk:keysOf n s.l with
 |nil=>rfl
 |cons x r=>
  exfalso;have hx:x∈keysOf n s.l:=by rw[hk];exact Ar ..
  obtain⟨y,hy,e⟩:=Gp.1 hx;unfold G3 at e;split at e
  ·rename_i ew;have h3:=(h.wi.2 y hy).2.2;have h4:=(h.lb.held y hy).2.1;cases hv:y.vs with
   |nil=>exact h4 hv
   |cons v t=>
    have:=h3 v (by rw[hv];exact Ar ..)
    dsimp only at this;rw[ew,(A6.P1 hf).2]at this;unfold Ny at this;dsimp only at this;omega
  ·cases e
theorem Bkc{m:Nat}{s:A6}(h:G6 m s){n:A1}(hf:s.fi n=none):s.Hm n=⟨n,0,0,[]⟩:=by
 unfold A6.Hm;rw[Bfn h hf,(A6.P1 hf).2];rfl
theorem Bj3{m:Nat}{s:A6}(h:G6 m s)(n:A1):Aeu s.ref n=((s.J4 (Hp n) n).1.ref,(s.J4 (Hp n) n).2):=by
 cases Qe:Hp n with
 |false=>
  have e1:Aeu s.ref n=(s.ref,5):=by unfold Aeu;rw[if_pos Qe]
  have e2:s.J4 false n=(s,5):=by unfold A6.J4;rw[if_pos rfl]
  rw[e1,e2]
 |true=>
  have e1:Aeu s.ref n=if 0≤Jz n s.ref 0 then(s.ref,15)else if 8≤s.ref.length then(s.ref,17)else(Tj n s.ref [] false,0):=by unfold Aeu;rw[if_neg (by rw[Qe];simp)]
  have e2:s.J4 true n=if(s.fi n).isSome=true then(s,15)else if 8≤s.sp.length then(s,17)else({s with sp:=s.sp++[(n,Ny)]},0):=by unfold A6.J4;rw[if_neg (by simp)]
  rw[e1,e2];cases hf:s.fi n with
  |some i=>
   obtain⟨q,hq,_⟩:=Ag7 (s:=s) (n:=n) (by rw[hf];rfl)
   rw[if_pos (show 0≤Jz n s.ref 0 by rw[hq];omega),if_pos (show(some i).isSome=true from rfl)]
  |none=>
   rw[if_neg (show ¬0≤Jz n s.ref 0 by rw[An0 hf];omega),if_neg (show ¬(none:Option Nat).isSome=true by simp)]
   have hl:s.ref.length=s.sp.length:=by unfold A6.ref A6.names;rw[An,Aex,An]
   rw[hl];by_cases h8:8≤s.sp.length
   ·rw[if_pos h8,if_pos h8]
   ·rw[if_neg h8,if_neg h8];refine Prod.ext ?_ rfl;dsimp only;unfold A6.ref A6.names;dsimp only;rw[B5,show([(n,Ny)]:List (A1 × Ef)).map (·.1)=[n]from rfl,Bbr,Axy (f:=s.Hm) (fun _=>rfl) (Bkc h hf),Cu]
    refine List.map_congr_left fun k _=>?_
    unfold A6.Hm;rw[Ar6 hf]

def Jv(n:A1):List C0→Int
 | []=>0
 |h::r=>(if(Cz h.at_).1=n then(h.vs.length:Int)else 0)+Jv n r
theorem Ajr(n:A1):∀a b:List C0,Jv n (a++b)=Jv n a+Jv n b
 | [],b=>by simp[Jv]
 |h::r,b=>by simp only[C4,Jv,Ajr n r b];omega
theorem A5c{n:A1}{h:C0}:∀{l:List C0} {p:Nat} {e:C0},l[p]?=some e→Jv n (l.set p h)=Jv n l - (if(Cz e.at_).1=n then(e.vs.length:Int)else 0)+(if(Cz h.at_).1=n then(h.vs.length:Int)else 0)
 | [],p,e,he=>by simp at he
 |x::r,0,e,he=>by
  simp only[B9,Af]at he;subst he;simp only[F7,Jv];omega
 |x::r,p+1,e,he=>by
  simp only[Bn]at he;simp only[E9,Jv,A5c he];omega
theorem Ajs{n:A1}{l:List C0}{a:A1}{v:Bt}:Jv n (Pf l a v)=Jv n l+if(Cz a).1=n then 1 else 0:=by
 unfold Pf Afx;split
 ·rename_i hf;obtain⟨e,h2,h3⟩:=Ww hf;have h4:e.at_=a:=by simpa[Su]using h3
  rw[Sm h2,A5c h2];dsimp only;rw[h4];split
  ·simp only[Cw,List.length_singleton];omega
  ·omega
 ·rename_i hf;rw[Ajr]
  conv=>rhs;rw[←B3 (Gm (Fe a) l) l,Ajr]
  simp only[Jv,List.length_singleton];split<;>omega
theorem Aop{n:A1}:∀{l:List C0} {a:Int},Zh (keysOf n l) a=a+Jv n l
 | [],a=>by show a=a+0;omega
 |h::r,a=>by
  unfold keysOf;rw[Cc];unfold G3;simp only[Jv];by_cases e:(Cz h.at_).1=n
  ·rw[if_pos e,if_pos e];show Zh (keysOf n r) (a+(h.vs.length:Int))=_;rw[Aop];omega
  ·rw[if_neg e,if_neg e];show Zh (keysOf n r) a=_;rw[Aop];omega
theorem Aw1{n k:A1}{c:Ce}{x:N0}(hn:n.length<256)(h:x.t.Jk=Jv n x.l):(Dv n k c x).t.Jk=Jv n (Dv n k c x).l:=by
 have hw:(Cz (Cp n k)).1=n:=by rw[D3 hn]
 unfold Dv;dsimp only;split
 ·exact h
 ·split
  ·dsimp only;rw[Ajs,if_pos hw,h]
  ·split
   ·dsimp only;rw[Ajs,if_pos hw,h]
   ·dsimp only;rw[Ajs,if_pos hw,h]
theorem Aw2{n k n':A1}{c:Ce}{x:N0}(hn:n.length<256)(h:n'≠n):Jv n' (Dv n k c x).l=Jv n' x.l:=by
 rcases Pb n k c x with e|⟨v,_,e,_⟩
 ·rw[e]
 ·rw[e,Ajs,D3 hn,if_neg (fun q=>h q.symm)];omega
theorem Aot{n:A1}{F:List Ce}(hn:n.length<256):∀{KK:List A1} {x:N0},x.t.Jk=Jv n x.l→(Ea n F KK x).t.Jk=Jv n (Ea n F KK x).l∧∀n',n'≠n→Jv n' (Ea n F KK x).l=Jv n' x.l
 | [],x,h=>⟨h,fun _ _=>rfl⟩
 |k::KK,x,h=>by
  obtain⟨a,b⟩:=Aot (F:=F) hn (KK:=KK) (Aw1 (k:=k) (c:=H5 F k) hn h);exact⟨a,fun n' Kb=>(b n' Kb).trans (Aw2 hn Kb)⟩
def Vu(s:A6):Prop:=∀n,(s.De n).Jk=Jv n s.l
theorem Vu.write{m:Nat}{s:A6}(h:G6 m s)(hc:Vu s)(n:A1)(cs:List Ce):Vu (s.Ja n cs).1:=by
 unfold A6.Ja;split
 ·exact hc
 ·rename_i i hi;split
  ·exact hc
  ·rename_i F hF;have hn:n.length<256:=by
    obtain⟨_,_,h3⟩:=A6.Jt hi;exact h.nm _ (Aw h3)
   obtain⟨a,b⟩:=Aot (F:=F) hn (KK:=Fz (F.map Ce.key)) (x:=⟨s.De n,s.l,false⟩) (hc n);generalize Ea n F (Fz (F.map Ce.key)) ⟨s.De n,s.l,false⟩=Z at*;intro n';rw[N8 hi];dsimp only at b ⊢;by_cases e:n'=n
   ·subst e;rw[if_pos rfl, ←a];unfold N0.fin;split<;>rfl
   ·rw[if_neg e,b n' e];exact hc n'
theorem A04{n:A1}{rev:Int}:∀{l:List C0} {x:CSt},(Ls n rev l x).c=x.c+Jv n (l.filterMap (Kz n rev))
 | [],x=>by show x.c=x.c+0;omega
 |h::r,x=>by
  unfold Ls;rw[A04,Cc];unfold Tn Kz;by_cases e:(Cz h.at_).1=n
  ·rw[if_pos e,if_pos e];by_cases g:h.vs.length≤Mt rev h.vs
   ·rw[if_pos g,if_pos g]
   ·rw[if_neg g,if_neg g];dsimp only;simp only[Jv];rw[if_pos e,Br];omega
  ·rw[if_neg e,if_neg e];dsimp only;simp only[Jv];rw[if_neg e];omega
theorem A5b{n n':A1}{rev:Int}(hn:n'≠n):∀{l:List C0},Jv n' (l.filterMap (Kz n rev))=Jv n' l
 | []=>rfl
 |h::r=>by
  rw[Cc];have ih:=A5b (rev:=rev) hn (l:=r);by_cases e:(Cz h.at_).1=n
  ·have e2:¬(Cz h.at_).1=n':=fun q=>hn (q.symm.trans e)
   cases hc:Kz n rev h with
   |none=>
    dsimp only;rw[ih];simp only[Jv];rw[if_neg e2,Int.zero_add]
   |some y=>
    obtain⟨a1,k,a2,_⟩:=Si hc;dsimp only;simp only[Jv];rw[a1,if_neg e2,if_neg e2,Int.zero_add,Int.zero_add,ih]
  ·rw[show Kz n rev h=some h by unfold Kz;rw[if_neg e]]
   dsimp only;simp only[Jv];rw[ih]
theorem Vu.comp{s:A6}(hc:Vu s)(n:A1)(rev:Int):Vu (s.J9 n rev).1:=by
 unfold A6.J9;split
 ·exact hc
 ·rename_i i hi;split
  ·obtain⟨c1,_⟩:=Vv (n:=n) (rev:=rev) (l:=s.l) (x:=⟨[],0⟩);have c2:=A04 (n:=n) (rev:=rev) (l:=s.l) (x:=⟨[],0⟩);rw[Cu]at c1;generalize Ls n rev s.l ⟨[],0⟩=Z at*;dsimp only at c2;intro n';rw[N8 hi];dsimp only;rw[c1];by_cases e:n'=n
   ·subst e;rw[if_pos rfl];dsimp only;rw[c2];omega
   ·rw[if_neg e,A5b e];exact hc n'
  ·exact hc
theorem Vu.open{s:A6}(hc:Vu s)(nm:Bool)(n:A1):Vu (s.J4 nm n).1:=by
 have h2:=(Aeq (s:=s) (nm:=nm) (n:=n) (n':=[])).2;intro n';rw[h2,Aeq.1];exact hc n'
set_option maxRecDepth 100000
set_option maxHeartbeats 40000000

open Go.Proofs
theorem Bn0(s s':A6)(R R':List Cv)(n:A1)(l:List Ce)(x:Sp)(rev most a b:Int)
 (hw:Fn Tryz.prog Hn [sP s,.v (.str n),.v (.list (l.map Ce.Ap))] (Is (.F4 [.i (ti a),.i (ti b)]) [sP s',.no,.no]))
 (hv:Fn Tryz.prog Jq [rT R,.v (.str n),.v (.list (l.map Ce.Ap))] (Is (.F4 [.i (ti a),.i (ti b)]) [rT R',.no,.no])):
 Fn Tryz.prog Jp [sP s,rT R,.v (⟨0,n,l,x,rev,most⟩:K6).Ap] (Is (.v (.bool true)) [sP s',rT R',.no]):=by
 refine Lf ?_ (by simp)
 unfold K6.Ap;dsimp only;have g1:¬decide (a=a)=false:=by simp
 repeat'((conv=>whnf);first|(with_reducible refine Bv (by first|exact Ae (by assumption)|refine decide_eq_true ?_;omega|rfl) fun hb=>?_);(try rw[hb]);try simp only[Am]at hb|(with_reducible refine Aa ?_ ?_);focus (and_intros<;>first|omega|kernel_rfl|intro _ hh;cases hh;done|simp;done|decide)|(with_reducible refine A5.mk ?_);(first|refine⟨_,hw,?_⟩|refine⟨_,hv,?_⟩);rintro _ _ ⟨rfl,rfl⟩)
 all_goals(try(conv=>whnf))
 all_goals(refine Gg.mk ⟨SV.E1 ?_,by kernel_rfl⟩ (by kernel_rfl))
 all_goals(first|rfl|(simp;done))
theorem Bn1(s:A6)(R:List Cv)(n:A1)(l:List Ce)(x:Sp)(rev most:Int)(P:List Pr)(m:Bool)(e:Int)(hP:P.length≤100000)
 (hw:Fn Tryz.prog G4 [sP s,.v (.str n),.v x.Ap,.v (ti rev),.v (ti most)] (Is (.F4 [.i (.list (P.map Pr.Ap)),.i (.bool m),.i (ti e)]) [sP s,.no,.no,.no,.no]))
 (hv:Fn Tryz.prog Kx [rT R,.v (.str n),.v x.Ap,.v (ti rev),.v (ti most)] (Is (.F4 [.i (.list (P.map Pr.Ap)),.i (.bool m),.i (ti e)]) [rT R,.no,.no,.no,.no])):
 Fn Tryz.prog Jp [sP s,rT R,.v (⟨1,n,l,x,rev,most⟩:K6).Ap] (Is (.v (.bool true)) [sP s,rT R,.no]):=by
 refine Lf ?_ (by simp)
 unfold K6.Ap;dsimp only;have hs:=Awz P P hP;rw[decide_eq_true rfl]at hs;have g1:¬decide (m=m)=false:=by simp
 repeat'((conv=>whnf);first|(with_reducible first|refine Bv (by first|exact Ae (by assumption)|refine decide_eq_true ?_;omega|rfl) fun hb=>?_|refine Bq (by first|refine decide_eq_false ?_;omega|rfl) fun hb=>?_);(try rw[hb]);try simp only[Am]at hb|(with_reducible refine Aa ?_ ?_);focus (and_intros<;>first|omega|kernel_rfl|intro _ hh;cases hh;done|simp;done|decide)|(with_reducible refine A5.mk ?_);(first|refine⟨_,hw,?_⟩|refine⟨_,hv,?_⟩|refine⟨_,hs,?_⟩);rintro _ _ ⟨rfl,rfl⟩)
 all_goals(try(conv=>whnf))
 all_goals(refine Gg.mk ⟨SV.E1 ?_,by kernel_rfl⟩ (by kernel_rfl))
 all_goals(first|rfl|(simp;done))
theorem Bn2(s s':A6)(R R':List Cv)(n:A1)(l:List Ce)(x:Sp)(rev most a:Int)
 (hw:Fn Tryz.prog Rp [sP s,.v (.str n),.v (ti rev)] (Is (.v (ti a)) [sP s',.no,.no]))
 (hv:Fn Tryz.prog H0 [rT R,.v (.str n),.v (ti rev)] (Is (.v (ti a)) [rT R',.no,.no])):
 Fn Tryz.prog Jp [sP s,rT R,.v (⟨2,n,l,x,rev,most⟩:K6).Ap] (Is (.v (.bool true)) [sP s',rT R',.no]):=by
 refine Lf ?_ (by simp)
 unfold K6.Ap;dsimp only;repeat'((conv=>whnf);first|(with_reducible first|refine Bv (by first|refine decide_eq_true ?_;omega|rfl) fun hb=>?_|refine Bq (by first|refine decide_eq_false ?_;omega|rfl) fun hb=>?_);(try rw[hb]);try simp only[Am]at hb|(with_reducible refine Aa ?_ ?_);focus (and_intros<;>first|omega|kernel_rfl|intro _ hh;cases hh;done|simp;done|decide)|(with_reducible refine Dw.Gx ?_ ?_ ?_ fun Av=>?_);(iterate 3 focus (as_aux_lemma=>kernel_rfl));try simp only[zRL]at Av|(with_reducible refine Fv.mk ?_);refine⟨_,_,hw,?_⟩|(with_reducible refine Fv.mk ?_);refine⟨_,_,hv,?_⟩)
 all_goals(try(conv=>whnf))
 all_goals(refine Gg.mk ⟨SV.E1 ?_,by kernel_rfl⟩ (by kernel_rfl))
 all_goals(first|rfl|(simp;done))
theorem Bn3(s s':A6)(R R':List Cv)(n:A1)(l:List Ce)(x:Sp)(rev most a:Int)
 (hw:Fn Tryz.prog Qq [sP s,.v (.str n)] (Is (.v (ti a)) [sP s',.no]))
 (hv:Fn Tryz.prog Nn [rT R,.v (.str n)] (Is (.v (ti a)) [rT R',.no])):
 Fn Tryz.prog Jp [sP s,rT R,.v (⟨3,n,l,x,rev,most⟩:K6).Ap] (Is (.v (.bool true)) [sP s',rT R',.no]):=by
 refine Lf ?_ (by simp)
 unfold K6.Ap;dsimp only;repeat'((conv=>whnf);first|(with_reducible first|refine Bv (by first|refine decide_eq_true ?_;omega|rfl) fun hb=>?_|refine Bq (by first|refine decide_eq_false ?_;omega|rfl) fun hb=>?_);(try rw[hb]);try simp only[Am]at hb|(with_reducible refine Aa ?_ ?_);focus (and_intros<;>first|omega|kernel_rfl|intro _ hh;cases hh;done|simp;done|decide)|(with_reducible refine Dw.Gx ?_ ?_ ?_ fun Av=>?_);(iterate 3 focus (as_aux_lemma=>kernel_rfl));try simp only[zRL]at Av|(with_reducible refine Fv.mk ?_);refine⟨_,_,hw,?_⟩|(with_reducible refine Fv.mk ?_);refine⟨_,_,hv,?_⟩)
 all_goals(try(conv=>whnf))
 all_goals(refine Gg.mk ⟨SV.E1 ?_,by kernel_rfl⟩ (by kernel_rfl))
 all_goals(first|rfl|(simp;done))
theorem Bn4(s:A6)(R:List Cv)(k:Int)(n:A1)(l:List Ce)(x:Sp)(rev most:Int)(h0:k≠0)(h1:k≠1)(h2:k≠2)(h3:k≠3):
 Fn Tryz.prog Jp [sP s,rT R,.v (⟨k,n,l,x,rev,most⟩:K6).Ap] (Is (.v (.bool true)) [sP s,rT R,.no]):=by
 refine Lf ?_ (by simp)
 unfold K6.Ap;dsimp only;have g0:¬decide (k=0)=true:=by simpa using h0
 have g1:¬decide (k=1)=true:=by simpa using h1
 have g2:¬decide (k=2)=true:=by simpa using h2
 have g3:¬decide (k=3)=true:=by simpa using h3
 repeat'((conv=>whnf);first|(with_reducible refine Bq (by exact Ag (by assumption)) fun hb=>?_);(try rw[hb]);try simp only[Am]at hb|(with_reducible refine Aa ?_ ?_);focus (and_intros<;>first|omega|kernel_rfl|simp;done))
 all_goals(try(conv=>whnf))
 (apply D6<;>kernel_rfl)
theorem Bdh(s:A6)(R:List Cv)(n:A1)(hl:R.length≤100000)(hf:Jz n R 0= -1)(ht:s.De n=Ny):
 Fn Tryz.prog Mr [sP s,rT R,.v (.str n)] (Is (.v (.bool true)) [sP s,rT R,.no]):=by
 refine Tz ?_ (by simp)
 have H6:=Lh R n hl;rw[hf]at H6;have c1:=A48 s n;have c2:=Au8 s n;have c3:=Au7 s n;have c4:=Ay1 s n;have c5:=Aak s n;rw[ht]at c1 c2 c3 c4 c5;dsimp only[Ny]at c1 c2 c3 c4 c5;repeat'((conv=>whnf);first|(with_reducible refine Bv (by first|refine decide_eq_true ?_;omega|rfl) fun hb=>?_);(try rw[hb]);try simp only[Am]at hb|(with_reducible refine Aa ?_ ?_);focus (and_intros<;>first|kernel_rfl|intro _ hh;cases hh;done|simp;done|decide)|(with_reducible refine A5.mk ?_);(first|refine⟨_,H6,?_⟩|refine⟨_,c1,?_⟩|refine⟨_,c2,?_⟩|refine⟨_,c3,?_⟩|refine⟨_,c4,?_⟩|refine⟨_,c5,?_⟩);rintro _ _ ⟨rfl,rfl⟩)
 all_goals(try(conv=>whnf))
 all_goals((apply D6<;>kernel_rfl))
theorem A9p(s:A6)(R:List Cv)(n:A1)(hl:R.length≤100000)(i:Nat)(p:Cv)(hf:Jz n R 0=(i:Int))(he:R[i]?=some p)(hb:Bhf p.keys)(K B V:Int)
 (hK:((Kp ⟨[],[]⟩ p.rev p.keys []).length:Int)=K) (hB:Ai9 (Kp ⟨[],[]⟩ p.rev p.keys []) 0=B) (hV:Zh p.keys 0=V) (ht:s.De n=⟨p.rev,p.floor,B,K,V⟩):
 Fn Tryz.prog Mr [sP s,rT R,.v (.str n)] (Is (.v (.bool true)) [sP s,rT R,.no]):=by
 refine Tz ?_ (by simp)
 have H6:=Lh R n hl;rw[hf]at H6;have Pv:=(Ak.1 he).1;have Fk:((R.map Cv.Ap).map D.it).length=R.length:=by simp
 have hco:=A6v p hb;rw[hK,hB,hV]at hco;have c1:=A48 s n;have c2:=Au8 s n;have c3:=Au7 s n;have c4:=Ay1 s n;have c5:=Aak s n;rw[ht]at c1 c2 c3 c4 c5;obtain⟨pn,pr,pf,pk⟩:=p;dsimp only at c1 c2 c3 c4 c5 hco;clear hK hB hV hb ht;have g1:¬decide (pr=pr)=false:=by simp
 have g2:¬decide (pf=pf)=false:=by simp
 have g3:¬decide (B=B)=false:=by simp
 have g4:¬decide (K=K)=false:=by simp
 repeat'((conv=>whnf);first|(with_reducible first|refine Bv (by first|exact Ae (by assumption)|rfl) fun hb=>?_|refine Bq (by first|refine decide_eq_false ?_;omega|rfl) fun hb=>?_);(try rw[hb]);try simp only[Am]at hb|(with_reducible refine Aa ?_ ?_);focus (and_intros<;>first|omega|with_reducible rfl|kernel_rfl|intro _ hh;cases hh;done|simp;done|decide)|(with_reducible refine Dw.Gx ?_ ?_ ?_ fun Av=>?_);(iterate 3 focus (as_aux_lemma=>kernel_rfl));try simp only[zRL]at Av|(with_reducible refine A5.mk ?_);(first|refine⟨_,H6,?_⟩|refine⟨_,hco,?_⟩);rintro _ _ ⟨rfl,rfl⟩|(with_reducible refine Fv.mk ?_);refine⟨_,_,c1,?_⟩|(with_reducible refine Fv.mk ?_);refine⟨_,_,c2,?_⟩|(with_reducible refine Fv.mk ?_);refine⟨_,_,c3,?_⟩|(with_reducible refine Fv.mk ?_);refine⟨_,_,c4,?_⟩|(with_reducible refine Fv.mk ?_);refine⟨_,_,c5,?_⟩|(with_reducible apply Dh);(focus rfl);(focus (simp only[D.at,D.put,D.Cr,D.Bc,B7,Bw,D.Ap,B8,A4,Dq,he,Fk]<;>exact rfl));(try(focus exact rfl)))
 all_goals(try(conv=>whnf))
 all_goals(refine Gg.mk ⟨SV.E1 ?_,by kernel_rfl⟩ (by kernel_rfl))
 all_goals(first|rfl|(simp;done))

open Go.Proofs
theorem Ag6(s:A6):s.ref.length=s.sp.length:=by unfold A6.ref A6.names;rw[An,Aex,An]
theorem A3c(n:A1)(l:List C0):(keysOf n l).length≤l.length:=M1 _ _
theorem Axz{n:A1}{l:List C0}{x:Kv}(hx:x∈keysOf n l):∃y∈l,x.key=(Cz y.at_).2.1∧x.vs=y.vs:=by
 obtain⟨y,hy,e⟩:=Gp.1 hx;unfold G3 at e;split at e
 ·simp only[Af]at e;subst e;exact⟨y,hy,rfl,rfl⟩
 ·cases e
theorem Ao5{m:Nat}{s:A6}(h:G6 m s)(hm:m≤80000)(hc:Ro s)(n:A1):Bhf (keysOf n s.l)∧KL 80000 (keysOf n s.l):=by
 have hl:=A3c n s.l;have hlen:=h.lb.len;refine⟨⟨by omega,fun x hx=>?_⟩,⟨by omega,fun x hx=>?_⟩⟩
 ·obtain⟨y,hy,e1,e2⟩:=Axz hx;obtain⟨_,_,b3,b4⟩:=h.lb.held y hy;have:=(hc.vk y hy).1;rw[e1,e2];exact⟨by omega,by omega,b4⟩
 ·obtain⟨y,hy,e1,e2⟩:=Axz hx;obtain⟨_,_,b3,b4⟩:=h.lb.held y hy;rw[e2];omega
theorem A3t:∀{V:List (A1 × Bt)} {a:Int},Ai9 (V.map Ai8) a=a+Avn V
 | [],a=>by show a=a+0;omega
 |p::r,a=>by
  show Ai9 (r.map Ai8) (a+(p.1.length:Int)+(p.2.val.length:Int))=_;rw[A3t];simp only[Avn];omega
theorem A9o{m:Nat}{s:A6}(h:G6 m s)(hm:m≤80000)(hl:s.sp.length≤8)(hc:Ro s)(hv:Vu s)(n:A1):
 Fn Tryz.prog Mr [sP s,rT s.ref,.v (.str n)] (Is (.v (.bool true)) [sP s,rT s.ref,.no]):=by
 have Tf:=Ag6 s;cases hf:s.fi n with
 |none=>exact Bdh s s.ref n (by omega) (An0 hf) (A6.P1 hf).2
 |some j=>
  obtain⟨i,h1,h2,_⟩:=Ag7 (s:=s) (n:=n) (by rw[hf];rfl)
  obtain⟨v1,v2,_⟩:=Aqr (n:=n) (R:=(s.De n).rev) (l:=s.l) (fun y hy=>by
   have h3:=h.wi.2 y hy;refine⟨h3.1,h3.2.1,(h.lb.held y hy).2.1,fun e v Na=>?_⟩
   have h4:=(h3.2.2 v Na).2;dsimp only at h4;rw[e]at h4;exact h4) h.wi.1 hc.vk
  have Jd:Kp ⟨[],[]⟩ (s.De n).rev (keysOf n s.l) []=(N9 n (s.De n).rev s.l).map Ai8:=by
   rw[Zm,Cu, ←Ar9 fun y hy=>(h.wi.2 y hy).2.1,K5.2]
   intro p _;simp only[decide_eq_true_eq];exact⟨List.not_lt.1 (List.not_lt_nil _),.inl rfl⟩
  have hcn:=hc.cnt n;have hvn:=hv n;refine A9p s s.ref n (by omega) i (s.Hm n) h1 h2 (Ao5 h hm hc n).1 (s.De n).keys (s.De n).bytes (s.De n).Jk ?_ ?_ ?_ rfl
  ·show((Kp ⟨[],[]⟩ (s.De n).rev (keysOf n s.l) []).length:Int)=_;rw[Jd,An,v1,hcn.1]
  ·show Ai9 (Kp ⟨[],[]⟩ (s.De n).rev (keysOf n s.l) []) 0=_;rw[Jd,A3t,v2,hcn.2];omega
  ·show Zh (keysOf n s.l) 0=_;rw[Aop,hvn];omega

open Go.Proofs
theorem Btz{m:Nat}{s:A6}(h:G6 m s)(hm:m≤80000)(hl:s.sp.length≤8)(hc:Ro s)(n:A1)(cs:List Ce)(Kr:cs.length≤1000):
 Fn Tryz.prog Jq [rT s.ref,.v (.str n),.v (.list (cs.map Ce.Ap))] (Is (.F4 [.i (ti (s.Ja n cs).2.1),.i (ti (s.Ja n cs).2.2)]) [rT (s.Ja n cs).1.ref,.no,.no]):=by
 have Tf:=Ag6 s;cases hf:s.fi n with
 |none=>
  rw[show s.Ja n cs=(s,0,16)by unfold A6.Ja;rw[hf]]
  exact A6e s.ref n _ (by omega) (An0 hf)
 |some j=>
  obtain⟨i,h1,h2,h3⟩:=Ag7 (s:=s) (n:=n) (by rw[hf];rfl)
  cases hF:L6 cs []with
  |none=>
   rw[show s.Ja n cs=(s,0,1)by unfold A6.Ja;rw[hf];dsimp only;rw[hF]]
   exact Bbj s.ref n cs (by omega) Kr i (s.Hm n) h1 h2 false rfl (by rw[Avz (F:=[]),hF];rfl)
  |some FF=>
   obtain⟨e1,e2,e3⟩:=Bf7 h hf hF h3;rw[e1,e2,e3];have hk:=(Ao5 h hm hc n).2;have hr:=h.rv n;exact Bgd s.ref n cs (by omega) Kr i (s.Hm n) h1 h2 ⟨C2 hk.1 (by omega),fun x hx=>C2 (hk.2 x hx) (by omega)⟩ ⟨by show 0≤(s.De n).rev;omega,by show(s.De n).rev≤_;omega⟩ true rfl (by rw[Avz (F:=[]),hF];rfl) _ rfl
theorem Bty{m:Nat}{s:A6}(h:G6 m s)(hm:m≤80000)(hl:s.sp.length≤8)(hc:Ro s)(n:A1)(x:Sp)(rev most:Int):
 Fn Tryz.prog Kx [rT s.ref,.v (.str n),.v x.Ap,.v (ti rev),.v (ti most)] (Is (.F4 [.i (.list ((s.Nw n x rev most).1.map Pr.Ap)),.i (.bool (s.Nw n x rev most).2.1),.i (ti (s.Nw n x rev most).2.2)]) [rT s.ref,.no,.no,.no,.no]):=by
 have Tf:=Ag6 s;cases hf:s.fi n with
 |none=>
  rw[show s.Nw n x rev most=([],false,16)by unfold A6.Nw;rw[if_pos (by rw[hf];rfl)]]
  exact A6c s.ref n x rev most (by omega) (An0 hf)
 |some j=>
  obtain⟨i,h1,h2,h3⟩:=Ag7 (s:=s) (n:=n) (by rw[hf];rfl)
  rw[Ayc h (by rw[hf];rfl)]
  have hk:=(Ao5 h hm hc n).2;exact A6d s.ref n x rev most (by omega) i (s.Hm n) h1 h2 (C2 hk.1 (by omega)) fun y hy=>C2 (hk.2 y hy) (by omega)
theorem Btw{m:Nat}{s:A6}(h:G6 m s)(hm:m≤80000)(hl:s.sp.length≤8)(hc:Ro s)(n:A1)(rev:Int):
 Fn Tryz.prog H0 [rT s.ref,.v (.str n),.v (ti rev)] (Is (.v (ti (s.J9 n rev).2)) [rT (s.J9 n rev).1.ref,.no,.no]):=by
 have Tf:=Ag6 s;cases hf:s.fi n with
 |none=>
  rw[show s.J9 n rev=(s,16)by unfold A6.J9;rw[hf]]
  exact Bbe s.ref n rev (by omega) (An0 hf)
 |some j=>
  obtain⟨i,h1,h2,h3⟩:=Ag7 (s:=s) (n:=n) (by rw[hf];rfl)
  by_cases he:s.Vo n rev=0
  ·rw[Bj2 h hf he h3,show(s.J9 n rev).2=0 by unfold A6.J9;rw[hf];dsimp only;rw[if_pos he]]
   obtain⟨c1,c2,c3⟩:=Ahy he;have hk:=(Ao5 h hm hc n).2;exact Bj0 s.ref n rev (by omega) i (s.Hm n) h1 h2 ⟨c1,c2,c3⟩ ⟨C2 hk.1 (by omega),fun x hx=>C2 (hk.2 x hx) (by omega)⟩
  ·rw[show s.J9 n rev=(s,s.Vo n rev)by unfold A6.J9;rw[hf];dsimp only;rw[if_neg he]]
   exact Bf5 s.ref n rev (by omega) i (s.Hm n) h1 h2 he
theorem Btx{m:Nat}{s:A6}(h:G6 m s)(hl:s.sp.length≤8)(n:A1):
 Fn Tryz.prog Nn [rT s.ref,.v (.str n)] (Is (.v (ti (s.J4 (Hp n) n).2)) [rT (s.J4 (Hp n) n).1.ref,.no]):=by
 have Tf:=Ag6 s;have:=A60 s.ref n (by omega)
 rw[Bj3 h n]at this;exact this
theorem A3x{s:A6}{m:Nat}(h:G6 m s)(hm:m≤80000)(n:A1)(x:Sp)(rev most:Int)(hf:(s.fi n).isSome=true):(s.Nw n x rev most).1.length≤100000:=by
 rw[Ayc h hf];have hk:=A3c n s.l;have hlen:=h.lb.len;have ha:∀r,(Kp x r (s.Hm n).keys []).length≤100000:=fun r=>by
  rw[Zm,Cu];have:=M1 (V2 x r) (s.Hm n).keys;have e:(s.Hm n).keys=keysOf n s.l:=rfl;rw[e]at this ⊢;omega
 unfold rrP;have hr:=ha (if rev=0 then(s.Hm n).rev else rev)
 generalize Kp x (if rev=0 then(s.Hm n).rev else rev) (s.Hm n).keys []=A at*
 split
 ·simp
 ·split
  ·simp
  ·split
   ·simp
   ·by_cases c:most<(A.length:Int)
    ·rw[if_pos c];dsimp only;rw[Ck];omega
    ·rw[if_neg c];exact hr
theorem Bht{m:Nat}{s:A6}(h:G6 m s)(hm:m≤80000)(hl:s.sp.length≤8)(hc:Ro s)(o:K6)(hol:o.l.length≤1000)(hon:o.n.length≤1000):
 Fn Tryz.prog Jp [sP s,rT s.ref,.v o.Ap] (Is (.v (.bool true)) [sP (s.Nk o),rT (s.Nk o).ref,.no]):=by
 obtain⟨k,n,l,x,rev,most⟩:=o;dsimp only at hol hon;by_cases k0:k=0
 ·subst k0;exact Bn0 s _ s.ref _ n l x rev most _ _ (A63 h hm n l hon hol) (Btz h hm hl hc n l hol)
 ·by_cases k1:k=1
  ·subst k1;refine Bn1 s s.ref n l x rev most _ _ _ ?_ (A61 h hm n hon x rev most) (Bty h hm hl hc n x rev most);cases hf:s.fi n with
   |none=>rw[show s.Nw n x rev most=([],false,16)by unfold A6.Nw;rw[if_pos (by rw[hf];rfl)]];simp
   |some j=>exact A3x h hm n x rev most (by rw[hf];rfl)
  ·by_cases k2:k=2
   ·subst k2;exact Bn2 s _ s.ref _ n l x rev most _ (Bch h hm n rev) (Btw h hm hl hc n rev)
   ·by_cases k3:k=3
    ·subst k3;exact Bn3 s _ s.ref _ n l x rev most _ (Bcj s n) (Btx h hl n)
    ·rw[show s.Nk ⟨k,n,l,x,rev,most⟩=s by unfold A6.Nk;rw[if_neg k0,if_neg k2,if_neg k3]]
     exact Bn4 s s.ref k n l x rev most k0 k1 k2 k3
theorem Vu.step{m:Nat}{s:A6}(h:G6 m s)(hc:Vu s)(o:K6):Vu (s.Nk o):=by
 unfold A6.Nk;split
 ·exact hc.write h _ _
 ·split
  ·exact hc.comp _ _
  ·split
   ·exact hc.open _ _
   ·exact hc
theorem Bjo{s:A6}(h:s.sp.length≤8)(o:K6):(s.Nk o).sp.length≤8:=by
 unfold A6.Nk;split
 ·unfold A6.Ja;split
  ·exact h
  ·split
   ·exact h
   ·dsimp only;rw[List.length_set];exact h
 ·split
  ·unfold A6.J9;split
   ·exact h
   ·split
    ·dsimp only;rw[List.length_set];exact h
    ·exact h
  ·split
   ·unfold A6.J4;split
    ·exact h
    ·split
     ·exact h
     ·split
      ·exact h
      ·dsimp only;rw[Cw,List.length_singleton];omega
   ·exact h

structure Cm where
 key:A1
 what:Int
 rev:Int
 val:A1
 deriving DecidableEq,Inhabited
def Cm.Ap(c:Cm):I:=.agg [.str c.key,ti c.what,ti c.rev,.str c.val]
structure Act where
 kind:Int
 x:Sp
 key:A1
 val:A1
 rev:Int
 most:Int
def Act.Ap(d:Act):I:=.agg [ti d.kind,d.x.Ap,.str d.key,.str d.val,ti d.rev,ti d.most]
structure Ou where
 prs:List Pr
 more:Bool
 cnt:Int
 deriving DecidableEq,Inhabited
def Ou.Ap(o:Ou):I:=.agg [.list (o.prs.map Pr.Ap),.bool o.more,ti o.cnt]
def Cm.ok(c:Cm):Prop:=(1≤c.key.length∧c.key.length≤64)∧(1≤c.what∧c.what≤4)∧(0≤c.rev∧c.rev≤1099511627776)∧c.val.length≤256
instance(c:Cm):Decidable c.ok:=by unfold Cm.ok;infer_instance
def Act.ok(d:Act):Prop:=if d.kind=1 then Wo d.x∧(0≤d.rev∧d.rev≤1099511627776)∧(0≤d.most∧d.most≤16)else if d.kind=2 then(1≤d.key.length∧d.key.length≤64)∧d.val.length≤256 else d.kind=3∧Wo d.x
instance(d:Act):Decidable d.ok:=by unfold Act.ok;infer_instance
structure Rn where
 yes:Bool
 outs:List Ou
 chs:List Ce
 e:Int
 deriving DecidableEq
structure Now(s:A6)(n:A1):Prop where
 so:(N9 n (s.De n).rev s.l).Pairwise fun a b=>a.1<b.1
 k64:∀p∈N9 n (s.De n).rev s.l,p.1.length≤64
 len:(N9 n (s.De n).rev s.l).length≤s.l.length

def K1(s:A6):Prop:=∀h∈s.l,1≤(Cz h.at_).2.1.length
theorem Bh6{FF:List Ce}(h:∀c∈FF,c.ok){k:A1}(hk:k∈Fz (FF.map Ce.key)):1≤k.length:=by
 obtain⟨q,_,h2,h3⟩:=Aq6 (Z4.1 hk);have h4:=h _ (Aw h2);rw[←h3];exact h4.1.1
theorem Avp{n:A1}{F:List Ce}(hn:n.length<256):∀{KK:List A1} {x:N0},(∀k∈KK,1≤k.length)→(∀h∈x.l,1≤(Cz h.at_).2.1.length)→∀h∈(Ea n F KK x).l,1≤(Cz h.at_).2.1.length
 | [],x,_,h=>h
 |k::KK,x,hk,h=>by
  unfold Ea;refine Avp hn (fun y hy=>hk y (Au _ hy)) ?_
  rcases Pb n k (H5 F k) x with e|⟨v,_,e,_⟩
  ·rw[e];exact h
  ·rw[e];intro y hy;rcases Arw hy with h1|rfl|⟨e,_,_,rfl⟩
   ·exact h y h1
   ·dsimp only;rw[D3 hn];exact hk k (Ar ..)
   ·dsimp only;rw[D3 hn];exact hk k (Ar ..)
theorem K1.write{m:Nat}{s:A6}(h:G6 m s)(hk:K1 s)(n:A1)(cs:List Ce):K1 (s.Ja n cs).1:=by
 unfold A6.Ja;split
 ·exact hk
 ·rename_i i hi;split
  ·exact hk
  ·rename_i F hF;obtain⟨_,f2,_⟩:=T8 hF (by simp) (by simp)
   exact Avp (h.name hi) (fun k hk=>Bh6 f2 hk) hk
theorem K1.comp{s:A6}(hk:K1 s)(n:A1)(rev:Int):K1 (s.J9 n rev).1:=by
 unfold A6.J9;split
 ·exact hk
 ·split
  ·obtain⟨c1,_⟩:=Vv (n:=n) (rev:=rev) (l:=s.l) (x:=⟨[],0⟩);rw[Cu]at c1;intro x hx;dsimp only at hx;rw[c1]at hx;obtain⟨y,hy,e⟩:=Gp.1 hx;rw[(Si e).1];exact hk y hy
  ·exact hk
end Go.Ab

