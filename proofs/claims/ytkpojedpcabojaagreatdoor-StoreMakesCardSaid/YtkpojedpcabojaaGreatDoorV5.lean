/- Lemmas -/
import Derived.Test.YtkpojedpcabojaaGreatDoorW6
set_option linter.unusedVariables false
set_option linter.unusedSimpArgs false
namespace Go.Ab
theorem Arw{l:List C0}{a:A1}{v:Bt}{h:C0}(hh:h∈Pf l a v):h∈l∨h=⟨a,[v]⟩∨∃e∈l,e.at_=a∧h=⟨a,e.vs++[v]⟩:=by
 unfold Pf Afx at hh;split at hh
 ·rename_i hf;obtain⟨e,h2,h3⟩:=Ww hf;rw[Sm h2]at hh;have h4:e.at_=a:=by simpa[Su]using h3
  rcases E0 hh with h|rfl
  ·exact .inl h
  ·exact .inr (.inr ⟨e,Aw h2,h4,by rw[h4]⟩)
 ·rcases Aj.1 hh with h|h
  ·exact .inl (C6 h)
  ·rcases Ah.1 h with rfl|h
   ·exact .inr (.inl rfl)
   ·exact .inl (Er h)
theorem Bok{l:List C0}{a:A1}{v:Bt}(hl:P6 l):P6 (Pf l a v):=by
 unfold Pf Afx;split
 ·rename_i hf;obtain⟨e,h2,h3⟩:=Ww hf;rw[Sm h2,P6,Gi];rw[List.set_getElem?_self' (l:=l.map C0.at_) (by rw[B2,h2];rfl)]
  exact hl
 ·rename_i hf;have Ve:=hl;rw[P6,List.pairwise_map]at Ve;obtain⟨h1,h2⟩:=Yj (lt:=Fe a) (l:=l) (Ve.imp fun {x y} Te hb=>by simp only[Fe,decide_eq_true_eq]at*;exact E2 Te hb)
  have hgt:∀x∈l.drop (Gm (Fe a) l),a<x.at_:=by
   intro x hx;have h3:=h2 x hx;simp only[Fe,decide_eq_false_iff_not]at h3;obtain⟨j,hj,rfl⟩:=Hi.1 hx;rw[Br]at hj;rw[List.getElem_drop]at h3 ⊢;have A2:l[Gm (Fe a) l+j].at_≠a:=by
    intro e;cases j with
    |zero=>
     apply hf;unfold U6;rw[Ac (show Gm (Fe a) l<l.length by omega)]
     simp only[Option.any_some,Su,decide_eq_true_eq];exact e
    |succ j=>
     have h4:=Jf.1 Ve (Gm (Fe a) l) (Gm (Fe a) l+(j+1)) (by omega) (by omega) (by omega)
     rw[e]at h4;have h5:=h2 (l[Gm (Fe a) l]'(by omega)) (by rw[A7 (by omega)];exact Ar ..)
     simp only[Fe,decide_eq_false_iff_not]at h5;exact h5 h4
   exact Std.lt_of_le_of_ne (List.not_lt.1 h3) (Ne.symm A2)
  rw[P6,B5,A0,P7,B1];rw[P6]at hl;refine⟨?_,⟨?_,?_⟩,?_⟩
  ·rw[List.map_take];exact List.Pairwise.sublist (List.take_sublist _ _) hl
  ·intro y hy;obtain⟨x,hx,rfl⟩:=Cs.1 hy;exact hgt x hx
  ·rw[List.map_drop];exact List.Pairwise.sublist (List.drop_sublist _ _) hl
  ·intro y hy z hz;obtain⟨x,hx,rfl⟩:=Cs.1 hy;have h3:=h1 x hx;simp only[Fe,decide_eq_true_eq]at h3;rcases Ah.1 hz with rfl|hz
   ·exact h3
   ·obtain⟨w,hw,rfl⟩:=Cs.1 hz;exact E2 h3 (hgt w hw)
def Wp(U:A1→Int)(l:List C0):Prop:=P6 l∧∀h∈l,Sg h.at_∧U4 h.vs∧∀v∈h.vs,1≤v.rev∧v.rev≤U h.at_
theorem U4.snoc{vs:List Bt}{v:Bt}{u:Int}(h:U4 vs)(hu:∀x∈vs,x.rev≤u)(hv:u<v.rev):U4 (vs++[v]):=by
 rw[U4,P7];refine⟨h,by simp,fun x hx y hy=>?_⟩
 simp only[Cx]at hy;subst hy;have:=hu x hx;omega
theorem Wp.put{U U':A1→Int}{l:List C0}{a:A1}{v:Bt}(h:Wp U l)(hU:∀x,U x≤U' x)(h1:1≤v.rev)(h2:U a<v.rev)(h3:v.rev≤U' a)(ha:Sg a):Wp U' (Pf l a v):=by
 refine⟨Bok h.1,fun x hx=>?_⟩
 rcases Arw hx with hx|rfl|⟨e,he,hea,rfl⟩
 ·obtain⟨a1,a2,a3⟩:=h.2 x hx;exact⟨a1,a2,fun v hv=>⟨(a3 v hv).1,Int.le_trans (a3 v hv).2 (hU _)⟩⟩
 ·exact⟨ha,by simp[U4],fun w hw=>by simp only[Cx]at hw;subst hw;exact⟨h1,h3⟩⟩
 ·obtain⟨a1,a2,a3⟩:=h.2 e he;rw[hea]at a3;refine⟨ha,a2.snoc (fun x hx=>(a3 x hx).2) h2,fun w hw=>?_⟩
  rcases Aj.1 hw with hw|hw
  ·exact⟨(a3 w hw).1,Int.le_trans (a3 w hw).2 (hU _)⟩
  ·simp only[Cx]at hw;subst hw;exact⟨h1,h3⟩
def Tm(n:A1)(r:Int)(R:A1→Int)(KK:List A1)(a:A1):Int:=if(Cz a).1=n then(if(Cz a).2.1∈KK then r else r+1)else R (Cz a).1
theorem Pb(n k:A1)(c:Ce)(x:N0):Dv n k c x=x∨∃v,v.rev=x.t.rev+1∧(Dv n k c x).l=Pf x.l (Cp n k) v∧(Dv n k c x).w=true:=by
 unfold Dv;dsimp only;split
 ·exact .inl rfl
 ·right;split
  ·exact⟨_,rfl,rfl,rfl⟩
  ·split
   ·exact⟨_,rfl,rfl,rfl⟩
   ·exact⟨_,rfl,rfl,rfl⟩
theorem Zi(n k:A1)(c:Ce)(x:N0):(Dv n k c x).t.rev=x.t.rev∧(Dv n k c x).t.floor=x.t.floor:=by
 unfold Dv;dsimp only;split
 ·exact⟨rfl,rfl⟩
 ·split
  ·exact⟨rfl,rfl⟩
  ·split<;>exact⟨rfl,rfl⟩
theorem Aw7{n:A1}{r:Int}{R:A1→Int}{k:A1}{KK:List A1}(a:A1):Tm n r R (k::KK) a≤Tm n r R KK a:=by
 unfold Tm;split
 ·split<;>split
  ·omega
  ·omega
  ·rename_i h1 h2;exact absurd (Au _ h2) h1
  ·omega
 ·omega
theorem Vt{n k:A1}{c:Ce}{x:N0}{R:A1→Int}{KK:List A1}(hn:n.length<256)(hk:k ∉ KK)(hr:0≤x.t.rev)(h:Wp (Tm n x.t.rev R (k::KK)) x.l):
 Wp (Tm n x.t.rev R KK) (Dv n k c x).l:=by
 rcases Pb n k c x with e|⟨v,h1,h2,_⟩
 ·rw[e];exact⟨h.1,fun y hy=>⟨(h.2 y hy).1,(h.2 y hy).2.1,fun v hv=>⟨((h.2 y hy).2.2 v hv).1,Int.le_trans ((h.2 y hy).2.2 v hv).2 (Aw7 _)⟩⟩⟩
 ·rw[h2];have hw:Cz (Cp n k)=(n,k,true):=D3 hn;refine h.put Aw7 (by omega) ?_ ?_ ⟨n,k,rfl,hn⟩
  ·unfold Tm;rw[hw,if_pos rfl,if_pos (Ar ..)];omega
  ·unfold Tm;rw[hw,if_pos rfl,if_neg hk];omega
theorem Af3{n:A1}{F:List Ce}{R:A1→Int}(hn:n.length<256):∀{KK:List A1} {x:N0},KK.Nodup→0≤x.t.rev→Wp (Tm n x.t.rev R KK) x.l→
 Wp (Tm n x.t.rev R []) (Ea n F KK x).l∧(Ea n F KK x).t.rev=x.t.rev∧(Ea n F KK x).t.floor=x.t.floor
 | [],x,_,_,h=>⟨h,rfl,rfl⟩
 |k::KK,x,hd,hr,h=>by
  obtain⟨h1,h2⟩:=Bs.1 hd;obtain⟨t1,t2⟩:=Zi n k (H5 F k) x;have h3:=Vt (c:=H5 F k) hn h1 hr h;have ih:=Af3 (F:=F) (R:=R) hn (KK:=KK) (x:=Dv n k (H5 F k) x) h2 (by omega) (by rw[t1];exact h3)
  rw[t1,t2]at ih;exact ih
theorem Azc{n:A1}{F:List Ce}:∀{KK:List A1} {x:N0},(Ea n F KK x).w=false→Ea n F KK x=x
 | [],x,_=>rfl
 |k::KK,x,h=>by
  have ih:=Azc (n:=n) (F:=F) (KK:=KK) (x:=Dv n k (H5 F k) x) h;change Ea n F KK (Dv n k (H5 F k) x)=x;rw[ih];rcases Pb n k (H5 F k) x with e|⟨v,_,_,h2⟩
  ·exact e
  ·have h3:(Ea n F KK (Dv n k (H5 F k) x)).w=false:=h;rw[ih,h2]at h3;cases h3
theorem Ajx{n:A1}{F:List Ce}(hn:n.length≤1000):∀{KK:List A1} {m m':Nat} {x:N0},U3 m x.l→TBd m' x.t→(∀k∈KK,k.length≤64∧((H5 F k).gone=true∨(H5 F k).val.length≤256))→
 U3 (m+KK.length) (Ea n F KK x).l∧TBd (m'+KK.length) (Ea n F KK x).t
 | [],m,m',x,h1,h2,_=>⟨h1,h2⟩
 |k::KK,m,m',x,h1,h2,h3=>by
  obtain⟨a1,a2⟩:=h3 k (Ar ..);obtain⟨b1,b2,_,_⟩:=Aou (k:=k) (c:=H5 F k) h1 h2 hn a1 a2;obtain⟨c1,c2⟩:=Ajx (F:=F) hn (KK:=KK) b1 b2 fun k hk=>h3 k (Au _ hk)
  rw[Cg,show m+(KK.length+1)=m+1+KK.length by omega,show m'+(KK.length+1)=m'+1+KK.length by omega]
  exact⟨c1,c2⟩
theorem T8:∀{cs F FF:List Ce},L6 cs F=some FF→(F.map Ce.key).Nodup→(∀c∈F,c.ok)→(FF.map Ce.key).Nodup∧(∀c∈FF,c.ok)∧FF.length≤F.length+cs.length
 | [],F,FF,h,h1,h2=>by
   have h:some F=some FF:=h;cases h;exact⟨h1,h2,by simp⟩
 |c::r,F,FF,h,h1,h2=>by
  unfold L6 at h;split at h
  ·rename_i hc;obtain⟨a,b,d⟩:=T8 h (Ab6 h1) fun x hx=>by
    rcases Ah5 hx with h|h
    ·exact h2 x h
    ·subst h;exact hc
   have:=Ah4 F c;exact⟨a,b,by simp only[Cg];omega⟩
  ·cases h
theorem A1m{n:A1}{t:Ef}:∀{sp:List (A1 × Ef)} {i:Nat},sp.findIdx? (fun x=>decide (x.1=n))=some i→∀n',((sp.set i (n,t)).find? fun x=>decide (x.1=n')).map (·.2)=if n'=n then some t else(sp.find? fun x=>decide (x.1=n')).map (·.2)
 | [],i,h,_=>by simp at h
 |x::sp,i,h,n'=>by
  rw[List.findIdx?_cons]at h;by_cases hx:x.1=n
  ·simp only[hx,decide_true,if_true,Af]at h;subst h;rw[F7,F2,F2];by_cases hn:n'=n
   ·subst hn;simp
   ·have h1:¬n=n':=fun e=>hn e.symm
    have h2:¬x.1=n':=by rw[hx];exact h1
    simp[h1,h2,hn]
  ·simp only[hx,decide_false,D0,if_false,Eg]at h;obtain⟨j,hj,rfl⟩:=h;rw[E9,F2,F2];by_cases hn:x.1=n'
   ·have:¬n'=n:=by rw[←hn];exact hx
    simp[hn,this]
   ·simp only[hn,decide_false];exact A1m hj n'
theorem N8{s:A6}{n:A1}{i:Nat}{t:Ef}{l:List C0}(h:s.fi n=some i)(n':A1):(A6.mk (s.sp.set i (n,t)) l).De n'=if n'=n then t else s.De n':=by
 unfold A6.De;have:=A1m (t:=t) h n';simp only at this ⊢;rw[this];split<;>rfl
theorem Aeo{s:A6}{n:A1}{i:Nat}{t:Ef}{l:List C0}(h:s.fi n=some i):(A6.mk (s.sp.set i (n,t)) l).sp.map (·.1)=s.sp.map (·.1):=by
 obtain⟨_,_,h3⟩:=A6.Jt h;dsimp only;rw[Gi];exact List.set_getElem?_self' (by rw[B2,h3];rfl)
theorem Ar6{s:A6}{n:A1}(h:s.fi n=none)(n':A1):({s with sp:=s.sp++[(n,Ny)]}:A6).De n'=s.De n':=by
 unfold A6.De;dsimp only;rw[List.find?_append];cases hf:s.sp.find? fun x=>decide (x.1=n')with
 |some x=>rfl
 |none=>
  simp only[Option.none_or];rw[F2];split<;>simp
structure G6(m:Nat)(s:A6):Prop where
 lb:U3 m s.l
 tb:∀n,TBd m (s.De n)
 rv:∀n,0≤(s.De n).floor∧(s.De n).floor≤(s.De n).rev∧(s.De n).rev≤1099511627776+m
 wi:Wp (fun a=>(s.De (Cz a).1).rev) s.l
 nm:∀x∈s.sp,x.1.length<256
 nd:(s.sp.map (·.1)).Nodup
theorem G6.mono{m m':Nat}{s:A6}(h:G6 m s)(hm:m≤m'):G6 m' s:=
 ⟨h.lb.mono hm,fun n=>(h.tb n).mono hm,fun n=>by have:=h.rv n;omega,h.wi,h.nm,h.nd⟩
theorem Bof:G6 0 ⟨[],[]⟩:=by
 have ht:∀n,(A6.mk [] []).De n=Ny:=fun n=>rfl
 refine⟨⟨Ay _,by intro h hh;cases hh⟩,fun n=>?_,fun n=>?_,⟨List.Pairwise.nil,by intro h hh;cases hh⟩,(by intro h hh;cases hh),Dn⟩
 ·rw[ht];exact⟨by decide,by decide,by decide⟩
 ·rw[ht];decide
theorem G6.name{m:Nat}{s:A6}(h:G6 m s){n:A1}{i:Nat}(hf:s.fi n=some i):n.length<256:=by
 obtain⟨_,_,h3⟩:=A6.Jt hf;exact h.nm _ (Aw h3)
theorem S4{l:List A1}(h:l.Nodup):(Fz l).Nodup:=(Hy ..).nodup_iff.2 h
theorem Aex(l:List A1):(Fz l).length=l.length:=List.length_mergeSort _
theorem Z4{l:List A1}{k:A1}:k∈Fz l↔k∈l:=(Hy ..).mem_iff
def A6.Ja(s:A6)(n:A1)(cs:List Ce):A6 × Int × Int:=match s.fi n with
 |none=>(s,0,16)
 |some i=>match L6 cs []with
  |none=>(s,0,1)
  |some F=>(⟨s.sp.set i (n,(Ea n F (Fz (F.map Ce.key)) ⟨s.De n,s.l,false⟩).fin),(Ea n F (Fz (F.map Ce.key)) ⟨s.De n,s.l,false⟩).l⟩,(Ea n F (Fz (F.map Ce.key)) ⟨s.De n,s.l,false⟩).fin.rev,0)
theorem Av3{FF:List Ce}(h:∀c∈FF,c.ok){k:A1}(hk:k∈Fz (FF.map Ce.key)):k.length≤64∧((H5 FF k).gone=true∨(H5 FF k).val.length≤256):=by
 obtain⟨q,_,h2,h3⟩:=Aq6 (Z4.1 hk);have h4:=h _ (Aw h2);exact⟨by rw[←h3];exact h4.1.2,h4.2⟩
theorem G6.start{m:Nat}{s:A6}(h:G6 m s)(n:A1)(KK:List A1):Wp (Tm n (s.De n).rev (fun n=>(s.De n).rev) KK) s.l:=by
 refine⟨h.wi.1,fun x hx=>⟨(h.wi.2 x hx).1,(h.wi.2 x hx).2.1,fun v hv=>⟨((h.wi.2 x hx).2.2 v hv).1,?_⟩⟩⟩
 have h1:=((h.wi.2 x hx).2.2 v hv).2;dsimp only at h1;unfold Tm;split
 ·rename_i e;rw[e]at h1;split<;>omega
 ·exact h1
theorem G6.write{m:Nat}{s:A6}(h:G6 m s)(n:A1)(cs:List Ce):G6 (m+cs.length+1) (s.Ja n cs).1:=by
 unfold A6.Ja;split
 ·exact h.mono (by omega)
 ·rename_i i hi;split
  ·exact h.mono (by omega)
  ·rename_i F hF;obtain⟨f1,f2,f3⟩:=T8 hF (by simp) (by simp)
   have hn:=h.name hi;have hs:=h.start n (Fz (F.map Ce.key));obtain⟨g1,g2,g3⟩:=Af3 (F:=F) (x:=⟨s.De n,s.l,false⟩) hn (S4 f1) (by have:=h.rv n;dsimp only;omega) hs
   obtain⟨b1,b2⟩:=Ajx (n:=n) (F:=F) (x:=⟨s.De n,s.l,false⟩) (KK:=Fz (F.map Ce.key)) (by omega) h.lb (h.tb n) fun k hk=>Av3 f2 hk
   have hw:=Azc (n:=n) (F:=F) (KK:=Fz (F.map Ce.key)) (x:=⟨s.De n,s.l,false⟩);generalize Ea n F (Fz (F.map Ce.key)) ⟨s.De n,s.l,false⟩=Z at*;dsimp only at g1 g2 g3 b1 b2 hw ⊢;rw[Aex,An]at b1 b2;simp only[Fb,Bm]at f3;have Ti:=h.rv n;have Rv:Z.fin.floor=(s.De n).floor∧Z.fin.rev=(if Z.w=true then(s.De n).rev+1 else(s.De n).rev)∧TBd (m+cs.length+1) Z.fin:=by
    have h5:=b2.mono (show m+F.length≤m+cs.length+1 by omega)
    obtain⟨c1,c2,c3⟩:=h5;unfold N0.fin;split
    ·exact⟨g3,by rw[←g2],⟨c1,c2,c3⟩⟩
    ·exact⟨g3,g2,⟨c1,c2,c3⟩⟩
   refine⟨b1.mono (by omega),fun n'=>?_,fun n'=>?_,?_,?_,?_⟩
   ·rw[N8 hi];split
    ·exact Rv.2.2
    ·exact(h.tb n').mono (by omega)
   ·rw[N8 hi];split
    ·rw[Rv.1,Rv.2.1];split<;>omega
    ·have:=h.rv n';omega
   ·refine⟨g1.1,fun x hx=>⟨(g1.2 x hx).1,(g1.2 x hx).2.1,fun v hv=>⟨((g1.2 x hx).2.2 v hv).1,?_⟩⟩⟩
    dsimp only;rw[N8 hi];have h1:=((g1.2 x hx).2.2 v hv).2;unfold Tm at h1;split
    ·rename_i e;rw[if_pos e,if_neg (by simp)]at h1
     rw[Rv.2.1];cases hZ:Z.w with
     |true=>simp only[if_true];exact h1
     |false=>
      rw[hw hZ]at hx;have h9:=((h.wi.2 x hx).2.2 v hv).2;dsimp only at h9;rw[e]at h9;simpa using h9
    ·rename_i e;rw[if_neg e]at h1;exact h1
   ·intro x hx;rcases E0 hx with hx|rfl
    ·exact h.nm x hx
    ·exact hn
   ·rw[Aeo hi];exact h.nd
theorem G6.open{m:Nat}{s:A6}{nm:Bool}(h:G6 m s)(n:A1)(hn:nm=true→n.length<256):G6 m (s.J4 nm n).1:=by
 unfold A6.J4;split
 ·exact h
 ·rename_i Qe;split
  ·exact h
  ·rename_i hf;split
   ·exact h
   ·have hf:s.fi n=none:=by simpa using hf
    have ht:=Ar6 hf;refine⟨h.lb,fun n'=>by rw[ht];exact h.tb n',fun n'=>by rw[ht];exact h.rv n',⟨h.wi.1,fun x hx=>?_⟩,?_,?_⟩
    ·have h2:=h.wi.2 x hx;refine⟨h2.1,h2.2.1,fun v hv=>⟨(h2.2.2 v hv).1,?_⟩⟩
     have h3:=(h2.2.2 v hv).2;dsimp only at h3 ⊢;rw[ht];exact h3
    ·intro x hx;rcases Aj.1 hx with hx|hx
     ·exact h.nm x hx
     ·simp only[Cx]at hx;subst hx;exact hn (by simpa using Qe)
    ·dsimp only;rw[B5,Cb];refine⟨h.nd,by simp,?_⟩
     intro a ha b hb e;simp only[A0,C5,Cx]at hb;subst hb;subst e;obtain⟨x,hx,e⟩:=Cs.1 ha;unfold A6.fi at hf;rw[List.findIdx?_eq_none_iff]at hf;have:=hf x hx;simp[e]at this
def Kz(n:A1)(rev:Int)(h:C0):Option C0:=if(Cz h.at_).1=n then(if h.vs.length≤Mt rev h.vs then none else some ⟨h.at_,h.vs.drop (Mt rev h.vs)⟩)else some h
theorem Vv{n:A1}{rev:Int}:∀{l:List C0} {x:CSt},(Ls n rev l x).l=x.l++l.filterMap (Kz n rev)∧x.c≤(Ls n rev l x).c∧∀m:Nat,(∀h∈l,h.vs.length≤m)→(Ls n rev l x).c≤x.c+l.length*m
 | [],x=>⟨by simp[Ls],Qr _,fun m _=>by simp[Ls]⟩
 |h::r,x=>by
  obtain⟨i1,i2,i3⟩:=Vv (n:=n) (rev:=rev) (l:=r) (x:=Tn n rev h x);unfold Ls;rw[i1,Cc];have hs:(Tn n rev h x).l=x.l++(Kz n rev h).toList∧x.c≤(Tn n rev h x).c∧(Tn n rev h x).c≤x.c+h.vs.length:=by
   unfold Tn Kz;split
   ·split
    ·exact⟨by simp,Qr _,by omega⟩
    ·exact⟨by simp,by(try dsimp only);omega,by(try dsimp only);omega⟩
   ·exact⟨by simp,Qr _,by dsimp only;omega⟩
  refine⟨?_,by omega,fun m hm=>?_⟩
  ·rw[hs.1,A8];cases Kz n rev h<;>rfl
  ·have h1:=i3 m fun h hh=>hm h (Au _ hh)
   have h2:=hm h (Ar ..);rw[Cg];have h3:((r.length+1:Nat):Int)*(m:Int)=r.length*m+m:=by rw[Int.natCast_add,Int.add_mul];simp
   omega
theorem Si{n:A1}{rev:Int}{h h':C0}(e:Kz n rev h=some h'):h'.at_=h.at_∧∃k,h'.vs=h.vs.drop k∧(h.vs≠[]→h'.vs≠[]):=by
 unfold Kz at e;split at e
 ·split at e
  ·cases e
  ·rename_i hk;cases e;exact⟨rfl,_,rfl,fun _ hn=>by rw[List.drop_eq_nil_iff]at hn;omega⟩
 ·cases e;exact⟨rfl,0,rfl,fun h=>h⟩
theorem Av1{n:A1}{rev:Int}:∀{l:List C0},((l.filterMap (Kz n rev)).map C0.at_).Sublist (l.map C0.at_)
 | []=>by simp
 |h::r=>by
  rw[Cc];cases e:Kz n rev h with
  |none=>exact List.Sublist.cons _ Av1
  |some h'=>
   dsimp only;rw[A0,A0,(Si e).1];exact List.Sublist.cons_cons _ Av1
def A6.J9(s:A6)(n:A1)(rev:Int):A6 × Int:=match s.fi n with
 |none=>(s,16)
 |some i=>if s.Vo n rev=0 then(⟨s.sp.set i (n,{s.De n with floor:=rev,Jk:=(Ls n rev s.l ⟨[],0⟩).c}),(Ls n rev s.l ⟨[],0⟩).l⟩,0)else(s,s.Vo n rev)
theorem Ahy{s:A6}{n:A1}{rev:Int}(h:s.Vo n rev=0):0≤rev∧rev≤(s.De n).rev∧(s.De n).floor≤rev:=by
 unfold A6.Vo at h;split at h
 ·omega
 ·split at h
  ·omega
  ·split at h<;>omega
theorem G6.comp{m:Nat}{s:A6}(h:G6 m s)(hm:m≤80000)(n:A1)(rev:Int):G6 m (s.J9 n rev).1:=by
 unfold A6.J9;split
 ·exact h
 ·rename_i i hi;split
  ·rename_i he;obtain⟨e1,e2,e3⟩:=Ahy he;obtain⟨c1,c2,c3⟩:=Vv (n:=n) (rev:=rev) (l:=s.l) (x:=⟨[],0⟩);have c4:=c3 80000 fun h' hh=>C2 (h.lb.held h' hh).2.2.1 hm
   generalize Ls n rev s.l ⟨[],0⟩=Z at*;dsimp only at c1 c2 c4 ⊢;rw[Cu]at c1;have hlen:=h.lb.len;have hc:Z.c≤10000000000:=by
    have:(s.l.length:Int)*80000≤80000*80000:=by omega
    omega
   obtain⟨t1,t2,t3⟩:=h.tb n;have Ti:=h.rv n;have Vx:∀x∈Z.l,∃y∈s.l,Kz n rev y=some x:=fun x hx=>by
    rw[c1]at hx;obtain⟨y,hy,hyx⟩:=Gp.1 hx;exact⟨y,hy,hyx⟩
   refine⟨⟨?_,fun x hx=>?_⟩,fun n'=>?_,fun n'=>?_,⟨?_,fun x hx=>?_⟩,?_,?_⟩
   ·dsimp only;rw[c1];exact C2 (M1 _ _) hlen
   ·obtain⟨y,hy,e⟩:=Vx x hx;obtain⟨a1,k,a2,a3⟩:=Si e;obtain⟨b1,b2,b3,b4⟩:=h.lb.held y hy;refine⟨by rw[a1];exact b1,a3 b2,by rw[a2,Br];omega,fun v hv=>?_⟩
    rw[a2]at hv;exact b4 v (Er hv)
   ·rw[N8 hi];split
    ·exact⟨t1,t2,⟨by dsimp only;omega,by dsimp only;omega⟩⟩
    ·exact h.tb n'
   ·rw[N8 hi];split
    ·dsimp only;omega
    ·exact h.rv n'
   ·dsimp only;rw[c1];exact List.Pairwise.sublist Av1 h.wi.1
   ·obtain⟨y,hy,e⟩:=Vx x hx;obtain⟨a1,k,a2,a3⟩:=Si e;obtain⟨b1,b2,b3⟩:=h.wi.2 y hy;refine⟨by rw[a1];exact b1,by rw[a2];exact b2.drop k,fun v hv=>?_⟩
    rw[a2]at hv;have h1:=b3 v (Er hv);refine⟨h1.1,?_⟩;dsimp only;rw[N8 hi,a1];split
    ·rename_i e;have h9:=h1.2;dsimp only at h9;rw[e]at h9;exact h9
    ·exact h1.2
   ·intro x hx;rcases E0 hx with hx|rfl
    ·exact h.nm x hx
    ·exact h.name hi
   ·rw[Aeo hi];exact h.nd
  ·exact h
set_option maxRecDepth 100000
set_option maxHeartbeats 4000000

open Go.Proofs
def Fc(s:A1)(k lo hi:Int):Bool:=match s[k.toNat]? with
 |some c=>decide (lo≤(c.toNat:Int)∧(c.toNat:Int)≤hi)
 |none=>false
theorem Aqk(s:A1)(k lo hi:Int)(h0:0≤k):Fn Tryz.prog Adj [.v (.str s),.v (.int .i64 k),.v (.int .u8 lo),.v (.int .u8 hi)] (Is (.v (.bool (Fc s k lo hi))) [.no,.no,.no,.no]):=by
 refine Acy ?_ (by simp)
 by_cases hk:k.toNat<s.length
 ·obtain⟨c,hc⟩:∃c,s[k.toNat]?=some c:=⟨_,Ac hk⟩;have Di:¬decide (k<(s.length:Int))=false:=by simp;omega
  repeat'((conv=>whnf);first|(refine Ai (fun hb=>?_) (fun hb=>?_)<;>first|exact absurd hb (by first|assumption|decide)|(try rw[hb]);try simp only[Am]at hb)|refine Aa ?_ ?_;focus (and_intros<;>first|omega|exact rfl)|intro Av|(try dsimp only);rw[hc])
  all_goals(try(conv=>whnf))
  all_goals(refine Gg.mk ⟨SV.E1 ?_,by kernel_rfl⟩ (by kernel_rfl))
  all_goals(simp only[Fc,hc];simp at*;first|done|omega|grind)
 ·have Di:¬decide (k<(s.length:Int))=true:=by simp;omega
  repeat'((conv=>whnf);first|(refine Ai (fun hb=>?_) (fun hb=>?_)<;>first|exact absurd hb (by first|assumption|decide)|(try rw[hb]);try simp only[Am]at hb)|refine Aa ?_ ?_;focus (and_intros<;>exact rfl)|intro Av)
  all_goals(try(conv=>whnf))
  refine Gg.mk ⟨SV.E1 ?_,by kernel_rfl⟩ (by kernel_rfl)
  simp[Fc,D9 (show s.length≤k.toNat by omega)]
def Q3(s:A1)(k n:Nat):Bool:=(List.range n).all fun i=>Fc s ((k+i:Nat):Int) 128 191
theorem Aoe(s:A1)(k n:Nat)(hk:k≤10)(hn:n≤10):Fn Tryz.prog Af5 [.v (.str s),.v (.int .i64 k),.v (.int .i64 n)] (Is (.v (.bool (Q3 s k n))) [.no,.no,.no]):=by
 refine Afq ?_ (by simp)
 (skip)
 all_goals(try(conv=>whnf))
 refine Ep.by (X:=Nat) (fun x=>[(7,.v (.int .i64 x))]) (fun x=>x≤n∧Q3 s k x=true) (fun x=>n - x) 0 (by kernel_rfl) ⟨A3 _,rfl⟩ ?_
 rintro x ⟨h1,h2⟩;by_cases hx:x<n
 ·have Di:¬decide ((x:Int)<(n:Int))=false:=by simp[hx]
  have hw:IntKind.i64.wrap ((k:Int)+(x:Int))=((k+x:Nat):Int):=by
   rw[show(k:Int)+(x:Int)=((k+x:Nat):Int)by omega];exact Cd (by omega)
  have hs:=Aqk s ((k+x:Nat):Int) 128 191 (by omega)
  repeat'((conv=>whnf);first|(refine Ai (fun hb=>?_) (fun hb=>?_)<;>first|exact absurd hb (by assumption)|(try rw[hb]);try simp only[Am]at hb)|refine Aa ?_ ?_;focus (and_intros<;>first|intro _ hh;cases hh;done|simp;done|decide)|(try dsimp only);rw[hw]|refine A5.mk ⟨_,hs,?_⟩;rintro _ _ ⟨rfl,rfl⟩)
  all_goals(try(conv=>whnf))
  ·rename_i hb;refine Gg.mk ⟨SV.E1 ?_,by kernel_rfl⟩ (by kernel_rfl)
   try simp only[Ds]at hb
   symm;simp only[Q3,List.all_eq_false,Eb];exact⟨x,hx,by rw[hb];decide⟩
  ·rename_i hb;refine Round.by (x+1) ?_ ⟨hx,?_⟩ (by omega)
   ·rw[Mj hx (by simp only[maxLen];omega)]
    show norm _ _=Dy _ _
    kernel_rfl
   ·unfold Q3 at h2 ⊢;rw[List.range_succ,List.all_append,h2];try simp only[Bool.not_eq_false']at hb
    simp only[List.all_cons,List.all_nil,Bool.and_true,Bool.true_and];exact hb
 ·have Di:¬decide ((x:Int)<(n:Int))=true:=by simp;omega
  have:x=n:=by omega
  subst this;repeat'((conv=>whnf);(refine Ai (fun hb=>?_) (fun hb=>?_)<;>first|(exact absurd hb (by assumption))|((try rw[hb]);(try simp only[Am]at hb))))
  all_goals(try(conv=>whnf))
  refine Gg.mk ⟨SV.E1 ?_,by kernel_rfl⟩ (by kernel_rfl)
  exact h2.symm
def Pp(s:A1):Int:=
 if Fc s 0 0 127 then 1
 else if(Fc s 0 194 223&&Q3 s 1 1)then 2
 else if(Q3 s 1 2&&((Fc s 0 224 224&&Fc s 1 160 191)||Fc s 0 225 236||(Fc s 0 237 237&&Fc s 1 128 159)||Fc s 0 238 239))then 3
 else if(Q3 s 1 3&&((Fc s 0 240 240&&Fc s 1 144 191)||Fc s 0 241 243||(Fc s 0 244 244&&Fc s 1 128 143)))then 4
 else 0
theorem Bg2(s:A1):Fn Tryz.prog V4 [.v (.str s)] (Is (.v (.int .i64 (Pp s))) [.no]):=by
 refine Afp ?_ (by simp)
 have t1:=Aoe s 1 1 (by omega) (by omega)
 have t2:=Aoe s 1 2 (by omega) (by omega)
 have t3:=Aoe s 1 3 (by omega) (by omega)
 repeat'((conv=>whnf);first|(refine Ai (fun hb=>?_) (fun hb=>?_)<;>first|exact absurd hb (by decide)|(try rw[hb]);try simp only[Am]at hb)|refine Aa ?_ ?_;focus (and_intros<;>first|intro _ hh;cases hh;done|simp;done|decide)|refine A5.mk ⟨_,Aqk _ _ _ _ (by omega),?_⟩;rintro _ _ ⟨rfl,rfl⟩|refine A5.mk ⟨_,t1,?_⟩;rintro _ _ ⟨rfl,rfl⟩|refine A5.mk ⟨_,t2,?_⟩;rintro _ _ ⟨rfl,rfl⟩|refine A5.mk ⟨_,t3,?_⟩;rintro _ _ ⟨rfl,rfl⟩)
 all_goals(try(conv=>whnf))
 all_goals(refine Gg.mk ⟨congrArg (fun n=>SV.v (.int .i64 n)) ?_,by kernel_rfl⟩ (by kernel_rfl))
 all_goals(unfold Pp;simp at*;grind)

open Go.Proofs
def P2(s:A1):Bool:=match s with
 | []=>false
 | [c]=>decide (32≤(c.toNat:Int))&&decide ((c.toNat:Int)≤126)&& !decide ((c.toNat:Int)=92)
 | [c,d]=>if(c.toNat:Int)=194 then decide (161≤(d.toNat:Int))else true
 |_=>true
theorem A6z(s:A1):Fn Tryz.prog Adi [.v (.str s)] (Is (.v (.bool (P2 s))) [.no]):=by
 refine Acx ?_ (by simp)
 rcases s with _|⟨c,_|⟨d,_|⟨e,r⟩⟩⟩
 ·repeat'((conv=>whnf);first|(refine Ai (fun hb=>?_) (fun hb=>?_)<;>first|exact absurd hb (by decide)|(try rw[hb]);try simp only[Am]at hb)|refine Aa ?_ ?_;focus (and_intros<;>exact rfl)|intro Av)
  all_goals(try(conv=>whnf))
  exact Gg.mk ⟨rfl,by kernel_rfl⟩ (by kernel_rfl)
 ·have h1:¬decide ((([c]:A1).length:Int)=1)=false:=by simp
  repeat'((conv=>whnf);first|(refine Ai (fun hb=>?_) (fun hb=>?_)<;>first|exact absurd hb (by first|assumption|decide)|(try rw[hb]);try simp only[Am]at hb)|refine Aa ?_ ?_;focus (and_intros<;>first|omega|exact rfl)|intro Av)
  all_goals(try(conv=>whnf))
  all_goals(refine Gg.mk ⟨SV.E1 ?_,by kernel_rfl⟩ (by kernel_rfl))
  all_goals(simp[P2]at*;grind)
 ·have h1:¬decide ((([c,d]:A1).length:Int)=1)=true:=by simp
  have h2:¬decide ((([c,d]:A1).length:Int)=2)=false:=by simp
  have h3:¬decide (1<(([c,d]:A1).length:Int))=false:=by simp
  repeat'((conv=>whnf);first|(refine Ai (fun hb=>?_) (fun hb=>?_)<;>first|exact absurd hb (by assumption)|(try rw[hb]);try simp only[Am]at hb)|refine Aa ?_ ?_;focus (and_intros<;>first|omega|exact rfl)|intro Av)
  all_goals(try(conv=>whnf))
  all_goals(refine Gg.mk ⟨SV.E1 ?_,by kernel_rfl⟩ (by kernel_rfl))
  all_goals(simp[P2]at*;grind)
 ·have h1:¬decide (((c::d::e::r:A1).length:Int)=1)=true:=by simp;omega
  have h2:¬decide (((c::d::e::r:A1).length:Int)=2)=true:=by simp;omega
  repeat'((conv=>whnf);first|(refine Ai (fun hb=>?_) (fun hb=>?_)<;>first|exact absurd hb (by assumption)|(try rw[hb]);try simp only[Am]at hb)|refine Aa ?_ ?_;focus (and_intros<;>exact rfl)|intro Av)
  all_goals(try(conv=>whnf))
  all_goals(refine Gg.mk ⟨SV.E1 ?_,by kernel_rfl⟩ (by kernel_rfl))
  all_goals(simp[P2]at*;try grind)

open Go.Proofs
theorem Avo{s:A1}{k:Nat}{lo hi:Int}(h:Fc s k lo hi=true):k<s.length:=by
 unfold Fc at h;split at h
 ·rename_i c hc;have:=(Ak.1 hc).1;simpa using this
 ·cases h
theorem Ar5{s:A1}{k n:Nat}(h:Q3 s k n=true)(hn:0<n):k+n≤s.length:=by
 simp only[Q3,Ew,Eb]at h;have:=Avo (h (n - 1) (by omega))
 omega
theorem Bkb(s:A1):0≤Pp s∧Pp s≤s.length:=by
 unfold Pp;split
 ·rename_i h;have:=Avo (k:=0) h;omega
 split
 ·rename_i h;simp only[Ad]at h;have:=Ar5 h.2 (by omega);omega
 split
 ·rename_i h;simp only[Ad]at h;have:=Ar5 h.1 (by omega);omega
 split
 ·rename_i h;simp only[Ad]at h;have:=Ar5 h.1 (by omega);omega
 omega
def Ab0(k:Nat)(c:Int)(at':Nat)(piece:A1):Bool:=
 (decide (k=1)&& !((decide (97≤c)&&decide (c≤122))||(decide (48≤c)&&decide (c≤57))||decide (c=95)||(decide (c=45)&&decide (0<at'))))
 ||(decide (1<k)&& !P2 piece)
def Pk:Nat→A1→Nat→Nat→Bool
 |0,_,_,_=>false
 |f+1,s,at',n=>match s[at']? with
  |none=>decide (0<n)
  |some c=>
   let k:=(Pp (s.drop at')).toNat
   if k=0 then false
   else if Ab0 k c.toNat at' ((s.drop at').take k)=true then false
   else if 24<n+1 then false
   else Pk f s (at'+k) (n+1)
def Hp(s:A1):Bool:=Pk (s.length+1) s 0 0
theorem Ay3(s:A1):Fn Tryz.prog Ae4 [.v (.str s)] (Is (.v (.bool (Hp s))) [.no]):=by
 refine Adv ?_ (by simp)
 (skip)
 all_goals(try(conv=>whnf))
 refine Ep.by (X:=Nat × Nat × Nat) (fun x=>[(3,.v (.int .i64 x.2.2)),(4,.v (.int .i64 x.2.1))]) (fun x=>Pk x.1 s x.2.1 x.2.2=Hp s∧s.length<x.1+x.2.1∧x.2.1≤s.length∧x.2.2≤24) (fun x=>s.length - x.2.1)
  (s.length+1,0,0) (by kernel_rfl) ⟨rfl,by dsimp only;omega,A3 _,A3 _⟩ ?_
 rintro⟨f,p,n⟩ ⟨h1,h2,h3,h4⟩;dsimp only at h1 h2 h3 h4 ⊢;obtain⟨f,rfl⟩:∃g,f=g+1:=⟨f - 1,by omega⟩
 by_cases hp:p<s.length
 case neg=>
  have Di:¬decide ((p:Int)<(s.length:Int))=true:=by simp;omega
  repeat'((conv=>whnf);first|(refine Ai (fun hb=>?_) (fun hb=>?_)<;>first|exact absurd hb (by assumption)|(try rw[hb]);try simp only[Am]at hb)|refine Aa ?_ ?_;focus (and_intros<;>exact rfl)|intro Av)
  all_goals(try(conv=>whnf))
  refine Gg.mk ⟨SV.E1 ?_,by kernel_rfl⟩ (by kernel_rfl)
  rw[←h1,Pk,D9 (by omega)]
  simp
 obtain⟨c,hc⟩:∃c,s[p]?=some c:=⟨_,Ac hp⟩;have hg:s[Int.toNat (p:Int)]?=some c:=hc;have Di:¬decide ((p:Int)<(s.length:Int))=false:=by simp[hp]
 have Cq:=Bkb (s.drop p);have hs:=Bg2 (s.drop p);rw[Pk,hc]at h1;dsimp only at h1;obtain⟨k,hk⟩:∃k:Nat,Pp (s.drop p)=k:=⟨(Pp (s.drop p)).toNat,by omega⟩
 rw[hk]at hs h1 Cq;have Hf:Fn Tryz.prog V4 [.v (.str ((s.take s.length).drop p))] (Is (.v (.int .i64 k)) [.no]):=by rw[Hb];exact hs
 rw[Br]at Cq;simp only[Hq]at h1;have hw:s.length≤maxLen→IntKind.i64.wrap ((p:Int)+(k:Int))=((p+k:Nat):Int):=fun hm=>by
  rw[show(p:Int)+(k:Int)=((p+k:Nat):Int)by omega];exact Cd (by simp only[maxLen]at hm;omega)
 have Qf:IntKind.i64.wrap ((n:Int)+1)=((n+1:Nat):Int):=Mj (n:=25) (by omega) (by simp only[maxLen];omega)
 have hpc:((s.drop p).take k)=(s.take (p+k)).drop p:=by rw[List.drop_take];congr 1;omega
 have hit:=A6z ((s.take (p+k)).drop p);have hpk:((p+k:Nat):Int)≤(s.length:Int):=by omega
 have hpp:(p:Int)≤((p+k:Nat):Int):=by omega
 rw[hpc]at h1;obtain⟨b,hb0⟩:∃b,P2 ((s.take (p+k)).drop p)=b:=⟨_,rfl⟩;rw[hb0]at hit;unfold Ab0 at h1;rw[hb0]at h1;rcases Nat.lt_or_ge k 1 with Ts|Ts
 ·have n1:¬decide ((k:Int)=0)=false:=by simp;omega
  rw[if_pos (by omega)]at h1
  repeat'((conv=>whnf);first|(refine Ai (fun hb=>?_) (fun hb=>?_)<;>first|exact absurd hb (by assumption)|(try rw[hb]);try simp only[Am]at hb)|refine Aa ?_ ?_;focus (and_intros<;>first|omega|exact rfl|intro _ hh;cases hh;done|simp;done|decide)|intro Av|refine A5.mk ⟨_,Hf,?_⟩;rintro _ _ ⟨rfl,rfl⟩)
  all_goals(try(conv=>whnf))
  exact Gg.mk ⟨SV.E1 h1,by kernel_rfl⟩ (by kernel_rfl)
 rw[if_neg (by omega)]at h1
 have n1:¬decide ((k:Int)=0)=true:=by simp;omega
 rcases Nat.lt_or_ge 1 k with Tt|Tt
 ·have n2:¬decide ((k:Int)=1)=true:=by simp;omega
  have n3:¬decide (1<(k:Int))=false:=by simp;omega
  repeat'((conv=>whnf);first|(refine Ai (fun hb=>?_) (fun hb=>?_)<;>first|exact absurd hb (by first|assumption|decide)|(try rw[hb]);(try simp only[Am]at hb);try subst hb)|refine Aa ?_ ?_;focus (and_intros<;>first|omega|exact rfl|intro _ hh;cases hh;done|simp;done|decide)|intro Av|(try dsimp only);rw[hg]|refine A5.mk ⟨_,Hf,?_⟩;rintro _ _ ⟨rfl,rfl⟩|refine A5.mk ⟨_,hit,?_⟩;rintro _ _ ⟨rfl,rfl⟩|(try dsimp only);rw[hw (by assumption)]|skip;rw[Qf])
  all_goals(try(conv=>whnf))
  all_goals first
   |(refine Gg.mk ⟨SV.E1 ?_,by kernel_rfl⟩ (by kernel_rfl);rw[←h1];simp at*;grind)
   |(refine Round.by (f,p+k,n+1) ?_ ⟨?_,by dsimp only;omega,by dsimp only;omega,?_⟩ (by dsimp only;omega)
     ·dsimp only;show norm _ _=Dy _ _
      kernel_rfl
     ·dsimp only;rw[←h1];simp at*;grind
     ·dsimp only;simp at*;omega)
 ·have n2:¬decide ((k:Int)=1)=false:=by simp;omega
  have n3:¬decide (1<(k:Int))=true:=by simp;omega
  repeat'((conv=>whnf);first|(refine Ai (fun hb=>?_) (fun hb=>?_)<;>first|exact absurd hb (by first|assumption|decide)|exfalso;((simp only[Eu]at hb<;>omega))|(try rw[hb]);try simp only[Am]at hb)|refine Aa ?_ ?_;focus (and_intros<;>first|omega|exact rfl|intro _ hh;cases hh;done|simp;done|decide)|intro Av|(try dsimp only);rw[hg]|refine A5.mk ⟨_,Hf,?_⟩;rintro _ _ ⟨rfl,rfl⟩|skip;rw[hw (by assumption)]|skip;rw[Qf])
  all_goals(try(conv=>whnf))
  all_goals first
   |(refine Gg.mk ⟨SV.E1 ?_,by kernel_rfl⟩ (by kernel_rfl);rw[←h1];simp at*;grind)
   |(refine Round.by (f,p+k,n+1) ?_ ⟨?_,by dsimp only;omega,by dsimp only;omega,?_⟩ (by dsimp only;omega)
     ·dsimp only;show norm _ _=Dy _ _
      kernel_rfl
     ·dsimp only;rw[←h1];simp at*;grind
     ·dsimp only;simp at*;omega)

theorem Bgk(s:A1):(Pp s).toNat≤4:=by
 unfold Pp;repeat' split
 all_goals decide
theorem Aud:∀{f:Nat} {s:A1} {a n:Nat},Pk f s a n=true→s.length≤a+4*(24 - n)
 |0,s,a,n,h=>by simp[Pk]at h
 |f+1,s,a,n,h=>by
  unfold Pk at h;split at h
  ·rename_i hs;have:=List.getElem?_eq_none_iff.1 hs;omega
  ·dsimp only at h;have hk:=Bgk (s.drop a);generalize (Pp (s.drop a)).toNat=k at h hk;split at h
   ·cases h
   ·split at h
    ·cases h
    ·split at h
     ·cases h
     ·have:=Aud h;omega
theorem Zx{s:A1}(h:Hp s=true):s.length<256:=by
 have:=Aud h;omega
structure K6 where
 k:Int
 n:A1
 l:List Ce
 x:Sp
 rev:Int
 most:Int
def K6.Ap(o:K6):I:=.agg [ti o.k,.str o.n,.list (o.l.map Ce.Ap),o.x.Ap,ti o.rev,ti o.most]
def A6.Nk(s:A6)(o:K6):A6:=if o.k=0 then(s.Ja o.n o.l).1 else if o.k=2 then(s.J9 o.n o.rev).1 else if o.k=3 then(s.J4 (Hp o.n) o.n).1 else s
theorem G6.step{m:Nat}{s:A6}(h:G6 m s)(o:K6)(hm:m≤80000):G6 (m+o.l.length+1) (s.Nk o):=by
 unfold A6.Nk;split
 ·exact h.write _ _
 ·split
  ·exact(h.comp hm _ _).mono (by omega)
  ·split
   ·exact(h.open _ Zx).mono (by omega)
   ·exact h.mono (by omega)
theorem Azi{s:A6}{n:A1}:(s.fi n).isSome=true↔n∈s.sp.map (·.1):=by
 unfold A6.fi;rw[List.findIdx?_isSome,List.any_eq_true];constructor
 ·rintro⟨x,hx,e⟩;exact Cs.2 ⟨x,hx,by simpa using e⟩
 ·intro h;obtain⟨x,hx,e⟩:=Cs.1 h;exact⟨x,hx,by simpa using e⟩
theorem Aeq{s:A6}{nm:Bool}{n n':A1}:(s.J4 nm n).1.De n'=s.De n'∧(s.J4 nm n).1.l=s.l:=by
 unfold A6.J4;split
 ·exact⟨rfl,rfl⟩
 ·split
  ·exact⟨rfl,rfl⟩
  ·rename_i hf;split
   ·exact⟨rfl,rfl⟩
   ·exact⟨Ar6 (by simpa using hf) n',rfl⟩
theorem Akr{β:Type}{g:C0→Option β}{n:A1}{F:List Ce}{R:A1→Int}{r:Int}(hn:n.length<256)(hr:0≤r)
 (h0:∀k v,r<v.rev→g ⟨Cp n k,[v]⟩=none) (h1:∀(h:C0) k v,h.at_=Cp n k→U4 (h.vs++[v])→r<v.rev→g ⟨h.at_,h.vs++[v]⟩=g h):
 ∀{KK:List A1} {x:N0},KK.Nodup→x.t.rev=r→Wp (Tm n r R KK) x.l→(Ea n F KK x).l.filterMap g=x.l.filterMap g
 | [],x,_,_,_=>rfl
 |k::KK,x,hd,hx,h=>by
  obtain⟨d1,d2⟩:=Bs.1 hd;have h3:=Vt (x:=x) (R:=R) (c:=H5 F k) hn d1 (by omega) (by rw[hx];exact h)
  rw[hx]at h3;have ih:=Akr (F:=F) (g:=g) hn hr h0 h1 (KK:=KK) (x:=Dv n k (H5 F k) x) d2 ((Zi _ _ _ _).1.trans hx) h3;change (Ea n F KK (Dv n k (H5 F k) x)).l.filterMap g=_;rw[ih];rcases Pb n k (H5 F k) x with e|⟨v,e1,e2,_⟩
  ·rw[e]
  ·rw[e2];refine Azj (h0 k v (by omega)) fun y hy e=>?_
   refine h1 y k v e ?_ (by omega)
   obtain⟨_,b2,b3⟩:=h.2 y hy;refine b2.snoc (u:=r) (fun w hw=>?_) (by omega)
   have h4:=(b3 w hw).2;rw[e]at h4;unfold Tm at h4;rw[D3 hn,if_pos rfl,if_pos (Ar ..)]at h4;exact h4
theorem Aqu{β:Type}{g:C0→Option β}{m:Nat}{s:A6}(h:G6 m s)(n:A1)(cs:List Ce) 
 (h0:∀k v,n.length<256→(s.De n).rev<v.rev→g ⟨Cp n k,[v]⟩=none) (h1:∀(h:C0) k v,n.length<256→h.at_=Cp n k→U4 (h.vs++[v])→(s.De n).rev<v.rev→g ⟨h.at_,h.vs++[v]⟩=g h):
 (s.Ja n cs).1.l.filterMap g=s.l.filterMap g:=by
 unfold A6.Ja;split
 ·rfl
 ·rename_i i hi;split
  ·rfl
  ·rename_i F hF;obtain⟨f1,_,_⟩:=T8 hF (by simp) (by simp)
   have hn:=h.name hi;exact Akr (x:=⟨s.De n,s.l,false⟩) hn (by have:=h.rv n;omega) (fun k v hv=>h0 k v hn hv) (fun y k v a b c=>h1 y k v hn a b c) (S4 f1) rfl (h.start n _)
theorem Agb{α β:Type}{f g:α→Option β}:∀{l:List α},(∀x∈l,f x=g x)→l.filterMap f=l.filterMap g
 | [],_=>rfl
 |x::r,h=>by
  rw[Cc,Cc,h x (Ar ..),Agb fun y hy=>h y (Au _ hy)]
theorem A9n{β:Type}{g:C0→Option β}{s:A6}(n:A1)(rev:Int)(hg:s.Vo n rev=0→(s.fi n).isSome=true→∀h∈s.l,(Kz n rev h).bind g=g h):
 (s.J9 n rev).1.l.filterMap g=s.l.filterMap g:=by
 unfold A6.J9;split
 ·rfl
 ·rename_i i hi;split
  ·rename_i he;have hg:=hg he (by rw[hi];rfl)
   obtain⟨c1,_⟩:=Vv (n:=n) (rev:=rev) (l:=s.l) (x:=⟨[],0⟩);dsimp only;rw[c1,Cu,List.filterMap_filterMap];exact Agb hg
  ·rfl
theorem Bk6{n:A1}{rev:Int}{h:C0}(e:(Cz h.at_).1≠n):gV n rev h=none:=by unfold gV;rw[if_neg (fun c=>e c.1)]
theorem G6.bd{m:Nat}{s:A6}(h:G6 m s)(hm:m≤80000):s.Bd:=⟨by have:=h.lb.len;omega,fun x hx=>by obtain⟨a,b,c,_⟩:=h.lb.held x hx;exact⟨a,b,by omega⟩⟩
end Go.Ab
set_option maxHeartbeats 40000000

