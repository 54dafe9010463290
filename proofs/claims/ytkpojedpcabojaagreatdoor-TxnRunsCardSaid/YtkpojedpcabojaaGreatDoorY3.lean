/- Lemmas -/
import Derived.Test.YtkpojedpcabojaaGreatDoorW6
set_option linter.unusedVariables false
set_option linter.unusedSimpArgs false
namespace Go.Ab
theorem Ajm{l:List Zk}{a:Az}{v:Fk}{h:Zk}(hh:h∈Ath l a v):h∈l∨h=⟨a,[v]⟩∨∃e∈l,e.at_=a∧h=⟨a,e.vs++[v]⟩:=by
 unfold Ath A1y at hh;split at hh
 ·rename_i hf;obtain⟨e,h2,h3⟩:=Afp hf;rw[Zv h2]at hh;have h4:e.at_=a:=by simpa[eqH]using h3
  rcases Ain hh with h|rfl
  ·exact .inl h
  ·exact .inr (.inr ⟨e,Cb h2,h4,by rw[h4]⟩)
 ·rcases Bv.1 hh with h|h
  ·exact .inl (P2 h)
  ·rcases Bg.1 h with rfl|h
   ·exact .inr (.inl rfl)
   ·exact .inl (Agw h)
theorem Ajt{l:List Zk}{a:Az}{v:Fk}(hl:LSo l):LSo (Ath l a v):=by
 unfold Ath A1y;split
 ·rename_i hf;obtain⟨e,h2,h3⟩:=Afp hf;rw[Zv h2,LSo,Amd];rw[List.set_getElem?_self' (l:=l.map Zk.at_) (by rw[Ev,h2];rfl)]
  exact hl
 ·rename_i hf;have hl':=hl;rw[LSo,List.pairwise_map]at hl';obtain⟨h1,h2⟩:=Aho (lt:=Kh a) (l:=l) (hl'.imp fun {x y} hab hb=>by simp only[Kh,decide_eq_true_eq]at*;exact Amg hab hb)
  have hgt:∀x∈l.drop (Km (Kh a) l),a<x.at_:=by
   intro x hx;have h3:=h2 x hx;simp only[Kh,decide_eq_false_iff_not]at h3;obtain⟨j,hj,rfl⟩:=Akp.1 hx;rw[Ei]at hj;rw[List.getElem_drop]at h3 ⊢;have Cf:l[Km (Kh a) l+j].at_≠a:=by
    intro e;cases j with
    |zero=>
     apply hf;unfold bsF;rw[Ae (show Km (Kh a) l<l.length by omega)]
     simp only[Option.any_some,eqH,decide_eq_true_eq];exact e
    |succ j=>
     have h4:=Ak2.1 hl' (Km (Kh a) l) (Km (Kh a) l+(j+1)) (by omega) (by omega) (by omega)
     rw[e]at h4;have h5:=h2 (l[Km (Kh a) l]'(by omega)) (by rw[Cc (by omega)];exact B2 ..)
     simp only[Kh,decide_eq_false_iff_not]at h5;exact h5 h4
   exact Std.lt_of_le_of_ne (List.not_lt.1 h3) (Ne.symm Cf)
  rw[LSo,F5,Cy,Arz,Gr];rw[LSo]at hl;refine⟨?_,⟨?_,?_⟩,?_⟩
  ·rw[List.map_take];exact List.Pairwise.sublist (List.take_sublist _ _) hl
  ·intro y hy;obtain⟨x,hx,rfl⟩:=X4.1 hy;exact hgt x hx
  ·rw[List.map_drop];exact List.Pairwise.sublist (List.drop_sublist _ _) hl
  ·intro y hy z hz;obtain⟨x,hx,rfl⟩:=X4.1 hy;have h3:=h1 x hx;simp only[Kh,decide_eq_true_eq]at h3;rcases Bg.1 hz with rfl|hz
   ·exact h3
   ·obtain⟨w,hw,rfl⟩:=X4.1 hz;exact Amg h3 (hgt w hw)
def Ayn(U:Az→Int)(l:List Zk):Prop:=LSo l∧∀h∈l,Avh h.at_∧VSo h.vs∧∀v∈h.vs,1≤v.rev∧v.rev≤U h.at_
theorem VSo.snoc{vs:List Fk}{v:Fk}{u:Int}(h:VSo vs)(hu:∀x∈vs,x.rev≤u)(hv:u<v.rev):VSo (vs++[v]):=by
 rw[VSo,Arz];refine⟨h,by simp,fun x hx y hy=>?_⟩
 simp only[Jd]at hy;subst hy;have:=hu x hx;omega
theorem Ayn.put{U U':Az→Int}{l:List Zk}{a:Az}{v:Fk}(h:Ayn U l)(hU:∀x,U x≤U' x)(h1:1≤v.rev)(h2:U a<v.rev)(h3:v.rev≤U' a)(ha:Avh a):Ayn U' (Ath l a v):=by
 refine⟨Ajt h.1,fun x hx=>?_⟩
 rcases Ajm hx with hx|rfl|⟨e,he,hea,rfl⟩
 ·obtain⟨a1,a2,a3⟩:=h.2 x hx;exact⟨a1,a2,fun v hv=>⟨(a3 v hv).1,Int.le_trans (a3 v hv).2 (hU _)⟩⟩
 ·exact⟨ha,by simp[VSo],fun w hw=>by simp only[Jd]at hw;subst hw;exact⟨h1,h3⟩⟩
 ·obtain⟨a1,a2,a3⟩:=h.2 e he;rw[hea]at a3;refine⟨ha,a2.snoc (fun x hx=>(a3 x hx).2) h2,fun w hw=>?_⟩
  rcases Bv.1 hw with hw|hw
  ·exact⟨(a3 w hw).1,Int.le_trans (a3 w hw).2 (hU _)⟩
  ·simp only[Jd]at hw;subst hw;exact⟨h1,h3⟩
def Avw(n:Az)(r:Int)(R:Az→Int)(KK:List Az)(a:Az):Int:=if(C1 a).1=n then(if(C1 a).2.1∈KK then r else r+1)else R (C1 a).1
theorem Q7(n k:Az)(c:Ef)(x:WSt):Dw n k c x=x∨∃v,v.rev=x.t.rev+1∧(Dw n k c x).l=Ath x.l (B7 n k) v∧(Dw n k c x).w=true:=by
 unfold Dw;dsimp only;split
 ·exact .inl rfl
 ·right;split
  ·exact⟨_,rfl,rfl,rfl⟩
  ·split
   ·exact⟨_,rfl,rfl,rfl⟩
   ·exact⟨_,rfl,rfl,rfl⟩
theorem Agt(n k:Az)(c:Ef)(x:WSt):(Dw n k c x).t.rev=x.t.rev∧(Dw n k c x).t.floor=x.t.floor:=by
 unfold Dw;dsimp only;split
 ·exact⟨rfl,rfl⟩
 ·split
  ·exact⟨rfl,rfl⟩
  ·split<;>exact⟨rfl,rfl⟩
theorem Ah2{n:Az}{r:Int}{R:Az→Int}{k:Az}{KK:List Az}(a:Az):Avw n r R (k::KK) a≤Avw n r R KK a:=by
 unfold Avw;split
 ·split<;>split
  ·omega
  ·omega
  ·rename_i h1 h2;exact absurd (B4 _ h2) h1
  ·omega
 ·omega
theorem Ag6{n k:Az}{c:Ef}{x:WSt}{R:Az→Int}{KK:List Az}(hn:n.length<256)(hk:k ∉ KK)(hr:0≤x.t.rev)(h:Ayn (Avw n x.t.rev R (k::KK)) x.l):
 Ayn (Avw n x.t.rev R KK) (Dw n k c x).l:=by
 rcases Q7 n k c x with e|⟨v,h1,h2,_⟩
 ·rw[e];exact⟨h.1,fun y hy=>⟨(h.2 y hy).1,(h.2 y hy).2.1,fun v hv=>⟨((h.2 y hy).2.2 v hv).1,Int.le_trans ((h.2 y hy).2.2 v hv).2 (Ah2 _)⟩⟩⟩
 ·rw[h2];have hw:C1 (B7 n k)=(n,k,true):=Mt hn;refine h.put Ah2 (by omega) ?_ ?_ ⟨n,k,rfl,hn⟩
  ·unfold Avw;rw[hw,if_pos rfl,if_pos (B2 ..)];omega
  ·unfold Avw;rw[hw,if_pos rfl,if_neg hk];omega
theorem Ahn{n:Az}{F:List Ef}{R:Az→Int}(hn:n.length<256):∀{KK:List Az} {x:WSt},KK.Nodup→0≤x.t.rev→Ayn (Avw n x.t.rev R KK) x.l→
 Ayn (Avw n x.t.rev R []) (Ge n F KK x).l∧(Ge n F KK x).t.rev=x.t.rev∧(Ge n F KK x).t.floor=x.t.floor
 | [],x,_,_,h=>⟨h,rfl,rfl⟩
 |k::KK,x,hd,hr,h=>by
  obtain⟨h1,h2⟩:=Hw.1 hd;obtain⟨t1,t2⟩:=Agt n k (Anv F k) x;have h3:=Ag6 (c:=Anv F k) hn h1 hr h;have ih:=Ahn (F:=F) (R:=R) hn (KK:=KK) (x:=Dw n k (Anv F k) x) h2 (by omega) (by rw[t1];exact h3)
  rw[t1,t2]at ih;exact ih
theorem Ah5{n:Az}{F:List Ef}:∀{KK:List Az} {x:WSt},(Ge n F KK x).w=false→Ge n F KK x=x
 | [],x,_=>rfl
 |k::KK,x,h=>by
  have ih:=Ah5 (n:=n) (F:=F) (KK:=KK) (x:=Dw n k (Anv F k) x) h;change Ge n F KK (Dw n k (Anv F k) x)=x;rw[ih];rcases Q7 n k (Anv F k) x with e|⟨v,_,_,h2⟩
  ·exact e
  ·have h3:(Ge n F KK (Dw n k (Anv F k) x)).w=false:=h;rw[ih,h2]at h3;cases h3
theorem Ah0{n:Az}{F:List Ef}(hn:n.length≤1000):∀{KK:List Az} {m m':Nat} {x:WSt},LBd m x.l→TBd m' x.t→(∀k∈KK,k.length≤64∧((Anv F k).gone=true∨(Anv F k).val.length≤256))→
 LBd (m+KK.length) (Ge n F KK x).l∧TBd (m'+KK.length) (Ge n F KK x).t
 | [],m,m',x,h1,h2,_=>⟨h1,h2⟩
 |k::KK,m,m',x,h1,h2,h3=>by
  obtain⟨a1,a2⟩:=h3 k (B2 ..);obtain⟨b1,b2,_,_⟩:=W4 (k:=k) (c:=Anv F k) h1 h2 hn a1 a2;obtain⟨c1,c2⟩:=Ah0 (F:=F) hn (KK:=KK) b1 b2 fun k hk=>h3 k (B4 _ hk)
  rw[Ho,show m+(KK.length+1)=m+1+KK.length by omega,show m'+(KK.length+1)=m'+1+KK.length by omega]
  exact⟨c1,c2⟩
theorem Agz:∀{cs F FF:List Ef},K6 cs F=some FF→(F.map Ef.key).Nodup→(∀c∈F,c.ok)→(FF.map Ef.key).Nodup∧(∀c∈FF,c.ok)∧FF.length≤F.length+cs.length
 | [],F,FF,h,h1,h2=>by
   have h:some F=some FF:=h;cases h;exact⟨h1,h2,by simp⟩
 |c::r,F,FF,h,h1,h2=>by
  unfold K6 at h;split at h
  ·rename_i hc;obtain⟨a,b,d⟩:=Agz h (U5 h1) fun x hx=>by
    rcases Zn hx with h|h
    ·exact h2 x h
    ·subst h;exact hc
   have:=Zm F c;exact⟨a,b,by simp only[Ho];omega⟩
  ·cases h
theorem Aid{n:Az}{t:Tal}:∀{sp:List (Az × Tal)} {i:Nat},sp.findIdx? (fun x=>decide (x.1=n))=some i→∀n',((sp.set i (n,t)).find? fun x=>decide (x.1=n')).map (·.2)=if n'=n then some t else(sp.find? fun x=>decide (x.1=n')).map (·.2)
 | [],i,h,_=>by simp at h
 |x::sp,i,h,n'=>by
  rw[List.findIdx?_cons]at h;by_cases hx:x.1=n
  ·simp only[hx,decide_true,if_true,A0]at h;subst h;rw[Akm,Amy,Amy];by_cases hn:n'=n
   ·subst hn;simp
   ·have h1:¬n=n':=fun e=>hn e.symm
    have h2:¬x.1=n':=by rw[hx];exact h1
    simp[h1,h2,hn]
  ·simp only[hx,decide_false,Ado,if_false,Ad7]at h;obtain⟨j,hj,rfl⟩:=h;rw[Ais,Amy,Amy];by_cases hn:x.1=n'
   ·have:¬n'=n:=by rw[←hn];exact hx
    simp[hn,this]
   ·simp only[hn,decide_false];exact Aid hj n'
theorem Mi{s:Cn}{n:Az}{i:Nat}{t:Tal}{l:List Zk}(h:s.fi n=some i)(n':Az):(Cn.mk (s.sp.set i (n,t)) l).Zp n'=if n'=n then t else s.Zp n':=by
 unfold Cn.Zp;have:=Aid (t:=t) h n';simp only at this ⊢;rw[this];split<;>rfl
theorem Ajf{s s':Cn}(h:s'.sp.map (·.1)=s.sp.map (·.1))(n:Az):s'.fi n=s.fi n:=by
 have h1:∀s:Cn,s.fi n=(s.sp.map (·.1)).findIdx? (fun x=>decide (x=n)):=fun s=>by unfold Cn.fi;rw[List.findIdx?_map];rfl
 rw[h1,h1,h]
theorem Agj{s:Cn}{n:Az}{i:Nat}{t:Tal}{l:List Zk}(h:s.fi n=some i):(Cn.mk (s.sp.set i (n,t)) l).sp.map (·.1)=s.sp.map (·.1):=by
 obtain⟨_,_,h3⟩:=Cn.Ari h;dsimp only;rw[Amd];exact List.set_getElem?_self' (by rw[Ev,h3];rfl)
theorem Aij{s:Cn}{n:Az}(h:s.fi n=none)(n':Az):({s with sp:=s.sp++[(n,Ax5)]}:Cn).Zp n'=s.Zp n':=by
 unfold Cn.Zp;dsimp only;rw[List.find?_append];cases hf:s.sp.find? fun x=>decide (x.1=n')with
 |some x=>rfl
 |none=>
  simp only[Option.none_or];rw[Amy];split<;>simp
structure Akb(m:Nat)(s:Cn):Prop where
 lb:LBd m s.l
 tb:∀n,TBd m (s.Zp n)
 rv:∀n,0≤(s.Zp n).floor∧(s.Zp n).floor≤(s.Zp n).rev∧(s.Zp n).rev≤m
 wi:Ayn (fun a=>(s.Zp (C1 a).1).rev) s.l
 nm:∀x∈s.sp,x.1.length<256
 nd:(s.sp.map (·.1)).Nodup
theorem Akb.mono{m m':Nat}{s:Cn}(h:Akb m s)(hm:m≤m'):Akb m' s:=
 ⟨h.lb.mono hm,fun n=>(h.tb n).mono hm,fun n=>by have:=h.rv n;omega,h.wi,h.nm,h.nd⟩
theorem Ajr:Akb 0 ⟨[],[]⟩:=by
 have ht:∀n,(Cn.mk [] []).Zp n=Ax5:=fun n=>rfl
 refine⟨⟨Bz _,by intro h hh;cases hh⟩,fun n=>?_,fun n=>?_,⟨List.Pairwise.nil,by intro h hh;cases hh⟩,(by intro h hh;cases hh),Ach⟩
 ·rw[ht];exact⟨by decide,by decide,by decide⟩
 ·rw[ht];decide
theorem Akb.name{m:Nat}{s:Cn}(h:Akb m s){n:Az}{i:Nat}(hf:s.fi n=some i):n.length<256:=by
 obtain⟨_,_,h3⟩:=Cn.Ari hf;exact h.nm _ (Cb h3)
theorem Ahj{l:List Az}(h:l.Nodup):(Dc l).Nodup:=(Aor ..).nodup_iff.2 h
theorem Ajd(l:List Az):(Dc l).length=l.length:=List.length_mergeSort _
theorem Aje{l:List Az}{k:Az}:k∈Dc l↔k∈l:=(Aor ..).mem_iff
def Cn.Acg(s:Cn)(n:Az)(cs:List Ef):Cn × Int × Int:=match s.fi n with
 |none=>(s,0,16)
 |some i=>match K6 cs []with
  |none=>(s,0,1)
  |some F=>(⟨s.sp.set i (n,(Ge n F (Dc (F.map Ef.key)) ⟨s.Zp n,s.l,false⟩).fin),(Ge n F (Dc (F.map Ef.key)) ⟨s.Zp n,s.l,false⟩).l⟩,(Ge n F (Dc (F.map Ef.key)) ⟨s.Zp n,s.l,false⟩).fin.rev,0)
theorem Ajq{FF:List Ef}(h:∀c∈FF,c.ok){k:Az}(hk:k∈Dc (FF.map Ef.key)):k.length≤64∧((Anv FF k).gone=true∨(Anv FF k).val.length≤256):=by
 obtain⟨q,_,h2,h3⟩:=Adz (Aje.1 hk);have h4:=h _ (Cb h2);exact⟨by rw[←h3];exact h4.1.2,h4.2⟩
theorem Akb.start{m:Nat}{s:Cn}(h:Akb m s)(n:Az)(KK:List Az):Ayn (Avw n (s.Zp n).rev (fun n=>(s.Zp n).rev) KK) s.l:=by
 refine⟨h.wi.1,fun x hx=>⟨(h.wi.2 x hx).1,(h.wi.2 x hx).2.1,fun v hv=>⟨((h.wi.2 x hx).2.2 v hv).1,?_⟩⟩⟩
 have h1:=((h.wi.2 x hx).2.2 v hv).2;dsimp only at h1;unfold Avw;split
 ·rename_i e;rw[e]at h1;split<;>omega
 ·exact h1
theorem Akb.write{m:Nat}{s:Cn}(h:Akb m s)(n:Az)(cs:List Ef):Akb (m+cs.length+1) (s.Acg n cs).1:=by
 unfold Cn.Acg;split
 ·exact h.mono (by omega)
 ·rename_i i hi;split
  ·exact h.mono (by omega)
  ·rename_i F hF;obtain⟨f1,f2,f3⟩:=Agz hF (by simp) (by simp)
   have hn:=h.name hi;have hs:=h.start n (Dc (F.map Ef.key));obtain⟨g1,g2,g3⟩:=Ahn (F:=F) (x:=⟨s.Zp n,s.l,false⟩) hn (Ahj f1) (by have:=h.rv n;dsimp only;omega) hs
   obtain⟨b1,b2⟩:=Ah0 (n:=n) (F:=F) (x:=⟨s.Zp n,s.l,false⟩) (KK:=Dc (F.map Ef.key)) (by omega) h.lb (h.tb n) fun k hk=>Ajq f2 hk
   have hw:=Ah5 (n:=n) (F:=F) (KK:=Dc (F.map Ef.key)) (x:=⟨s.Zp n,s.l,false⟩);generalize Ge n F (Dc (F.map Ef.key)) ⟨s.Zp n,s.l,false⟩=Z at*;dsimp only at g1 g2 g3 b1 b2 hw ⊢;rw[Ajd,Bh]at b1 b2;simp only[Ak7,E3]at f3;have hrv:=h.rv n;have Au1:Z.fin.floor=(s.Zp n).floor∧Z.fin.rev=(if Z.w=true then(s.Zp n).rev+1 else(s.Zp n).rev)∧TBd (m+cs.length+1) Z.fin:=by
    have h5:=b2.mono (show m+F.length≤m+cs.length+1 by omega)
    obtain⟨c1,c2,c3⟩:=h5;unfold WSt.fin;split
    ·exact⟨g3,by rw[←g2],⟨c1,c2,c3⟩⟩
    ·exact⟨g3,g2,⟨c1,c2,c3⟩⟩
   refine⟨b1.mono (by omega),fun n'=>?_,fun n'=>?_,?_,?_,?_⟩
   ·rw[Mi hi];split
    ·exact Au1.2.2
    ·exact(h.tb n').mono (by omega)
   ·rw[Mi hi];split
    ·rw[Au1.1,Au1.2.1];split<;>omega
    ·have:=h.rv n';omega
   ·refine⟨g1.1,fun x hx=>⟨(g1.2 x hx).1,(g1.2 x hx).2.1,fun v hv=>⟨((g1.2 x hx).2.2 v hv).1,?_⟩⟩⟩
    dsimp only;rw[Mi hi];have h1:=((g1.2 x hx).2.2 v hv).2;unfold Avw at h1;split
    ·rename_i e;rw[if_pos e,if_neg (by simp)]at h1
     rw[Au1.2.1];cases hZ:Z.w with
     |true=>simp only[if_true];exact h1
     |false=>
      rw[hw hZ]at hx;have h9:=((h.wi.2 x hx).2.2 v hv).2;dsimp only at h9;rw[e]at h9;simpa using h9
    ·rename_i e;rw[if_neg e]at h1;exact h1
   ·intro x hx;rcases Ain hx with hx|rfl
    ·exact h.nm x hx
    ·exact hn
   ·rw[Agj hi];exact h.nd
theorem Akb.open{m:Nat}{s:Cn}{nm:Bool}(h:Akb m s)(n:Az)(hn:nm=true→n.length<256):Akb m (s.Aqk nm n).1:=by
 unfold Cn.Aqk;split
 ·exact h
 ·rename_i hnm;split
  ·exact h
  ·rename_i hf;split
   ·exact h
   ·have hf:s.fi n=none:=by simpa using hf
    have ht:=Aij hf;refine⟨h.lb,fun n'=>by rw[ht];exact h.tb n',fun n'=>by rw[ht];exact h.rv n',⟨h.wi.1,fun x hx=>?_⟩,?_,?_⟩
    ·have h2:=h.wi.2 x hx;refine⟨h2.1,h2.2.1,fun v hv=>⟨(h2.2.2 v hv).1,?_⟩⟩
     have h3:=(h2.2.2 v hv).2;dsimp only at h3 ⊢;rw[ht];exact h3
    ·intro x hx;rcases Bv.1 hx with hx|hx
     ·exact h.nm x hx
     ·simp only[Jd]at hx;subst hx;exact hn (by simpa using hnm)
    ·dsimp only;rw[F5,Hb];refine⟨h.nd,by simp,?_⟩
     intro a ha b hb e;simp only[Cy,Kc,Jd]at hb;subst hb;subst e;obtain⟨x,hx,e⟩:=X4.1 ha;unfold Cn.fi at hf;rw[List.findIdx?_eq_none_iff]at hf;have:=hf x hx;simp[e]at this
def Pf(n:Az)(rev:Int)(h:Zk):Option Zk:=if(C1 h.at_).1=n then(if h.vs.length≤Lm rev h.vs then none else some ⟨h.at_,h.vs.drop (Lm rev h.vs)⟩)else some h
theorem Ahp{n:Az}{rev:Int}:∀{l:List Zk} {x:CSt},(Mz n rev l x).l=x.l++l.filterMap (Pf n rev)∧x.c≤(Mz n rev l x).c∧∀m:Nat,(∀h∈l,h.vs.length≤m)→(Mz n rev l x).c≤x.c+l.length*m
 | [],x=>⟨by simp[Mz],Ata _,fun m _=>by simp[Mz]⟩
 |h::r,x=>by
  obtain⟨i1,i2,i3⟩:=Ahp (n:=n) (rev:=rev) (l:=r) (x:=Uy n rev h x);unfold Mz;rw[i1,Fp];have hs:(Uy n rev h x).l=x.l++(Pf n rev h).toList∧x.c≤(Uy n rev h x).c∧(Uy n rev h x).c≤x.c+h.vs.length:=by
   unfold Uy Pf;split
   ·split
    ·exact⟨by simp,Ata _,by omega⟩
    ·exact⟨by simp,by(try dsimp only);omega,by(try dsimp only);omega⟩
   ·exact⟨by simp,Ata _,by dsimp only;omega⟩
  refine⟨?_,by omega,fun m hm=>?_⟩
  ·rw[hs.1,Df];cases Pf n rev h<;>rfl
  ·have h1:=i3 m fun h hh=>hm h (B4 _ hh)
   have h2:=hm h (B2 ..);rw[Ho];have h3:((r.length+1:Nat):Int)*(m:Int)=r.length*m+m:=by rw[Int.natCast_add,Int.add_mul];simp
   omega
theorem Agy{n:Az}{rev:Int}{h h':Zk}(e:Pf n rev h=some h'):h'.at_=h.at_∧∃k,h'.vs=h.vs.drop k∧(h.vs≠[]→h'.vs≠[]):=by
 unfold Pf at e;split at e
 ·split at e
  ·cases e
  ·rename_i hk;cases e;exact⟨rfl,_,rfl,fun _ hn=>by rw[List.drop_eq_nil_iff]at hn;omega⟩
 ·cases e;exact⟨rfl,0,rfl,fun h=>h⟩
theorem Ah1{n:Az}{rev:Int}:∀{l:List Zk},((l.filterMap (Pf n rev)).map Zk.at_).Sublist (l.map Zk.at_)
 | []=>by simp
 |h::r=>by
  rw[Fp];cases e:Pf n rev h with
  |none=>exact List.Sublist.cons _ Ah1
  |some h'=>
   dsimp only;rw[Cy,Cy,(Agy e).1];exact List.Sublist.cons_cons _ Ah1
def Cn.Anu(s:Cn)(n:Az)(rev:Int):Cn × Int:=match s.fi n with
 |none=>(s,16)
 |some i=>if s.Aw1 n rev=0 then(⟨s.sp.set i (n,{s.Zp n with floor:=rev,Aq7:=(Mz n rev s.l ⟨[],0⟩).c}),(Mz n rev s.l ⟨[],0⟩).l⟩,0)else(s,s.Aw1 n rev)
theorem Aht{s:Cn}{n:Az}{rev:Int}(h:s.Aw1 n rev=0):0≤rev∧rev≤(s.Zp n).rev∧(s.Zp n).floor≤rev:=by
 unfold Cn.Aw1 at h;split at h
 ·omega
 ·split at h
  ·omega
  ·split at h<;>omega
theorem Akb.comp{m:Nat}{s:Cn}(h:Akb m s)(hm:m≤80000)(n:Az)(rev:Int):Akb m (s.Anu n rev).1:=by
 unfold Cn.Anu;split
 ·exact h
 ·rename_i i hi;split
  ·rename_i he;obtain⟨e1,e2,e3⟩:=Aht he;obtain⟨c1,c2,c3⟩:=Ahp (n:=n) (rev:=rev) (l:=s.l) (x:=⟨[],0⟩);have c4:=c3 80000 fun h' hh=>Kq (h.lb.held h' hh).2.2.1 hm
   generalize Mz n rev s.l ⟨[],0⟩=Z at*;dsimp only at c1 c2 c4 ⊢;rw[H4]at c1;have hlen:=h.lb.len;have hc:Z.c≤10000000000:=by
    have:(s.l.length:Int)*80000≤80000*80000:=by omega
    omega
   obtain⟨t1,t2,t3⟩:=h.tb n;have hrv:=h.rv n;have Aw4:∀x∈Z.l,∃y∈s.l,Pf n rev y=some x:=fun x hx=>by
    rw[c1]at hx;obtain⟨y,hy,hyx⟩:=Ajj.1 hx;exact⟨y,hy,hyx⟩
   refine⟨⟨?_,fun x hx=>?_⟩,fun n'=>?_,fun n'=>?_,⟨?_,fun x hx=>?_⟩,?_,?_⟩
   ·dsimp only;rw[c1];exact Kq (Anb _ _) hlen
   ·obtain⟨y,hy,e⟩:=Aw4 x hx;obtain⟨a1,k,a2,a3⟩:=Agy e;obtain⟨b1,b2,b3,b4⟩:=h.lb.held y hy;refine⟨by rw[a1];exact b1,a3 b2,by rw[a2,Ei];omega,fun v hv=>?_⟩
    rw[a2]at hv;exact b4 v (Agw hv)
   ·rw[Mi hi];split
    ·exact⟨t1,t2,⟨by dsimp only;omega,by dsimp only;omega⟩⟩
    ·exact h.tb n'
   ·rw[Mi hi];split
    ·dsimp only;omega
    ·exact h.rv n'
   ·dsimp only;rw[c1];exact List.Pairwise.sublist Ah1 h.wi.1
   ·obtain⟨y,hy,e⟩:=Aw4 x hx;obtain⟨a1,k,a2,a3⟩:=Agy e;obtain⟨b1,b2,b3⟩:=h.wi.2 y hy;refine⟨by rw[a1];exact b1,by rw[a2];exact b2.drop k,fun v hv=>?_⟩
    rw[a2]at hv;have h1:=b3 v (Agw hv);refine⟨h1.1,?_⟩;dsimp only;rw[Mi hi,a1];split
    ·rename_i e;have h9:=h1.2;dsimp only at h9;rw[e]at h9;exact h9
    ·exact h1.2
   ·intro x hx;rcases Ain hx with hx|rfl
    ·exact h.nm x hx
    ·exact h.name hi
   ·rw[Agj hi];exact h.nd
  ·exact h
set_option maxRecDepth 100000
set_option maxHeartbeats 40000000

open Go.Proofs
def Aps(rev:Int):List Fk→Fk→Fk
 | [],v=>v
 |w::r,v=>Aps rev r (if w.rev≤rev then w else v)
theorem Bdu(vs:List Fk)(rev:Int)(hl:vs.length≤100000):Fn Tryz.prog A4c [.v (.list (vs.map Fk.Bx)),.v (ti rev)] (Is (.tup [.i (Aps rev vs Akw).Bx,.i (.bool (!(Aps rev vs Akw).gone))]) [.no,.no]):=by
 refine A3d ?_ (by simp)
 obtain⟨C4,Ajz⟩:∃R,Aps rev vs Akw=R:=⟨_,rfl⟩;rw[Ajz];repeat'((conv=>whnf);((with_reducible refine Ac ?_ ?_);focus (and_intros<;>first|omega|kernel_rfl)))
 all_goals(try(conv=>whnf))
 refine Afm.by (X:=Nat × Fk) (fun y=>[(7,.v (ti (y.1:Int))),(6,.box (T.one (F.i y.2.Bx)))]) (fun y=>y.1≤vs.length∧Aps rev (vs.drop y.1) y.2=C4) (fun y=>vs.length - y.1) (0,Akw) (by kernel_rfl) ⟨Cr _,Ajz⟩ ?_
 rintro⟨j,v⟩ ⟨hj,hR⟩;dsimp only at hj hR ⊢;have hw:=zwj (j:=j) (by omega)
 by_cases hjl:j<vs.length
 case neg=>
  have h3:¬decide ((j:Int)<((vs.map Fk.Bx).length:Int))=true:=by simp;omega
  have h4:¬decide ((j:Int)<(vs.length:Int))=true:=by simp;omega
  rw[Db (by omega)]at hR
  have hR:v=C4:=hR;subst hR;obtain⟨vr,vm,vv,vg⟩:=v;repeat'((conv=>whnf);first|(with_reducible refine Aw (by exact Ak (by assumption)) fun hb=>?_);(try rw[hb]);try simp only[Aa]at hb|(with_reducible refine Ac ?_ ?_);focus (and_intros<;>first|omega|with_reducible rfl|kernel_rfl|simp;done)|with_reducible intro Cq|(with_reducible refine Ai2.mkV ?_ ?_ ?_ fun Cq=>?_);(iterate 3 focus (as_aux_lemma=>kernel_rfl));try simp only[zRL]at Cq)
  all_goals(try(conv=>whnf))
  (apply Dj<;>kernel_rfl)
 obtain⟨w,hwv⟩:∃x,vs[j]?=some x:=⟨_,Ae hjl⟩;have h3:¬decide ((j:Int)<((vs.map Fk.Bx).length:Int))=false:=by simp;omega
 have h4:¬decide ((j:Int)<(vs.length:Int))=false:=by simp;omega
 have hdr:vs.drop j=w::vs.drop (j+1):=by rw[Cc hjl];rw[Ae hjl]at hwv;cases hwv;rfl
 rw[hdr]at hR;simp only[Aps]at hR;by_cases hle:w.rev≤rev
 ·rw[if_pos hle]at hR;have hb:¬decide (w.rev≤rev)=false:=by simpa using hle
  repeat'((conv=>whnf);first|(with_reducible refine Ax (by exact Ai (by assumption)) fun hb=>?_);(try rw[hb]);try simp only[Aa]at hb|(with_reducible refine Ac ?_ ?_);focus (and_intros<;>first|omega|with_reducible rfl|kernel_rfl)|with_reducible intro Cq|(try dsimp only);rw[B6 hwv]|skip;rw[hw])
  all_goals(try(conv=>whnf))
  refine Round.by (j+1,w) ?_ ⟨by omega,hR⟩ (by dsimp only;omega)
  try dsimp only
  show norm _ _=Cx _ _
  kernel_rfl
 ·rw[if_neg hle]at hR;have hb:¬decide (w.rev≤rev)=true:=by simpa using hle
  repeat'((conv=>whnf);first|(with_reducible first|refine Ax (by exact Ai (by assumption)) fun hb=>?_|refine Aw (by exact Ak (by assumption)) fun hb=>?_);(try rw[hb]);try simp only[Aa]at hb|(with_reducible refine Ac ?_ ?_);focus (and_intros<;>first|omega|with_reducible rfl|kernel_rfl)|with_reducible intro Cq|(try dsimp only);rw[B6 hwv]|skip;rw[hw])
  all_goals(try(conv=>whnf))
  refine Round.by (j+1,v) ?_ ⟨by omega,hR⟩ (by dsimp only;omega)
  try dsimp only
  show norm _ _=Cx _ _
  kernel_rfl
def Ara(x:Sp)(rev:Int):List Kv→List Pr→List Pr
 | [],out=>out
 |h::r,out=>if(Aps rev h.vs Akw).gone=false∧Bw x h.key then Ara x rev r (out++[⟨h.key,(Aps rev h.vs Akw).val,(Aps rev h.vs Akw).made,(Aps rev h.vs Akw).rev⟩])else Ara x rev r out
theorem A82(p:Spc)(x:Sp)(rev:Int)(hl:p.keys.length≤100000)(hv:∀h∈p.keys,h.vs.length≤100000):Fn Tryz.prog Aws [.v p.Bx,.v x.Bx,.v (ti rev)] (Is (.v (.list ((Ara x rev p.keys []).map Pr.Bx))) [.no,.no,.no]):=by
 refine A35 ?_ (by simp)
 obtain⟨C4,Ajz⟩:∃R,Ara x rev p.keys []=R:=⟨_,rfl⟩;rw[Ajz];obtain⟨pn,prv,pfl,ks⟩:=p;dsimp only at hl hv Ajz;repeat'((conv=>whnf);((with_reducible refine Ac ?_ ?_);focus (and_intros<;>omega)))
 all_goals(try(conv=>whnf))
 refine Afm.by (X:=Nat × List Pr) (fun y=>[(8,.v (ti (y.1:Int))),(7,.vec 98 4 (y.2.map Pr.Bx))]) (fun y=>y.1≤ks.length∧y.2.length≤y.1∧Ara x rev (ks.drop y.1) y.2=C4) (fun y=>ks.length - y.1) (0,[]) (by kernel_rfl) ⟨Cr _,Cr _,Ajz⟩ ?_
 rintro⟨j,out⟩ ⟨hj,hol,hR⟩;dsimp only at hj hol hR ⊢;have hw:=zwj (j:=j) (by omega)
 have Boj:(out.map Pr.Bx).length≤100000:=by rw[Bh];omega
 have hks:(ks.map Kv.Bx).length=ks.length:=Bh _;by_cases hjl:j<ks.length
 case neg=>
  have h3:¬decide ((j:Int)<((ks.map Kv.Bx).length:Int))=true:=by simp;omega
  have h4:¬decide ((j:Int)<(ks.length:Int))=true:=by simp;omega
  rw[Db (by omega)]at hR
  have hR:out=C4:=hR;subst hR;repeat'((conv=>whnf);first|(with_reducible refine Aw (by exact Ak (by assumption)) fun hb=>?_);(try rw[hb]);try simp only[Aa]at hb|(with_reducible refine Ac ?_ ?_);focus (and_intros<;>first|omega|with_reducible rfl|kernel_rfl|simp;done)|with_reducible intro Cq)
  all_goals(try(conv=>whnf))
  (apply Dj<;>kernel_rfl)
 obtain⟨h,he⟩:∃x,ks[j]?=some x:=⟨_,Ae hjl⟩;have h3:¬decide ((j:Int)<((ks.map Kv.Bx).length:Int))=false:=by simp;omega
 have h4:¬decide ((j:Int)<(ks.length:Int))=false:=by simp;omega
 have hdr:ks.drop j=h::ks.drop (j+1):=by rw[Cc hjl];rw[Ae hjl]at he;cases he;rfl
 rw[hdr]at hR;simp only[Ara]at hR;have C3:=Bdu h.vs rev (hv h (Cb he));have hsh:=Bfk x h.key;generalize Aps rev h.vs Akw=v at C3 hR;obtain⟨vr,vm,vv,vg⟩:=v;obtain⟨hk,hvs⟩:=h;dsimp only at C3 hsh hR;by_cases hx:Bw x hk
 ·rw[decide_eq_true hx]at hsh;cases vg with
  |false=>
   rw[if_pos ⟨rfl,hx⟩]at hR;repeat'((conv=>whnf);first|(with_reducible refine Ax (by first|exact Ai (by assumption)|rfl) fun hb=>?_);(try rw[hb]);try simp only[Aa]at hb|((with_reducible refine A5 (fun hb=>?_) fun hb=>?_)<;>first|exact absurd hb (by decide)|(try rw[hb]);try simp only[Aa]at hb)|(with_reducible refine Ac ?_ ?_);focus (and_intros<;>first|omega|with_reducible rfl|kernel_rfl|intro _ hh;cases hh;done|exact Ah (by rfl)|simp only[An];omega|simp;done|decide)|with_reducible intro Cq|(with_reducible refine Ai2.mkV ?_ ?_ ?_ fun Cq=>?_);(iterate 3 focus (as_aux_lemma=>kernel_rfl));try simp only[zRL]at Cq|(try dsimp only);rw[B6 he]|(with_reducible refine Ct.mk ?_);refine⟨_,C3,?_⟩;rintro _ _ ⟨rfl,rfl⟩|(with_reducible refine Aq3.mk ?_);refine⟨_,_,hsh,?_⟩|(try dsimp only);rw[hw])
   all_goals(try(conv=>whnf))
   refine Round.by (j+1,out++[⟨hk,vv,vm,vr⟩]) ?_ ⟨by omega,by simp;omega,hR⟩ (by dsimp only;omega)
   try dsimp only
   simp only[F5,Cy,Kc];show norm _ _=Cx _ _
   kernel_rfl
  |true=>
   rw[if_neg (fun c=>by cases c.1)]at hR
   repeat'((conv=>whnf);first|(with_reducible first|refine Ax (by exact Ai (by assumption)) fun hb=>?_|refine Aw (by rfl) fun hb=>?_);(try rw[hb]);try simp only[Aa]at hb|((with_reducible refine A5 (fun hb=>?_) fun hb=>?_)<;>first|exact absurd hb (by decide)|(try rw[hb]);try simp only[Aa]at hb)|(with_reducible refine Ac ?_ ?_);focus (and_intros<;>first|omega|with_reducible rfl|kernel_rfl|intro _ hh;cases hh;done|simp;done|decide)|with_reducible intro Cq|(with_reducible refine Ai2.mkV ?_ ?_ ?_ fun Cq=>?_);(iterate 3 focus (as_aux_lemma=>kernel_rfl));try simp only[zRL]at Cq|(try dsimp only);rw[B6 he]|(with_reducible refine Ct.mk ?_);refine⟨_,C3,?_⟩;rintro _ _ ⟨rfl,rfl⟩|(try dsimp only);rw[hw])
   all_goals(try(conv=>whnf))
   refine Round.by (j+1,out) ?_ ⟨by omega,by dsimp only;omega,hR⟩ (by dsimp only;omega)
   try dsimp only
   show norm _ _=Cx _ _
   kernel_rfl
 ·rw[decide_eq_false hx]at hsh;rw[if_neg (fun c=>hx c.2)]at hR
  cases vg with
  |false=>
   repeat'((conv=>whnf);first|(with_reducible first|refine Ax (by first|exact Ai (by assumption)|rfl) fun hb=>?_|refine Aw (by rfl) fun hb=>?_);(try rw[hb]);try simp only[Aa]at hb|((with_reducible refine A5 (fun hb=>?_) fun hb=>?_)<;>first|exact absurd hb (by decide)|(try rw[hb]);try simp only[Aa]at hb)|(with_reducible refine Ac ?_ ?_);focus (and_intros<;>first|omega|with_reducible rfl|kernel_rfl|intro _ hh;cases hh;done|simp;done|decide)|with_reducible intro Cq|(with_reducible refine Ai2.mkV ?_ ?_ ?_ fun Cq=>?_);(iterate 3 focus (as_aux_lemma=>kernel_rfl));try simp only[zRL]at Cq|(try dsimp only);rw[B6 he]|(with_reducible refine Ct.mk ?_);refine⟨_,C3,?_⟩;rintro _ _ ⟨rfl,rfl⟩|(with_reducible refine Aq3.mk ?_);refine⟨_,_,hsh,?_⟩|(try dsimp only);rw[hw])
   all_goals(try(conv=>whnf))
   refine Round.by (j+1,out) ?_ ⟨by omega,by dsimp only;omega,hR⟩ (by dsimp only;omega)
   try dsimp only
   show norm _ _=Cx _ _
   kernel_rfl
  |true=>
   repeat'((conv=>whnf);first|(with_reducible first|refine Ax (by exact Ai (by assumption)) fun hb=>?_|refine Aw (by rfl) fun hb=>?_);(try rw[hb]);try simp only[Aa]at hb|((with_reducible refine A5 (fun hb=>?_) fun hb=>?_)<;>first|exact absurd hb (by decide)|(try rw[hb]);try simp only[Aa]at hb)|(with_reducible refine Ac ?_ ?_);focus (and_intros<;>first|omega|with_reducible rfl|kernel_rfl|intro _ hh;cases hh;done|simp;done|decide)|with_reducible intro Cq|(with_reducible refine Ai2.mkV ?_ ?_ ?_ fun Cq=>?_);(iterate 3 focus (as_aux_lemma=>kernel_rfl));try simp only[zRL]at Cq|(try dsimp only);rw[B6 he]|(with_reducible refine Ct.mk ?_);refine⟨_,C3,?_⟩;rintro _ _ ⟨rfl,rfl⟩|(try dsimp only);rw[hw])
   all_goals(try(conv=>whnf))
   refine Round.by (j+1,out) ?_ ⟨by omega,by dsimp only;omega,hR⟩ (by dsimp only;omega)
   try dsimp only
   show norm _ _=Cx _ _
   kernel_rfl

open Go.Proofs
def Bst(ks:List Kv):Prop:=ks.length≤100000∧∀h∈ks,h.key.length≤1000∧h.vs.length≤100000∧∀v∈h.vs,v.val.length≤1000

open Go.Proofs
def Ate(key:Az)(v:Fk):List Kv→List Kv→Bool→List Kv
 | [],out,d=>if d=true then out else out++[⟨key,[v]⟩]
 |h::r,out,d=>
  if h.key=key then Ate key v r ((if d=false∧key<h.key then out++[⟨key,[v]⟩]else out)++[⟨h.key,h.vs++[v]⟩]) true
  else Ate key v r ((if d=false∧key<h.key then out++[⟨key,[v]⟩]else out)++[h]) (if d=false∧key<h.key then true else d)
theorem Kv.A3f(key:Az)(v:Fk):Kv.Bx ⟨key,[v]⟩= .agg [.str key,.list [v.Bx]]:=rfl
theorem Kv.A2r(key:Az)(vs:List Fk)(v:Fk):Kv.Bx ⟨key,vs++[v]⟩= .agg [.str key,.list (vs.map Fk.Bx++[v.Bx])]:=by simp[Kv.Bx]
theorem Bfj(p:Spc)(key:Az)(v:Fk)(hl:p.keys.length≤100000)(hv:∀h∈p.keys,h.vs.length≤100000):
 Fn Tryz.prog A2x [.v p.Bx,.v (.str key),.v v.Bx] (Is (.v (⟨p.name,p.rev,p.floor,Ate key v p.keys [] false⟩:Spc).Bx) [.no,.no,.no]):=by
 refine A2p ?_ (by simp)
 obtain⟨pn,prv,pfl,ks⟩:=p;dsimp only at hl hv ⊢;obtain⟨C4,Ajz⟩:∃R,Ate key v ks [] false=R:=⟨_,rfl⟩;rw[Ajz];have hks:(ks.map Kv.Bx).length=ks.length:=Bh _;repeat'((conv=>whnf);((with_reducible refine Ac ?_ ?_);focus (and_intros<;>omega)))
 all_goals(try(conv=>whnf))
 refine Afm.by (X:=Nat × List Kv × Bool) (fun y=>[(9,.v (ti (y.1:Int))),(7,.vec 55 2 (y.2.1.map Kv.Bx)),(8,.v (.bool y.2.2))]) (fun y=>y.1≤ks.length∧y.2.1.length≤2*y.1∧Ate key v (ks.drop y.1) y.2.1 y.2.2=C4) (fun y=>ks.length - y.1) (0,[],false) (by kernel_rfl) ⟨Cr _,Cr _,Ajz⟩ ?_
 rintro⟨j,out,d⟩ ⟨hj,hol,hR⟩;dsimp only at hj hol hR ⊢;have hw:=zwj (j:=j) (by omega)
 have Boj:(out.map Kv.Bx).length≤200000:=by rw[Bh];omega
 by_cases hjl:j<ks.length
 case neg=>
  have h3:¬decide ((j:Int)<((ks.map Kv.Bx).length:Int))=true:=by simp;omega
  have h4:¬decide ((j:Int)<(ks.length:Int))=true:=by simp;omega
  rw[Db (by omega)]at hR
  cases d with
  |true=>
   have hR:out=C4:=hR;subst hR;repeat'((conv=>whnf);first|(with_reducible refine Aw (by exact Ak (by assumption)) fun hb=>?_);(try rw[hb]);try simp only[Aa]at hb|((with_reducible refine A5 (fun hb=>?_) fun hb=>?_)<;>first|exact absurd hb (by decide)|(try rw[hb]);try simp only[Aa]at hb)|(with_reducible refine Ac ?_ ?_);focus (and_intros<;>first|omega|with_reducible rfl|kernel_rfl|simp;done)|with_reducible intro Cq)
   all_goals(try(conv=>whnf))
   (apply Dj<;>kernel_rfl)
  |false=>
   have hR:out++[⟨key,[v]⟩]=C4:=hR;subst hR;repeat'((conv=>whnf);first|(with_reducible refine Aw (by exact Ak (by assumption)) fun hb=>?_);(try rw[hb]);try simp only[Aa]at hb|((with_reducible refine A5 (fun hb=>?_) fun hb=>?_)<;>first|exact absurd hb (by decide)|(try rw[hb]);try simp only[Aa]at hb)|(with_reducible refine Ac ?_ ?_);focus (and_intros<;>first|omega|with_reducible rfl|kernel_rfl|exact Ah (by rfl)|simp only[An];omega|simp;done)|with_reducible intro Cq)
   all_goals(try(conv=>whnf))
   refine Am1.mk ⟨?_,by kernel_rfl⟩ (by kernel_rfl)
   simp only[Spc.Bx,F5,Cy,Kc,Kv.A3f]
   kernel_rfl
 obtain⟨h,he⟩:∃x,ks[j]?=some x:=⟨_,Ae hjl⟩;have h3:¬decide ((j:Int)<((ks.map Kv.Bx).length:Int))=false:=by simp;omega
 have h4:¬decide ((j:Int)<(ks.length:Int))=false:=by simp;omega
 have hdr:ks.drop j=h::ks.drop (j+1):=by rw[Cc hjl];rw[Ae hjl]at he;cases he;rfl
 rw[hdr]at hR;simp only[Ate]at hR;have hvl:=hv h (Cb he);obtain⟨hk,hvs⟩:=h;dsimp only at hR hvl;have Awo:(hvs.map Fk.Bx).length≤100000:=by rw[Bh];exact hvl
 by_cases heq:hk=key
 ·rw[if_pos heq]at hR;have hnl:¬key<hk:=by rw[heq];exact Af9 _
  rw[if_neg (fun c=>hnl c.2)]at hR
  have e1:¬decide (hk=key)=false:=by simpa using heq
  have c1:¬Op.bytesLess key hk=true:=by rw[Kz];simpa using hnl
  cases d with
  |true=>
   repeat'((conv=>whnf);first|(with_reducible refine Ax (by exact Ai (by assumption)) fun hb=>?_);(try rw[hb]);(try simp only[Aa]at hb);try subst hb|(with_reducible refine Aw (by first|exact Ak (by assumption)|rfl) fun hb=>?_);(try rw[hb]);try simp only[Aa]at hb|((with_reducible refine A5 (fun hb=>?_) fun hb=>?_)<;>first|exact absurd hb (by decide)|(try rw[hb]);try simp only[Aa]at hb)|(with_reducible refine Ac ?_ ?_);focus (and_intros<;>first|omega|with_reducible rfl|kernel_rfl|exact Ah (by rfl)|exact size_map (fun _=>rfl)|simp only[An];omega|simp;done)|with_reducible intro Cq|(with_reducible refine Ai2.mkV ?_ ?_ ?_ fun Cq=>?_);(iterate 3 focus (as_aux_lemma=>kernel_rfl));try simp only[zRL]at Cq|(try dsimp only);(first|rw[B6 he]|rw[hw]))
   all_goals(try(conv=>whnf))
   refine Round.by (j+1,out++[⟨hk,hvs++[v]⟩],true) ?_ ⟨by omega,by simp;omega,hR⟩ (by dsimp only;omega)
   try dsimp only
   simp only[F5,Cy,Kc,Kv.A3f,Kv.A2r];show norm _ _=Cx _ _
   kernel_rfl
  |false=>
   repeat'((conv=>whnf);first|(with_reducible refine Ax (by first|exact Ai (by assumption)|rfl) fun hb=>?_);(try rw[hb]);(try simp only[Aa]at hb);try subst hb|(with_reducible refine Aw (by exact Ak (by assumption)) fun hb=>?_);(try rw[hb]);try simp only[Aa]at hb|((with_reducible refine A5 (fun hb=>?_) fun hb=>?_)<;>first|exact absurd hb (by decide)|(try rw[hb]);try simp only[Aa]at hb)|(with_reducible refine Ac ?_ ?_);focus (and_intros<;>first|omega|with_reducible rfl|kernel_rfl|exact Ah (by rfl)|exact size_map (fun _=>rfl)|simp only[An];omega|simp;done)|with_reducible intro Cq|(with_reducible refine Ai2.mkV ?_ ?_ ?_ fun Cq=>?_);(iterate 3 focus (as_aux_lemma=>kernel_rfl));try simp only[zRL]at Cq|(try dsimp only);(first|rw[B6 he]|rw[hw]))
   all_goals(try(conv=>whnf))
   refine Round.by (j+1,out++[⟨hk,hvs++[v]⟩],true) ?_ ⟨by omega,by simp;omega,hR⟩ (by dsimp only;omega)
   try dsimp only
   simp only[F5,Cy,Kc,Kv.A3f,Kv.A2r];show norm _ _=Cx _ _
   kernel_rfl
 ·rw[if_neg heq]at hR;have e1:¬decide (hk=key)=true:=by simpa using heq
  by_cases Ze:key<hk
  ·have c1:¬Op.bytesLess key hk=false:=by rw[Kz];simpa using Ze
   cases d with
   |true=>
    rw[if_neg (fun c=>by cases c.1),if_neg (fun c=>by cases c.1)]at hR
    repeat'((conv=>whnf);first|(with_reducible first|refine Ax (by exact Ai (by assumption)) fun hb=>?_|refine Aw (by first|exact Ak (by assumption)|rfl) fun hb=>?_);(try rw[hb]);try simp only[Aa]at hb|((with_reducible refine A5 (fun hb=>?_) fun hb=>?_)<;>first|exact absurd hb (by decide)|(try rw[hb]);try simp only[Aa]at hb)|(with_reducible refine Ac ?_ ?_);focus (and_intros<;>first|omega|with_reducible rfl|kernel_rfl|exact Ah (by rfl)|simp only[An];omega|simp;done)|with_reducible intro Cq|(try dsimp only);(first|rw[B6 he]|rw[hw]))
    all_goals(try(conv=>whnf))
    refine Round.by (j+1,out++[⟨hk,hvs⟩],true) ?_ ⟨by omega,by simp;omega,hR⟩ (by dsimp only;omega)
    try dsimp only
    simp only[F5,Cy,Kc,Kv.A3f,Kv.A2r];show norm _ _=Cx _ _
    kernel_rfl
   |false=>
    rw[if_pos ⟨rfl,Ze⟩,if_pos ⟨rfl,Ze⟩]at hR;repeat'((conv=>whnf);first|(with_reducible first|refine Ax (by first|exact Ai (by assumption)|rfl) fun hb=>?_|refine Aw (by exact Ak (by assumption)) fun hb=>?_);(try rw[hb]);try simp only[Aa]at hb|((with_reducible refine A5 (fun hb=>?_) fun hb=>?_)<;>first|exact absurd hb (by decide)|(try rw[hb]);try simp only[Aa]at hb)|(with_reducible refine Ac ?_ ?_);focus (and_intros<;>first|omega|with_reducible rfl|kernel_rfl|exact Ah (by rfl)|simp only[An];omega|simp;done)|with_reducible intro Cq|(try dsimp only);(first|rw[B6 he]|rw[hw]))
    all_goals(try(conv=>whnf))
    refine Round.by (j+1,out++[⟨key,[v]⟩]++[⟨hk,hvs⟩],true) ?_ ⟨by omega,by simp;omega,hR⟩ (by dsimp only;omega)
    try dsimp only
    simp only[F5,Cy,Kc,Kv.A3f,Kv.A2r];show norm _ _=Cx _ _
    kernel_rfl
  ·have c1:¬Op.bytesLess key hk=true:=by rw[Kz];simpa using Ze
   rw[if_neg (fun c=>Ze c.2),if_neg (fun c=>Ze c.2)]at hR
   cases d with
   |true=>
    repeat'((conv=>whnf);first|(with_reducible first|refine Ax (by exact Ai (by assumption)) fun hb=>?_|refine Aw (by first|exact Ak (by assumption)|rfl) fun hb=>?_);(try rw[hb]);try simp only[Aa]at hb|((with_reducible refine A5 (fun hb=>?_) fun hb=>?_)<;>first|exact absurd hb (by decide)|(try rw[hb]);try simp only[Aa]at hb)|(with_reducible refine Ac ?_ ?_);focus (and_intros<;>first|omega|with_reducible rfl|kernel_rfl|exact Ah (by rfl)|simp only[An];omega|simp;done)|with_reducible intro Cq|(try dsimp only);(first|rw[B6 he]|rw[hw]))
    all_goals(try(conv=>whnf))
    refine Round.by (j+1,out++[⟨hk,hvs⟩],true) ?_ ⟨by omega,by simp;omega,hR⟩ (by dsimp only;omega)
    try dsimp only
    simp only[F5,Cy,Kc,Kv.A3f,Kv.A2r];show norm _ _=Cx _ _
    kernel_rfl
   |false=>
    repeat'((conv=>whnf);first|(with_reducible first|refine Ax (by first|exact Ai (by assumption)|rfl) fun hb=>?_|refine Aw (by exact Ak (by assumption)) fun hb=>?_);(try rw[hb]);try simp only[Aa]at hb|((with_reducible refine A5 (fun hb=>?_) fun hb=>?_)<;>first|exact absurd hb (by decide)|(try rw[hb]);try simp only[Aa]at hb)|(with_reducible refine Ac ?_ ?_);focus (and_intros<;>first|omega|with_reducible rfl|kernel_rfl|exact Ah (by rfl)|simp only[An];omega|simp;done)|with_reducible intro Cq|(try dsimp only);(first|rw[B6 he]|rw[hw]))
    all_goals(try(conv=>whnf))
    refine Round.by (j+1,out++[⟨hk,hvs⟩],false) ?_ ⟨by omega,by simp;omega,hR⟩ (by dsimp only;omega)
    try dsimp only
    simp only[F5,Cy,Kc,Kv.A3f,Kv.A2r];show norm _ _=Cx _ _
    kernel_rfl
end Go.Ab
