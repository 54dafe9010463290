/- Lemmas -/
import Derived.Test.YtkpojedpcabojaaDoorW6
set_option linter.unusedVariables false
set_option linter.unusedSimpArgs false
namespace Go.Ab
theorem Ajm{l:List Zk}{a:Az}{v:Fk}{h:Zk}(hh:h∈Ath l a v):h∈l∨h=⟨a,[v]⟩∨∃e∈l,e.at_=a∧h=⟨a,e.vs++[v]⟩:=by
 unfold Ath A1y at hh;split at hh
 ·rename_i hf;obtain⟨e,h2,h3⟩:=Afp hf;rw[Zv h2]at hh;have h4:e.at_=a:=by simpa[eqH]using h3
  rcases Ain hh with h|rfl
  ·exact .inl h
  ·exact .inr (.inr ⟨e,Cb h2,h4,by rw[h4]⟩)
 ·rcases Bv.1 hh with h|h
  ·exact .inl (P2 h)
  ·rcases Bg.1 h with rfl|h
   ·exact .inr (.inl rfl)
   ·exact .inl (Agw h)
theorem Ajt{l:List Zk}{a:Az}{v:Fk}(hl:LSo l):LSo (Ath l a v):=by
 unfold Ath A1y;split
 ·rename_i hf;obtain⟨e,h2,h3⟩:=Afp hf;rw[Zv h2,LSo,Amd];rw[List.set_getElem?_self' (l:=l.map Zk.at_) (by rw[Ev,h2];rfl)]
  exact hl
 ·rename_i hf;have hl':=hl;rw[LSo,List.pairwise_map]at hl';obtain⟨h1,h2⟩:=Aho (lt:=Kh a) (l:=l) (hl'.imp fun {x y} hab hb=>by simp only[Kh,decide_eq_true_eq]at*;exact Amg hab hb)
  have hgt:∀x∈l.drop (Km (Kh a) l),a<x.at_:=by
   intro x hx;have h3:=h2 x hx;simp only[Kh,decide_eq_false_iff_not]at h3;obtain⟨j,hj,rfl⟩:=Akp.1 hx;rw[Ei]at hj;rw[List.getElem_drop]at h3 ⊢;have Cf:l[Km (Kh a) l+j].at_≠a:=by
    intro e;cases j with
    |zero=>
     apply hf;unfold bsF;rw[Ae (show Km (Kh a) l<l.length by omega)]
     simp only[Option.any_some,eqH,decide_eq_true_eq];exact e
    |succ j=>
     have h4:=Ak2.1 hl' (Km (Kh a) l) (Km (Kh a) l+(j+1)) (by omega) (by omega) (by omega)
     rw[e]at h4;have h5:=h2 (l[Km (Kh a) l]'(by omega)) (by rw[Cc (by omega)];exact B2 ..)
     simp only[Kh,decide_eq_false_iff_not]at h5;exact h5 h4
   exact Std.lt_of_le_of_ne (List.not_lt.1 h3) (Ne.symm Cf)
  rw[LSo,F5,Cy,Arz,Gr];rw[LSo]at hl;refine⟨?_,⟨?_,?_⟩,?_⟩
  ·rw[List.map_take];exact List.Pairwise.sublist (List.take_sublist _ _) hl
  ·intro y hy;obtain⟨x,hx,rfl⟩:=X4.1 hy;exact hgt x hx
  ·rw[List.map_drop];exact List.Pairwise.sublist (List.drop_sublist _ _) hl
  ·intro y hy z hz;obtain⟨x,hx,rfl⟩:=X4.1 hy;have h3:=h1 x hx;simp only[Kh,decide_eq_true_eq]at h3;rcases Bg.1 hz with rfl|hz
   ·exact h3
   ·obtain⟨w,hw,rfl⟩:=X4.1 hz;exact Amg h3 (hgt w hw)
def Ayn(U:Az→Int)(l:List Zk):Prop:=LSo l∧∀h∈l,Avh h.at_∧VSo h.vs∧∀v∈h.vs,1≤v.rev∧v.rev≤U h.at_
theorem VSo.snoc{vs:List Fk}{v:Fk}{u:Int}(h:VSo vs)(hu:∀x∈vs,x.rev≤u)(hv:u<v.rev):VSo (vs++[v]):=by
 rw[VSo,Arz];refine⟨h,by simp,fun x hx y hy=>?_⟩
 simp only[Jd]at hy;subst hy;have:=hu x hx;omega
theorem Ayn.put{U U':Az→Int}{l:List Zk}{a:Az}{v:Fk}(h:Ayn U l)(hU:∀x,U x≤U' x)(h1:1≤v.rev)(h2:U a<v.rev)(h3:v.rev≤U' a)(ha:Avh a):Ayn U' (Ath l a v):=by
 refine⟨Ajt h.1,fun x hx=>?_⟩
 rcases Ajm hx with hx|rfl|⟨e,he,hea,rfl⟩
 ·obtain⟨a1,a2,a3⟩:=h.2 x hx;exact⟨a1,a2,fun v hv=>⟨(a3 v hv).1,Int.le_trans (a3 v hv).2 (hU _)⟩⟩
 ·exact⟨ha,by simp[VSo],fun w hw=>by simp only[Jd]at hw;subst hw;exact⟨h1,h3⟩⟩
 ·obtain⟨a1,a2,a3⟩:=h.2 e he;rw[hea]at a3;refine⟨ha,a2.snoc (fun x hx=>(a3 x hx).2) h2,fun w hw=>?_⟩
  rcases Bv.1 hw with hw|hw
  ·exact⟨(a3 w hw).1,Int.le_trans (a3 w hw).2 (hU _)⟩
  ·simp only[Jd]at hw;subst hw;exact⟨h1,h3⟩
def Avw(n:Az)(r:Int)(R:Az→Int)(KK:List Az)(a:Az):Int:=if(C1 a).1=n then(if(C1 a).2.1∈KK then r else r+1)else R (C1 a).1
theorem Q7(n k:Az)(c:Ef)(x:WSt):Dw n k c x=x∨∃v,v.rev=x.t.rev+1∧(Dw n k c x).l=Ath x.l (B7 n k) v∧(Dw n k c x).w=true:=by
 unfold Dw;dsimp only;split
 ·exact .inl rfl
 ·right;split
  ·exact⟨_,rfl,rfl,rfl⟩
  ·split
   ·exact⟨_,rfl,rfl,rfl⟩
   ·exact⟨_,rfl,rfl,rfl⟩
theorem Agt(n k:Az)(c:Ef)(x:WSt):(Dw n k c x).t.rev=x.t.rev∧(Dw n k c x).t.floor=x.t.floor:=by
 unfold Dw;dsimp only;split
 ·exact⟨rfl,rfl⟩
 ·split
  ·exact⟨rfl,rfl⟩
  ·split<;>exact⟨rfl,rfl⟩
theorem Ah2{n:Az}{r:Int}{R:Az→Int}{k:Az}{KK:List Az}(a:Az):Avw n r R (k::KK) a≤Avw n r R KK a:=by
 unfold Avw;split
 ·split<;>split
  ·omega
  ·omega
  ·rename_i h1 h2;exact absurd (B4 _ h2) h1
  ·omega
 ·omega
theorem Ag6{n k:Az}{c:Ef}{x:WSt}{R:Az→Int}{KK:List Az}(hn:n.length<256)(hk:k ∉ KK)(hr:0≤x.t.rev)(h:Ayn (Avw n x.t.rev R (k::KK)) x.l):
 Ayn (Avw n x.t.rev R KK) (Dw n k c x).l:=by
 rcases Q7 n k c x with e|⟨v,h1,h2,_⟩
 ·rw[e];exact⟨h.1,fun y hy=>⟨(h.2 y hy).1,(h.2 y hy).2.1,fun v hv=>⟨((h.2 y hy).2.2 v hv).1,Int.le_trans ((h.2 y hy).2.2 v hv).2 (Ah2 _)⟩⟩⟩
 ·rw[h2];have hw:C1 (B7 n k)=(n,k,true):=Mt hn;refine h.put Ah2 (by omega) ?_ ?_ ⟨n,k,rfl,hn⟩
  ·unfold Avw;rw[hw,if_pos rfl,if_pos (B2 ..)];omega
  ·unfold Avw;rw[hw,if_pos rfl,if_neg hk];omega
theorem Ahn{n:Az}{F:List Ef}{R:Az→Int}(hn:n.length<256):∀{KK:List Az} {x:WSt},KK.Nodup→0≤x.t.rev→Ayn (Avw n x.t.rev R KK) x.l→
 Ayn (Avw n x.t.rev R []) (Ge n F KK x).l∧(Ge n F KK x).t.rev=x.t.rev∧(Ge n F KK x).t.floor=x.t.floor
 | [],x,_,_,h=>⟨h,rfl,rfl⟩
 |k::KK,x,hd,hr,h=>by
  obtain⟨h1,h2⟩:=Hw.1 hd;obtain⟨t1,t2⟩:=Agt n k (Anv F k) x;have h3:=Ag6 (c:=Anv F k) hn h1 hr h;have ih:=Ahn (F:=F) (R:=R) hn (KK:=KK) (x:=Dw n k (Anv F k) x) h2 (by omega) (by rw[t1];exact h3)
  rw[t1,t2]at ih;exact ih
theorem Ah5{n:Az}{F:List Ef}:∀{KK:List Az} {x:WSt},(Ge n F KK x).w=false→Ge n F KK x=x
 | [],x,_=>rfl
 |k::KK,x,h=>by
  have ih:=Ah5 (n:=n) (F:=F) (KK:=KK) (x:=Dw n k (Anv F k) x) h;change Ge n F KK (Dw n k (Anv F k) x)=x;rw[ih];rcases Q7 n k (Anv F k) x with e|⟨v,_,_,h2⟩
  ·exact e
  ·have h3:(Ge n F KK (Dw n k (Anv F k) x)).w=false:=h;rw[ih,h2]at h3;cases h3
theorem Ah0{n:Az}{F:List Ef}(hn:n.length≤1000):∀{KK:List Az} {m m':Nat} {x:WSt},LBd m x.l→TBd m' x.t→(∀k∈KK,k.length≤64∧((Anv F k).gone=true∨(Anv F k).val.length≤256))→
 LBd (m+KK.length) (Ge n F KK x).l∧TBd (m'+KK.length) (Ge n F KK x).t
 | [],m,m',x,h1,h2,_=>⟨h1,h2⟩
 |k::KK,m,m',x,h1,h2,h3=>by
  obtain⟨a1,a2⟩:=h3 k (B2 ..);obtain⟨b1,b2,_,_⟩:=W4 (k:=k) (c:=Anv F k) h1 h2 hn a1 a2;obtain⟨c1,c2⟩:=Ah0 (F:=F) hn (KK:=KK) b1 b2 fun k hk=>h3 k (B4 _ hk)
  rw[Ho,show m+(KK.length+1)=m+1+KK.length by omega,show m'+(KK.length+1)=m'+1+KK.length by omega]
  exact⟨c1,c2⟩
theorem Agz:∀{cs F FF:List Ef},K6 cs F=some FF→(F.map Ef.key).Nodup→(∀c∈F,c.ok)→(FF.map Ef.key).Nodup∧(∀c∈FF,c.ok)∧FF.length≤F.length+cs.length
 | [],F,FF,h,h1,h2=>by
   have h:some F=some FF:=h;cases h;exact⟨h1,h2,by simp⟩
 |c::r,F,FF,h,h1,h2=>by
  unfold K6 at h;split at h
  ·rename_i hc;obtain⟨a,b,d⟩:=Agz h (U5 h1) fun x hx=>by
    rcases Zn hx with h|h
    ·exact h2 x h
    ·subst h;exact hc
   have:=Zm F c;exact⟨a,b,by simp only[Ho];omega⟩
  ·cases h
theorem Aid{n:Az}{t:Tal}:∀{sp:List (Az × Tal)} {i:Nat},sp.findIdx? (fun x=>decide (x.1=n))=some i→∀n',((sp.set i (n,t)).find? fun x=>decide (x.1=n')).map (·.2)=if n'=n then some t else(sp.find? fun x=>decide (x.1=n')).map (·.2)
 | [],i,h,_=>by simp at h
 |x::sp,i,h,n'=>by
  rw[List.findIdx?_cons]at h;by_cases hx:x.1=n
  ·simp only[hx,decide_true,if_true,A0]at h;subst h;rw[Akm,Amy,Amy];by_cases hn:n'=n
   ·subst hn;simp
   ·have h1:¬n=n':=fun e=>hn e.symm
    have h2:¬x.1=n':=by rw[hx];exact h1
    simp[h1,h2,hn]
  ·simp only[hx,decide_false,Ado,if_false,Ad7]at h;obtain⟨j,hj,rfl⟩:=h;rw[Ais,Amy,Amy];by_cases hn:x.1=n'
   ·have:¬n'=n:=by rw[←hn];exact hx
    simp[hn,this]
   ·simp only[hn,decide_false];exact Aid hj n'
theorem Mi{s:Cn}{n:Az}{i:Nat}{t:Tal}{l:List Zk}(h:s.fi n=some i)(n':Az):(Cn.mk (s.sp.set i (n,t)) l).Zp n'=if n'=n then t else s.Zp n':=by
 unfold Cn.Zp;have:=Aid (t:=t) h n';simp only at this ⊢;rw[this];split<;>rfl
theorem Ajf{s s':Cn}(h:s'.sp.map (·.1)=s.sp.map (·.1))(n:Az):s'.fi n=s.fi n:=by
 have h1:∀s:Cn,s.fi n=(s.sp.map (·.1)).findIdx? (fun x=>decide (x=n)):=fun s=>by unfold Cn.fi;rw[List.findIdx?_map];rfl
 rw[h1,h1,h]
theorem Agj{s:Cn}{n:Az}{i:Nat}{t:Tal}{l:List Zk}(h:s.fi n=some i):(Cn.mk (s.sp.set i (n,t)) l).sp.map (·.1)=s.sp.map (·.1):=by
 obtain⟨_,_,h3⟩:=Cn.Ari h;dsimp only;rw[Amd];exact List.set_getElem?_self' (by rw[Ev,h3];rfl)
theorem Aij{s:Cn}{n:Az}(h:s.fi n=none)(n':Az):({s with sp:=s.sp++[(n,Ax5)]}:Cn).Zp n'=s.Zp n':=by
 unfold Cn.Zp;dsimp only;rw[List.find?_append];cases hf:s.sp.find? fun x=>decide (x.1=n')with
 |some x=>rfl
 |none=>
  simp only[Option.none_or];rw[Amy];split<;>simp
structure Akb(m:Nat)(s:Cn):Prop where
 lb:LBd m s.l
 tb:∀n,TBd m (s.Zp n)
 rv:∀n,0≤(s.Zp n).floor∧(s.Zp n).floor≤(s.Zp n).rev∧(s.Zp n).rev≤m
 wi:Ayn (fun a=>(s.Zp (C1 a).1).rev) s.l
 nm:∀x∈s.sp,x.1.length<256
 nd:(s.sp.map (·.1)).Nodup
theorem Akb.mono{m m':Nat}{s:Cn}(h:Akb m s)(hm:m≤m'):Akb m' s:=
 ⟨h.lb.mono hm,fun n=>(h.tb n).mono hm,fun n=>by have:=h.rv n;omega,h.wi,h.nm,h.nd⟩
theorem Ajr:Akb 0 ⟨[],[]⟩:=by
 have ht:∀n,(Cn.mk [] []).Zp n=Ax5:=fun n=>rfl
 refine⟨⟨Bz _,by intro h hh;cases hh⟩,fun n=>?_,fun n=>?_,⟨List.Pairwise.nil,by intro h hh;cases hh⟩,(by intro h hh;cases hh),Ach⟩
 ·rw[ht];exact⟨by decide,by decide,by decide⟩
 ·rw[ht];decide
theorem Akb.name{m:Nat}{s:Cn}(h:Akb m s){n:Az}{i:Nat}(hf:s.fi n=some i):n.length<256:=by
 obtain⟨_,_,h3⟩:=Cn.Ari hf;exact h.nm _ (Cb h3)
theorem Ahj{l:List Az}(h:l.Nodup):(Dc l).Nodup:=(Aor ..).nodup_iff.2 h
theorem Ajd(l:List Az):(Dc l).length=l.length:=List.length_mergeSort _
theorem Aje{l:List Az}{k:Az}:k∈Dc l↔k∈l:=(Aor ..).mem_iff
def Cn.Acg(s:Cn)(n:Az)(cs:List Ef):Cn × Int × Int:=match s.fi n with
 |none=>(s,0,16)
 |some i=>match K6 cs []with
  |none=>(s,0,1)
  |some F=>(⟨s.sp.set i (n,(Ge n F (Dc (F.map Ef.key)) ⟨s.Zp n,s.l,false⟩).fin),(Ge n F (Dc (F.map Ef.key)) ⟨s.Zp n,s.l,false⟩).l⟩,(Ge n F (Dc (F.map Ef.key)) ⟨s.Zp n,s.l,false⟩).fin.rev,0)
theorem Ajq{FF:List Ef}(h:∀c∈FF,c.ok){k:Az}(hk:k∈Dc (FF.map Ef.key)):k.length≤64∧((Anv FF k).gone=true∨(Anv FF k).val.length≤256):=by
 obtain⟨q,_,h2,h3⟩:=Adz (Aje.1 hk);have h4:=h _ (Cb h2);exact⟨by rw[←h3];exact h4.1.2,h4.2⟩
theorem Akb.start{m:Nat}{s:Cn}(h:Akb m s)(n:Az)(KK:List Az):Ayn (Avw n (s.Zp n).rev (fun n=>(s.Zp n).rev) KK) s.l:=by
 refine⟨h.wi.1,fun x hx=>⟨(h.wi.2 x hx).1,(h.wi.2 x hx).2.1,fun v hv=>⟨((h.wi.2 x hx).2.2 v hv).1,?_⟩⟩⟩
 have h1:=((h.wi.2 x hx).2.2 v hv).2;dsimp only at h1;unfold Avw;split
 ·rename_i e;rw[e]at h1;split<;>omega
 ·exact h1
theorem Akb.write{m:Nat}{s:Cn}(h:Akb m s)(n:Az)(cs:List Ef):Akb (m+cs.length+1) (s.Acg n cs).1:=by
 unfold Cn.Acg;split
 ·exact h.mono (by omega)
 ·rename_i i hi;split
  ·exact h.mono (by omega)
  ·rename_i F hF;obtain⟨f1,f2,f3⟩:=Agz hF (by simp) (by simp)
   have hn:=h.name hi;have hs:=h.start n (Dc (F.map Ef.key));obtain⟨g1,g2,g3⟩:=Ahn (F:=F) (x:=⟨s.Zp n,s.l,false⟩) hn (Ahj f1) (by have:=h.rv n;dsimp only;omega) hs
   obtain⟨b1,b2⟩:=Ah0 (n:=n) (F:=F) (x:=⟨s.Zp n,s.l,false⟩) (KK:=Dc (F.map Ef.key)) (by omega) h.lb (h.tb n) fun k hk=>Ajq f2 hk
   have hw:=Ah5 (n:=n) (F:=F) (KK:=Dc (F.map Ef.key)) (x:=⟨s.Zp n,s.l,false⟩);generalize Ge n F (Dc (F.map Ef.key)) ⟨s.Zp n,s.l,false⟩=Z at*;dsimp only at g1 g2 g3 b1 b2 hw ⊢;rw[Ajd,Bh]at b1 b2;simp only[Ak7,E3]at f3;have hrv:=h.rv n;have Au1:Z.fin.floor=(s.Zp n).floor∧Z.fin.rev=(if Z.w=true then(s.Zp n).rev+1 else(s.Zp n).rev)∧TBd (m+cs.length+1) Z.fin:=by
    have h5:=b2.mono (show m+F.length≤m+cs.length+1 by omega)
    obtain⟨c1,c2,c3⟩:=h5;unfold WSt.fin;split
    ·exact⟨g3,by rw[←g2],⟨c1,c2,c3⟩⟩
    ·exact⟨g3,g2,⟨c1,c2,c3⟩⟩
   refine⟨b1.mono (by omega),fun n'=>?_,fun n'=>?_,?_,?_,?_⟩
   ·rw[Mi hi];split
    ·exact Au1.2.2
    ·exact(h.tb n').mono (by omega)
   ·rw[Mi hi];split
    ·rw[Au1.1,Au1.2.1];split<;>omega
    ·have:=h.rv n';omega
   ·refine⟨g1.1,fun x hx=>⟨(g1.2 x hx).1,(g1.2 x hx).2.1,fun v hv=>⟨((g1.2 x hx).2.2 v hv).1,?_⟩⟩⟩
    dsimp only;rw[Mi hi];have h1:=((g1.2 x hx).2.2 v hv).2;unfold Avw at h1;split
    ·rename_i e;rw[if_pos e,if_neg (by simp)]at h1
     rw[Au1.2.1];cases hZ:Z.w with
     |true=>simp only[if_true];exact h1
     |false=>
      rw[hw hZ]at hx;have h9:=((h.wi.2 x hx).2.2 v hv).2;dsimp only at h9;rw[e]at h9;simpa using h9
    ·rename_i e;rw[if_neg e]at h1;exact h1
   ·intro x hx;rcases Ain hx with hx|rfl
    ·exact h.nm x hx
    ·exact hn
   ·rw[Agj hi];exact h.nd
theorem Akb.open{m:Nat}{s:Cn}{nm:Bool}(h:Akb m s)(n:Az)(hn:nm=true→n.length<256):Akb m (s.Aqk nm n).1:=by
 unfold Cn.Aqk;split
 ·exact h
 ·rename_i hnm;split
  ·exact h
  ·rename_i hf;split
   ·exact h
   ·have hf:s.fi n=none:=by simpa using hf
    have ht:=Aij hf;refine⟨h.lb,fun n'=>by rw[ht];exact h.tb n',fun n'=>by rw[ht];exact h.rv n',⟨h.wi.1,fun x hx=>?_⟩,?_,?_⟩
    ·have h2:=h.wi.2 x hx;refine⟨h2.1,h2.2.1,fun v hv=>⟨(h2.2.2 v hv).1,?_⟩⟩
     have h3:=(h2.2.2 v hv).2;dsimp only at h3 ⊢;rw[ht];exact h3
    ·intro x hx;rcases Bv.1 hx with hx|hx
     ·exact h.nm x hx
     ·simp only[Jd]at hx;subst hx;exact hn (by simpa using hnm)
    ·dsimp only;rw[F5,Hb];refine⟨h.nd,by simp,?_⟩
     intro a ha b hb e;simp only[Cy,Kc,Jd]at hb;subst hb;subst e;obtain⟨x,hx,e⟩:=X4.1 ha;unfold Cn.fi at hf;rw[List.findIdx?_eq_none_iff]at hf;have:=hf x hx;simp[e]at this
def Pf(n:Az)(rev:Int)(h:Zk):Option Zk:=if(C1 h.at_).1=n then(if h.vs.length≤Lm rev h.vs then none else some ⟨h.at_,h.vs.drop (Lm rev h.vs)⟩)else some h
theorem Ahp{n:Az}{rev:Int}:∀{l:List Zk} {x:CSt},(Mz n rev l x).l=x.l++l.filterMap (Pf n rev)∧x.c≤(Mz n rev l x).c∧∀m:Nat,(∀h∈l,h.vs.length≤m)→(Mz n rev l x).c≤x.c+l.length*m
 | [],x=>⟨by simp[Mz],Ata _,fun m _=>by simp[Mz]⟩
 |h::r,x=>by
  obtain⟨i1,i2,i3⟩:=Ahp (n:=n) (rev:=rev) (l:=r) (x:=Uy n rev h x);unfold Mz;rw[i1,Fp];have hs:(Uy n rev h x).l=x.l++(Pf n rev h).toList∧x.c≤(Uy n rev h x).c∧(Uy n rev h x).c≤x.c+h.vs.length:=by
   unfold Uy Pf;split
   ·split
    ·exact⟨by simp,Ata _,by omega⟩
    ·exact⟨by simp,by(try dsimp only);omega,by(try dsimp only);omega⟩
   ·exact⟨by simp,Ata _,by dsimp only;omega⟩
  refine⟨?_,by omega,fun m hm=>?_⟩
  ·rw[hs.1,Df];cases Pf n rev h<;>rfl
  ·have h1:=i3 m fun h hh=>hm h (B4 _ hh)
   have h2:=hm h (B2 ..);rw[Ho];have h3:((r.length+1:Nat):Int)*(m:Int)=r.length*m+m:=by rw[Int.natCast_add,Int.add_mul];simp
   omega
theorem Agy{n:Az}{rev:Int}{h h':Zk}(e:Pf n rev h=some h'):h'.at_=h.at_∧∃k,h'.vs=h.vs.drop k∧(h.vs≠[]→h'.vs≠[]):=by
 unfold Pf at e;split at e
 ·split at e
  ·cases e
  ·rename_i hk;cases e;exact⟨rfl,_,rfl,fun _ hn=>by rw[List.drop_eq_nil_iff]at hn;omega⟩
 ·cases e;exact⟨rfl,0,rfl,fun h=>h⟩
theorem Ah1{n:Az}{rev:Int}:∀{l:List Zk},((l.filterMap (Pf n rev)).map Zk.at_).Sublist (l.map Zk.at_)
 | []=>by simp
 |h::r=>by
  rw[Fp];cases e:Pf n rev h with
  |none=>exact List.Sublist.cons _ Ah1
  |some h'=>
   dsimp only;rw[Cy,Cy,(Agy e).1];exact List.Sublist.cons_cons _ Ah1
def Cn.Anu(s:Cn)(n:Az)(rev:Int):Cn × Int:=match s.fi n with
 |none=>(s,16)
 |some i=>if s.Aw1 n rev=0 then(⟨s.sp.set i (n,{s.Zp n with floor:=rev,Aq7:=(Mz n rev s.l ⟨[],0⟩).c}),(Mz n rev s.l ⟨[],0⟩).l⟩,0)else(s,s.Aw1 n rev)
theorem Aht{s:Cn}{n:Az}{rev:Int}(h:s.Aw1 n rev=0):0≤rev∧rev≤(s.Zp n).rev∧(s.Zp n).floor≤rev:=by
 unfold Cn.Aw1 at h;split at h
 ·omega
 ·split at h
  ·omega
  ·split at h<;>omega
theorem Akb.comp{m:Nat}{s:Cn}(h:Akb m s)(hm:m≤80000)(n:Az)(rev:Int):Akb m (s.Anu n rev).1:=by
 unfold Cn.Anu;split
 ·exact h
 ·rename_i i hi;split
  ·rename_i he;obtain⟨e1,e2,e3⟩:=Aht he;obtain⟨c1,c2,c3⟩:=Ahp (n:=n) (rev:=rev) (l:=s.l) (x:=⟨[],0⟩);have c4:=c3 80000 fun h' hh=>Kq (h.lb.held h' hh).2.2.1 hm
   generalize Mz n rev s.l ⟨[],0⟩=Z at*;dsimp only at c1 c2 c4 ⊢;rw[H4]at c1;have hlen:=h.lb.len;have hc:Z.c≤10000000000:=by
    have:(s.l.length:Int)*80000≤80000*80000:=by omega
    omega
   obtain⟨t1,t2,t3⟩:=h.tb n;have hrv:=h.rv n;have Aw4:∀x∈Z.l,∃y∈s.l,Pf n rev y=some x:=fun x hx=>by
    rw[c1]at hx;obtain⟨y,hy,hyx⟩:=Ajj.1 hx;exact⟨y,hy,hyx⟩
   refine⟨⟨?_,fun x hx=>?_⟩,fun n'=>?_,fun n'=>?_,⟨?_,fun x hx=>?_⟩,?_,?_⟩
   ·dsimp only;rw[c1];exact Kq (Anb _ _) hlen
   ·obtain⟨y,hy,e⟩:=Aw4 x hx;obtain⟨a1,k,a2,a3⟩:=Agy e;obtain⟨b1,b2,b3,b4⟩:=h.lb.held y hy;refine⟨by rw[a1];exact b1,a3 b2,by rw[a2,Ei];omega,fun v hv=>?_⟩
    rw[a2]at hv;exact b4 v (Agw hv)
   ·rw[Mi hi];split
    ·exact⟨t1,t2,⟨by dsimp only;omega,by dsimp only;omega⟩⟩
    ·exact h.tb n'
   ·rw[Mi hi];split
    ·dsimp only;omega
    ·exact h.rv n'
   ·dsimp only;rw[c1];exact List.Pairwise.sublist Ah1 h.wi.1
   ·obtain⟨y,hy,e⟩:=Aw4 x hx;obtain⟨a1,k,a2,a3⟩:=Agy e;obtain⟨b1,b2,b3⟩:=h.wi.2 y hy;refine⟨by rw[a1];exact b1,by rw[a2];exact b2.drop k,fun v hv=>?_⟩
    rw[a2]at hv;have h1:=b3 v (Agw hv);refine⟨h1.1,?_⟩;dsimp only;rw[Mi hi,a1];split
    ·rename_i e;have h9:=h1.2;dsimp only at h9;rw[e]at h9;exact h9
    ·exact h1.2
   ·intro x hx;rcases Ain hx with hx|rfl
    ·exact h.nm x hx
    ·exact h.name hi
   ·rw[Agj hi];exact h.nd
  ·exact h
set_option maxRecDepth 100000
set_option maxHeartbeats 4000000

open Go.Proofs
def A8(s:Az)(k lo hi:Int):Bool:=match s[k.toNat]? with
 |some c=>decide (lo≤(c.toNat:Int)∧(c.toNat:Int)≤hi)
 |none=>false
theorem A57(s:Az)(k lo hi:Int)(h0:0≤k):Fn Tryd.prog A03 [.v (.str s),.v (.int .i64 k),.v (.int .u8 lo),.v (.int .u8 hi)] (Is (.v (.bool (A8 s k lo hi))) [.no,.no,.no,.no]):=by
 refine A0z ?_ (by simp)
 by_cases hk:k.toNat<s.length
 ·obtain⟨c,hc⟩:∃c,s[k.toNat]?=some c:=⟨_,Ae hk⟩;have Ze:¬decide (k<(s.length:Int))=false:=by simp;omega
  repeat'((conv=>whnf);first|(refine A5 (fun hb=>?_) (fun hb=>?_)<;>first|(exact absurd hb (by first|assumption|decide))|((try rw[hb]);(try simp only[Aa]at hb)))|(refine Ac ?_ ?_;focus (and_intros<;>first|omega|exact rfl))|(intro Cq)|((try dsimp only);rw[hc]))
  all_goals(try(conv=>whnf))
  all_goals(refine Am1.mk ⟨SV.Aju ?_,by kernel_rfl⟩ (by kernel_rfl))
  all_goals(simp only[A8,hc];simp at*;first|done|omega|grind)
 ·have Ze:¬decide (k<(s.length:Int))=true:=by simp;omega
  repeat'((conv=>whnf);first|(refine A5 (fun hb=>?_) (fun hb=>?_)<;>first|(exact absurd hb (by first|assumption|decide))|((try rw[hb]);(try simp only[Aa]at hb)))|(refine Ac ?_ ?_;focus (and_intros<;>exact rfl))|(intro Cq))
  all_goals(try(conv=>whnf))
  refine Am1.mk ⟨SV.Aju ?_,by kernel_rfl⟩ (by kernel_rfl)
  simp[A8,Aic (show s.length≤k.toNat by omega)]
def Fv(s:Az)(k n:Nat):Bool:=(List.range n).all fun i=>A8 s ((k+i:Nat):Int) 128 191
theorem A5c(s:Az)(k n:Nat)(hk:k≤10)(hn:n≤10):Fn Tryd.prog A14 [.v (.str s),.v (.int .i64 k),.v (.int .i64 n)] (Is (.v (.bool (Fv s k n))) [.no,.no,.no]):=by
 refine A1x ?_ (by simp)
 (skip)
 all_goals(try(conv=>whnf))
 refine Afm.by (X:=Nat) (fun x=>[(7,.v (.int .i64 x))]) (fun x=>x≤n∧Fv s k x=true) (fun x=>n - x) 0 (by kernel_rfl) ⟨Cr _,rfl⟩ ?_
 rintro x ⟨h1,h2⟩;by_cases hx:x<n
 ·have Ze:¬decide ((x:Int)<(n:Int))=false:=by simp[hx]
  have hw:IntKind.i64.wrap ((k:Int)+(x:Int))=((k+x:Nat):Int):=by
   rw[show(k:Int)+(x:Int)=((k+x:Nat):Int)by omega];exact Bf (by omega)
  have hs:=A57 s ((k+x:Nat):Int) 128 191 (by omega)
  repeat'((conv=>whnf);first|(refine A5 (fun hb=>?_) (fun hb=>?_)<;>first|(exact absurd hb (by assumption))|((try rw[hb]);(try simp only[Aa]at hb)))|(refine Ac ?_ ?_;focus (and_intros<;>first|(intro _ hh;cases hh;done)|(simp;done)|decide))|((try dsimp only);rw[hw])|(refine Ct.mk ⟨_,hs,?_⟩;rintro _ _ ⟨rfl,rfl⟩))
  all_goals(try(conv=>whnf))
  ·rename_i hb;refine Am1.mk ⟨SV.Aju ?_,by kernel_rfl⟩ (by kernel_rfl)
   try simp only[Ad8]at hb
   symm;simp only[Fv,List.all_eq_false,Agu];exact⟨x,hx,by rw[hb];decide⟩
  ·rename_i hb;refine Round.by (x+1) ?_ ⟨hx,?_⟩ (by omega)
   ·rw[Dk hx (by simp only[maxLen];omega)]
    show norm _ _=upd _ _
    kernel_rfl
   ·unfold Fv at h2 ⊢;rw[List.range_succ,List.all_append,h2];try simp only[Bool.not_eq_false']at hb
    simp only[List.all_cons,List.all_nil,Bool.and_true,Bool.true_and];exact hb
 ·have Ze:¬decide ((x:Int)<(n:Int))=true:=by simp;omega
  have:x=n:=by omega
  subst this;repeat'((conv=>whnf);(refine A5 (fun hb=>?_) (fun hb=>?_)<;>first|(exact absurd hb (by assumption))|((try rw[hb]);(try simp only[Aa]at hb))))
  all_goals(try(conv=>whnf))
  refine Am1.mk ⟨SV.Aju ?_,by kernel_rfl⟩ (by kernel_rfl)
  exact h2.symm
def G9(s:Az):Int:=
 if A8 s 0 0 127 then 1
 else if(A8 s 0 194 223&&Fv s 1 1)then 2
 else if(Fv s 1 2&&((A8 s 0 224 224&&A8 s 1 160 191)||A8 s 0 225 236||(A8 s 0 237 237&&A8 s 1 128 159)||A8 s 0 238 239))then 3
 else if(Fv s 1 3&&((A8 s 0 240 240&&A8 s 1 144 191)||A8 s 0 241 243||(A8 s 0 244 244&&A8 s 1 128 143)))then 4
 else 0
theorem Bhk(s:Az):Fn Tryd.prog Axa [.v (.str s)] (Is (.v (.int .i64 (G9 s))) [.no]):=by
 refine A1w ?_ (by simp)
 have t1:=A5c s 1 1 (by omega) (by omega)
 have t2:=A5c s 1 2 (by omega) (by omega)
 have t3:=A5c s 1 3 (by omega) (by omega)
 repeat'((conv=>whnf);first|(refine A5 (fun hb=>?_) (fun hb=>?_)<;>first|(exact absurd hb (by decide))|((try rw[hb]);(try simp only[Aa]at hb)))|(refine Ac ?_ ?_;focus (and_intros<;>first|(intro _ hh;cases hh;done)|(simp;done)|decide))|(refine Ct.mk ⟨_,A57 _ _ _ _ (by omega),?_⟩;rintro _ _ ⟨rfl,rfl⟩)|(refine Ct.mk ⟨_,t1,?_⟩;rintro _ _ ⟨rfl,rfl⟩)|(refine Ct.mk ⟨_,t2,?_⟩;rintro _ _ ⟨rfl,rfl⟩)|(refine Ct.mk ⟨_,t3,?_⟩;rintro _ _ ⟨rfl,rfl⟩))
 all_goals(try(conv=>whnf))
 all_goals(refine Am1.mk ⟨congrArg (fun n=>SV.v (.int .i64 n)) ?_,by kernel_rfl⟩ (by kernel_rfl))
 all_goals(unfold G9;simp at*;grind)

open Go.Proofs
def E8(s:Az):Bool:=match s with
 | []=>false
 | [c]=>decide (32≤(c.toNat:Int))&&decide ((c.toNat:Int)≤126)&& !decide ((c.toNat:Int)=92)
 | [c,d]=>if(c.toNat:Int)=194 then decide (161≤(d.toNat:Int))else true
 |_=>true
theorem Bcx(s:Az):Fn Tryd.prog A02 [.v (.str s)] (Is (.v (.bool (E8 s))) [.no]):=by
 refine A0y ?_ (by simp)
 rcases s with _|⟨c,_|⟨d,_|⟨e,r⟩⟩⟩
 ·repeat'((conv=>whnf);first|(refine A5 (fun hb=>?_) (fun hb=>?_)<;>first|(exact absurd hb (by decide))|((try rw[hb]);(try simp only[Aa]at hb)))|(refine Ac ?_ ?_;focus (and_intros<;>exact rfl))|(intro Cq))
  all_goals(try(conv=>whnf))
  exact Am1.mk ⟨rfl,by kernel_rfl⟩ (by kernel_rfl)
 ·have h1:¬decide ((([c]:Az).length:Int)=1)=false:=by simp
  repeat'((conv=>whnf);first|(refine A5 (fun hb=>?_) (fun hb=>?_)<;>first|(exact absurd hb (by first|assumption|decide))|((try rw[hb]);(try simp only[Aa]at hb)))|(refine Ac ?_ ?_;focus (and_intros<;>first|omega|exact rfl))|(intro Cq))
  all_goals(try(conv=>whnf))
  all_goals(refine Am1.mk ⟨SV.Aju ?_,by kernel_rfl⟩ (by kernel_rfl))
  all_goals(simp[E8]at*;grind)
 ·have h1:¬decide ((([c,d]:Az).length:Int)=1)=true:=by simp
  have h2:¬decide ((([c,d]:Az).length:Int)=2)=false:=by simp
  have h3:¬decide (1<(([c,d]:Az).length:Int))=false:=by simp
  repeat'((conv=>whnf);first|(refine A5 (fun hb=>?_) (fun hb=>?_)<;>first|(exact absurd hb (by assumption))|((try rw[hb]);(try simp only[Aa]at hb)))|(refine Ac ?_ ?_;focus (and_intros<;>first|omega|exact rfl))|(intro Cq))
  all_goals(try(conv=>whnf))
  all_goals(refine Am1.mk ⟨SV.Aju ?_,by kernel_rfl⟩ (by kernel_rfl))
  all_goals(simp[E8]at*;grind)
 ·have h1:¬decide (((c::d::e::r:Az).length:Int)=1)=true:=by simp;omega
  have h2:¬decide (((c::d::e::r:Az).length:Int)=2)=true:=by simp;omega
  repeat'((conv=>whnf);first|(refine A5 (fun hb=>?_) (fun hb=>?_)<;>first|(exact absurd hb (by assumption))|((try rw[hb]);(try simp only[Aa]at hb)))|(refine Ac ?_ ?_;focus (and_intros<;>exact rfl))|(intro Cq))
  all_goals(try(conv=>whnf))
  all_goals(refine Am1.mk ⟨SV.Aju ?_,by kernel_rfl⟩ (by kernel_rfl))
  all_goals(simp[E8]at*;try grind)

open Go.Proofs
theorem A71{s:Az}{k:Nat}{lo hi:Int}(h:A8 s k lo hi=true):k<s.length:=by
 unfold A8 at h;split at h
 ·rename_i c hc;have:=(A7.1 hc).1;simpa using this
 ·cases h
theorem A6o{s:Az}{k n:Nat}(h:Fv s k n=true)(hn:0<n):k+n≤s.length:=by
 simp only[Fv,Aia,Agu]at h;have:=A71 (h (n - 1) (by omega))
 omega
theorem Bjf(s:Az):0≤G9 s∧G9 s≤s.length:=by
 unfold G9;split
 ·rename_i h;have:=A71 (k:=0) h;omega
 split
 ·rename_i h;simp only[Ap]at h;have:=A6o h.2 (by omega);omega
 split
 ·rename_i h;simp only[Ap]at h;have:=A6o h.1 (by omega);omega
 split
 ·rename_i h;simp only[Ap]at h;have:=A6o h.1 (by omega);omega
 omega
def A0f(k:Nat)(c:Int)(at':Nat)(piece:Az):Bool:=
 (decide (k=1)&& !((decide (97≤c)&&decide (c≤122))||(decide (48≤c)&&decide (c≤57))||decide (c=95)||(decide (c=45)&&decide (0<at'))))
 ||(decide (1<k)&& !E8 piece)
def Ey:Nat→Az→Nat→Nat→Bool
 |0,_,_,_=>false
 |f+1,s,at',n=>match s[at']? with
  |none=>decide (0<n)
  |some c=>
   let k:=(G9 (s.drop at')).toNat
   if k=0 then false
   else if A0f k c.toNat at' ((s.drop at').take k)=true then false
   else if 24<n+1 then false
   else Ey f s (at'+k) (n+1)
def D9(s:Az):Bool:=Ey (s.length+1) s 0 0
theorem Bhj(s:Az):Fn Tryd.prog A1o [.v (.str s)] (Is (.v (.bool (D9 s))) [.no]):=by
 refine A06 ?_ (by simp)
 (skip)
 all_goals(try(conv=>whnf))
 refine Afm.by (X:=Nat × Nat × Nat) (fun x=>[(3,.v (.int .i64 x.2.2)),(4,.v (.int .i64 x.2.1))]) (fun x=>Ey x.1 s x.2.1 x.2.2=D9 s∧s.length<x.1+x.2.1∧x.2.1≤s.length∧x.2.2≤24) (fun x=>s.length - x.2.1)
  (s.length+1,0,0) (by kernel_rfl) ⟨rfl,by dsimp only;omega,Cr _,Cr _⟩ ?_
 rintro⟨f,p,n⟩ ⟨h1,h2,h3,h4⟩;dsimp only at h1 h2 h3 h4 ⊢;obtain⟨f,rfl⟩:∃g,f=g+1:=⟨f - 1,by omega⟩
 by_cases hp:p<s.length
 case neg=>
  have Ze:¬decide ((p:Int)<(s.length:Int))=true:=by simp;omega
  repeat'((conv=>whnf);first|(refine A5 (fun hb=>?_) (fun hb=>?_)<;>first|(exact absurd hb (by assumption))|((try rw[hb]);(try simp only[Aa]at hb)))|(refine Ac ?_ ?_;focus (and_intros<;>exact rfl))|(intro Cq))
  all_goals(try(conv=>whnf))
  refine Am1.mk ⟨SV.Aju ?_,by kernel_rfl⟩ (by kernel_rfl)
  rw[←h1,Ey,Aic (by omega)]
  simp
 obtain⟨c,hc⟩:∃c,s[p]?=some c:=⟨_,Ae hp⟩;have hg:s[Int.toNat (p:Int)]?=some c:=hc;have Ze:¬decide ((p:Int)<(s.length:Int))=false:=by simp[hp]
 have Hr:=Bjf (s.drop p);have hs:=Bhk (s.drop p);rw[Ey,hc]at h1;dsimp only at h1;obtain⟨k,hk⟩:∃k:Nat,G9 (s.drop p)=k:=⟨(G9 (s.drop p)).toNat,by omega⟩
 rw[hk]at hs h1 Hr;have hs':Fn Tryd.prog Axa [.v (.str ((s.take s.length).drop p))] (Is (.v (.int .i64 k)) [.no]):=by rw[Aoy];exact hs
 rw[Ei]at Hr;simp only[Anj]at h1;have hw:s.length≤maxLen→IntKind.i64.wrap ((p:Int)+(k:Int))=((p+k:Nat):Int):=fun hm=>by
  rw[show(p:Int)+(k:Int)=((p+k:Nat):Int)by omega];exact Bf (by simp only[maxLen]at hm;omega)
 have hwn:IntKind.i64.wrap ((n:Int)+1)=((n+1:Nat):Int):=Dk (n:=25) (by omega) (by simp only[maxLen];omega)
 have hpc:((s.drop p).take k)=(s.take (p+k)).drop p:=by rw[List.drop_take];congr 1;omega
 have hit:=Bcx ((s.take (p+k)).drop p);have hpk:((p+k:Nat):Int)≤(s.length:Int):=by omega
 have hpp:(p:Int)≤((p+k:Nat):Int):=by omega
 rw[hpc]at h1;obtain⟨b,hb0⟩:∃b,E8 ((s.take (p+k)).drop p)=b:=⟨_,rfl⟩;rw[hb0]at hit;unfold A0f at h1;rw[hb0]at h1;rcases Nat.lt_or_ge k 1 with hk0|hk0
 ·have n1:¬decide ((k:Int)=0)=false:=by simp;omega
  rw[if_pos (by omega)]at h1
  repeat'((conv=>whnf);first|(refine A5 (fun hb=>?_) (fun hb=>?_)<;>first|(exact absurd hb (by assumption))|((try rw[hb]);(try simp only[Aa]at hb)))|(refine Ac ?_ ?_;focus (and_intros<;>first|omega|exact rfl|(intro _ hh;cases hh;done)|(simp;done)|decide))|(intro Cq)|(refine Ct.mk ⟨_,hs',?_⟩;rintro _ _ ⟨rfl,rfl⟩))
  all_goals(try(conv=>whnf))
  exact Am1.mk ⟨SV.Aju h1,by kernel_rfl⟩ (by kernel_rfl)
 rw[if_neg (by omega)]at h1
 have n1:¬decide ((k:Int)=0)=true:=by simp;omega
 rcases Nat.lt_or_ge 1 k with hk1|hk1
 ·have n2:¬decide ((k:Int)=1)=true:=by simp;omega
  have n3:¬decide (1<(k:Int))=false:=by simp;omega
  repeat'((conv=>whnf);first|(refine A5 (fun hb=>?_) (fun hb=>?_)<;>first|(exact absurd hb (by first|assumption|decide))|((try rw[hb]);(try simp only[Aa]at hb);(try subst hb)))|(refine Ac ?_ ?_;focus (and_intros<;>first|omega|exact rfl|(intro _ hh;cases hh;done)|(simp;done)|decide))|(intro Cq)|((try dsimp only);rw[hg])|(refine Ct.mk ⟨_,hs',?_⟩;rintro _ _ ⟨rfl,rfl⟩)|(refine Ct.mk ⟨_,hit,?_⟩;rintro _ _ ⟨rfl,rfl⟩)|((try dsimp only);rw[hw (by assumption)])|(skip;rw[hwn]))
  all_goals(try(conv=>whnf))
  all_goals first
   |(refine Am1.mk ⟨SV.Aju ?_,by kernel_rfl⟩ (by kernel_rfl);rw[←h1];simp at*;grind)
   |(refine Round.by (f,p+k,n+1) ?_ ⟨?_,by dsimp only;omega,by dsimp only;omega,?_⟩ (by dsimp only;omega)
     ·dsimp only;show norm _ _=upd _ _
      kernel_rfl
     ·dsimp only;rw[←h1];simp at*;grind
     ·dsimp only;simp at*;omega)
 ·have n2:¬decide ((k:Int)=1)=false:=by simp;omega
  have n3:¬decide (1<(k:Int))=true:=by simp;omega
  repeat'((conv=>whnf);first|(refine A5 (fun hb=>?_) (fun hb=>?_)<;>first|(exact absurd hb (by first|assumption|decide))|(exfalso;((simp only[An]at hb<;>omega)))|((try rw[hb]);(try simp only[Aa]at hb)))|(refine Ac ?_ ?_;focus (and_intros<;>first|omega|exact rfl|(intro _ hh;cases hh;done)|(simp;done)|decide))|(intro Cq)|((try dsimp only);rw[hg])|(refine Ct.mk ⟨_,hs',?_⟩;rintro _ _ ⟨rfl,rfl⟩)|(skip;rw[hw (by assumption)])|(skip;rw[hwn]))
  all_goals(try(conv=>whnf))
  all_goals first
   |(refine Am1.mk ⟨SV.Aju ?_,by kernel_rfl⟩ (by kernel_rfl);rw[←h1];simp at*;grind)
   |(refine Round.by (f,p+k,n+1) ?_ ⟨?_,by dsimp only;omega,by dsimp only;omega,?_⟩ (by dsimp only;omega)
     ·dsimp only;show norm _ _=upd _ _
      kernel_rfl
     ·dsimp only;rw[←h1];simp at*;grind
     ·dsimp only;simp at*;omega)

theorem Ajc(s:Az):(G9 s).toNat≤4:=by
 unfold G9;repeat' split
 all_goals decide
theorem Ahv:∀{f:Nat} {s:Az} {a n:Nat},Ey f s a n=true→s.length≤a+4*(24 - n)
 |0,s,a,n,h=>by simp[Ey]at h
 |f+1,s,a,n,h=>by
  unfold Ey at h;split at h
  ·rename_i hs;have:=List.getElem?_eq_none_iff.1 hs;omega
  ·dsimp only at h;have hk:=Ajc (s.drop a);generalize (G9 (s.drop a)).toNat=k at h hk;split at h
   ·cases h
   ·split at h
    ·cases h
    ·split at h
     ·cases h
     ·have:=Ahv h;omega
theorem Aha{s:Az}(h:D9 s=true):s.length<256:=by
 have:=Ahv h;omega
structure Opn where
 k:Int
 n:Az
 l:List Ef
 x:Sp
 rev:Int
 most:Int
def Opn.Bx(o:Opn):I:=.agg [ti o.k,.str o.n,.list (o.l.map Ef.Bx),o.x.Bx,ti o.rev,ti o.most]
def Cn.Ay2(s:Cn)(o:Opn):Cn:=if o.k=0 then(s.Acg o.n o.l).1 else if o.k=2 then(s.Anu o.n o.rev).1 else if o.k=3 then(s.Aqk (D9 o.n) o.n).1 else s
theorem Akb.step{m:Nat}{s:Cn}(h:Akb m s)(o:Opn)(hm:m≤80000):Akb (m+o.l.length+1) (s.Ay2 o):=by
 unfold Cn.Ay2;split
 ·exact h.write _ _
 ·split
  ·exact(h.comp hm _ _).mono (by omega)
  ·split
   ·exact(h.open _ Aha).mono (by omega)
   ·exact h.mono (by omega)
theorem Aiv{s:Cn}{n:Az}:(s.fi n).isSome=true↔n∈s.sp.map (·.1):=by
 unfold Cn.fi;rw[List.findIdx?_isSome,List.any_eq_true];constructor
 ·rintro⟨x,hx,e⟩;exact X4.2 ⟨x,hx,by simpa using e⟩
 ·intro h;obtain⟨x,hx,e⟩:=X4.1 h;exact⟨x,hx,by simpa using e⟩
theorem Ah4{s:Cn}{nm:Bool}{n n':Az}:(s.Aqk nm n).1.Zp n'=s.Zp n'∧(s.Aqk nm n).1.l=s.l:=by
 unfold Cn.Aqk;split
 ·exact⟨rfl,rfl⟩
 ·split
  ·exact⟨rfl,rfl⟩
  ·rename_i hf;split
   ·exact⟨rfl,rfl⟩
   ·exact⟨Aij (by simpa using hf) n',rfl⟩
theorem A4a{β:Type}{g:Zk→Option β}{n:Az}{F:List Ef}{R:Az→Int}{r:Int}(hn:n.length<256)(hr:0≤r)
 (h0:∀k v,r<v.rev→g ⟨B7 n k,[v]⟩=none) (h1:∀(h:Zk) k v,h.at_=B7 n k→VSo (h.vs++[v])→r<v.rev→g ⟨h.at_,h.vs++[v]⟩=g h):
 ∀{KK:List Az} {x:WSt},KK.Nodup→x.t.rev=r→Ayn (Avw n r R KK) x.l→(Ge n F KK x).l.filterMap g=x.l.filterMap g
 | [],x,_,_,_=>rfl
 |k::KK,x,hd,hx,h=>by
  obtain⟨d1,d2⟩:=Hw.1 hd;have h3:=Ag6 (x:=x) (R:=R) (c:=Anv F k) hn d1 (by omega) (by rw[hx];exact h)
  rw[hx]at h3;have ih:=A4a (F:=F) (g:=g) hn hr h0 h1 (KK:=KK) (x:=Dw n k (Anv F k) x) d2 ((Agt _ _ _ _).1.trans hx) h3;change (Ge n F KK (Dw n k (Anv F k) x)).l.filterMap g=_;rw[ih];rcases Q7 n k (Anv F k) x with e|⟨v,e1,e2,_⟩
  ·rw[e]
  ·rw[e2];refine A9o (h0 k v (by omega)) fun y hy e=>?_
   refine h1 y k v e ?_ (by omega)
   obtain⟨_,b2,b3⟩:=h.2 y hy;refine b2.snoc (u:=r) (fun w hw=>?_) (by omega)
   have h4:=(b3 w hw).2;rw[e]at h4;unfold Avw at h4;rw[Mt hn,if_pos rfl,if_pos (B2 ..)]at h4;exact h4
theorem A12{β:Type}{g:Zk→Option β}{m:Nat}{s:Cn}(h:Akb m s)(n:Az)(cs:List Ef) 
 (h0:∀k v,n.length<256→(s.Zp n).rev<v.rev→g ⟨B7 n k,[v]⟩=none) (h1:∀(h:Zk) k v,n.length<256→h.at_=B7 n k→VSo (h.vs++[v])→(s.Zp n).rev<v.rev→g ⟨h.at_,h.vs++[v]⟩=g h):
 (s.Acg n cs).1.l.filterMap g=s.l.filterMap g:=by
 unfold Cn.Acg;split
 ·rfl
 ·rename_i i hi;split
  ·rfl
  ·rename_i F hF;obtain⟨f1,_,_⟩:=Agz hF (by simp) (by simp)
   have hn:=h.name hi;exact A4a (x:=⟨s.Zp n,s.l,false⟩) hn (by have:=h.rv n;omega) (fun k v hv=>h0 k v hn hv) (fun y k v a b c=>h1 y k v hn a b c) (Ahj f1) rfl (h.start n _)
theorem A18{α β:Type}{f g:α→Option β}:∀{l:List α},(∀x∈l,f x=g x)→l.filterMap f=l.filterMap g
 | [],_=>rfl
 |x::r,h=>by
  rw[Fp,Fp,h x (B2 ..),A18 fun y hy=>h y (B4 _ hy)]
theorem A6u{β:Type}{g:Zk→Option β}{s:Cn}(n:Az)(rev:Int)(hg:s.Aw1 n rev=0→(s.fi n).isSome=true→∀h∈s.l,(Pf n rev h).bind g=g h):
 (s.Anu n rev).1.l.filterMap g=s.l.filterMap g:=by
 unfold Cn.Anu;split
 ·rfl
 ·rename_i i hi;split
  ·rename_i he;have hg:=hg he (by rw[hi];rfl)
   obtain⟨c1,_⟩:=Ahp (n:=n) (rev:=rev) (l:=s.l) (x:=⟨[],0⟩);dsimp only;rw[c1,H4,List.filterMap_filterMap];exact A18 hg
  ·rfl
theorem Ar0{n:Az}{rev:Int}{h:Zk}(e:(C1 h.at_).1≠n):gV n rev h=none:=by unfold gV;rw[if_neg (fun c=>e c.1)]
theorem Bhp{m:Nat}{s:Cn}(h:Akb m s)(o:Opn){n:Az}{rev:Int}(hr:rev≤(s.Zp n).rev)(hf:((s.Ay2 o).Zp n).floor≤rev):
 Lh n rev (s.Ay2 o).l=Lh n rev s.l:=by
 unfold Lh;unfold Cn.Ay2 at hf ⊢;split
 ·refine A12 h _ _ (fun k v hn hv=>?_) (fun y k v hn e hs hv=>?_)
  ·by_cases e:o.n=n
   ·rw[e]at hv;unfold gV;rw[Bcz (by omega),if_neg (fun c=>by cases c.2)]
   ·exact Ar0 (by dsimp only;rw[Mt hn];exact e)
  ·by_cases e2:o.n=n
   ·rw[e2]at hv;unfold gV;rw[A58 hs (by omega)]
   ·have:(C1 y.at_).1≠n:=by rw[e,Mt hn];exact e2
    rw[Ar0 this];exact Ar0 this
 ·rename_i h0;rw[if_neg h0]at hf;split
  ·rename_i h2;rw[if_pos h2]at hf;refine A6u _ _ fun he hi y hy=>?_
   unfold Pf;split
   ·rename_i e1;by_cases e2:o.n=n
    ·have hrr:o.rev≤rev:=by
      unfold Cn.Anu at hf;cases hfi:s.fi o.n with
      |none=>rw[hfi]at hi;cases hi
      |some i=>
       rw[hfi]at hf;dsimp only at hf;rw[if_pos he,Mi hfi,if_pos e2.symm]at hf;exact hf
     have ht:=Be0 hrr (h.wi.2 y hy).2.1;split
     ·rename_i hk;rw[Db hk]at ht;rw[show D1 [] rev=(A11,false)from rfl]at ht;unfold gV;rw[←ht,if_neg (fun c=>by cases c.2)]
      rfl
     ·simp only[Option.bind_some];unfold gV;rw[ht]
    ·have:(C1 y.at_).1≠n:=by rw[e1];exact e2
     rw[Ar0 this];split
     ·rfl
     ·simp only[Option.bind_some];exact Ar0 this
   ·rfl
  ·split
   ·rw[(Ah4 (n':=[])).2]
   ·rfl
theorem Akb.bd{m:Nat}{s:Cn}(h:Akb m s)(hm:m≤80000):s.Bd:=⟨by have:=h.lb.len;omega,fun x hx=>by obtain⟨a,b,c,_⟩:=h.lb.held x hx;exact⟨a,b,by omega⟩⟩
theorem Aqt{m:Nat}{s:Cn}(h:Akb m s){n:Az}(hf:(s.fi n).isSome=true){x:Sp}(hx:SpR x){rev most:Int}(hr:0≤rev∧rev≤(s.Zp n).rev∧(rev=0∨(s.Zp n).floor≤rev))(hm:1≤most∧most≤16):
 s.An4 n x rev most=((Ee x most (Lh n (if rev=0 then(s.Zp n).rev else rev) s.l) []).1,(Ee x most (Lh n (if rev=0 then(s.Zp n).rev else rev) s.l) []).2,0):=by
 obtain⟨i,hi⟩:=Asz.1 hf;unfold Cn.An4;rw[if_neg (by rw[hi];simp),if_neg (fun c=>c ⟨hx,by omega,by omega,by omega⟩),if_neg (by omega),if_neg (by omega)]
 rw[Am9 (h.name hi) h.wi.1 fun y hy=>(h.wi.2 y hy).1]
set_option maxHeartbeats 40000000

theorem Aik:∀{p k:Az},(p≤k∧k<p++[0])↔k=p
 | [],[]=>by simp
 | [],x::k=>by
   simp only[H4];rw[List.cons_lt_cons_iff];have h1:¬x<0:=by
    intro h;have:=UInt8.lt_iff_toNat_lt.1 h;simp at this
   have h2:¬k<[]:=List.not_lt_nil k;simp[h1,h2]
 |a::p,[]=>by simp
 |a::p,x::k=>by
  have ih:=Aik (p:=p) (k:=k);simp only[H3];rw[List.cons_le_cons_iff,List.cons_lt_cons_iff,Ajg, ←ih];constructor
  ·rintro⟨h3,h4⟩;rcases h3 with h3|⟨rfl,h3⟩
   ·rcases h4 with h4|⟨rfl,_⟩
    ·exact absurd (UInt8.lt_trans h3 h4) (Asw _)
    ·exact absurd h3 (Asw _)
   ·rcases h4 with h4|⟨_,h4⟩
    ·exact absurd h4 (Asw _)
    ·exact⟨rfl,h3,h4⟩
  ·rintro⟨rfl,h3,h4⟩;exact⟨.inr ⟨rfl,h3⟩,.inr ⟨rfl,h4⟩⟩
end Go.Ab
