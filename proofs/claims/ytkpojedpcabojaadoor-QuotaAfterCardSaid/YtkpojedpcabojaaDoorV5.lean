/- Lemmas -/
import Derived.Test.YtkpojedpcabojaaDoorW6
set_option linter.unusedVariables false
set_option linter.unusedSimpArgs false
namespace Go.Ab
theorem Ajm{l:List Hld}{a:Az}{v:Ver}{h:Hld}(hh:h∈putA l a v):h∈l∨h=⟨a,[v]⟩∨∃e∈l,e.at_=a∧h=⟨a,e.vs++[v]⟩:=by
 unfold putA putL at hh;split at hh
 ·rename_i hf;obtain⟨e,h2,h3⟩:=Afp hf;rw[Zv h2]at hh;have h4:e.at_=a:=by simpa[eqH]using h3
  rcases List.mem_or_eq_of_mem_set hh with h|rfl
  ·exact .inl h
  ·exact .inr (.inr ⟨e,List.mem_of_getElem? h2,h4,by rw[h4]⟩)
 ·rcases List.mem_append.1 hh with h|h
  ·exact .inl (List.mem_of_mem_take h)
  ·rcases List.mem_cons.1 h with rfl|h
   ·exact .inr (.inl rfl)
   ·exact .inl (List.mem_of_mem_drop h)
theorem Ajt{l:List Hld}{a:Az}{v:Ver}(hl:LSo l):LSo (putA l a v):=by
 unfold putA putL;split
 ·rename_i hf;obtain⟨e,h2,h3⟩:=Afp hf;rw[Zv h2,LSo,List.map_set];rw[List.set_getElem?_self' (l:=l.map Hld.at_) (by rw[List.getElem?_map,h2];rfl)]
  exact hl
 ·rename_i hf;have hl':=hl;rw[LSo,List.pairwise_map]at hl';obtain⟨h1,h2⟩:=Aho (lt:=Kh a) (l:=l) (hl'.imp fun {x y} hab hb=>by simp only[Kh,decide_eq_true_eq]at*;exact List.lt_trans hab hb)
  have hgt:∀x∈l.drop (Km (Kh a) l),a<x.at_:=by
   intro x hx;have h3:=h2 x hx;simp only[Kh,decide_eq_false_iff_not]at h3;obtain⟨j,hj,rfl⟩:=List.mem_iff_getElem.1 hx;rw[List.length_drop]at hj;rw[List.getElem_drop]at h3 ⊢;have hne:l[Km (Kh a) l+j].at_≠a:=by
    intro e;cases j with
    |zero=>
     apply hf;unfold bsF;rw[List.getElem?_eq_getElem (show Km (Kh a) l<l.length by omega)]
     simp only[Option.any_some,eqH,decide_eq_true_eq];exact e
    |succ j=>
     have h4:=List.pairwise_iff_getElem.1 hl' (Km (Kh a) l) (Km (Kh a) l+(j+1)) (by omega) (by omega) (by omega)
     rw[e]at h4;have h5:=h2 (l[Km (Kh a) l]'(by omega)) (by rw[List.drop_eq_getElem_cons (by omega)];exact List.mem_cons_self ..)
     simp only[Kh,decide_eq_false_iff_not]at h5;exact h5 h4
   exact Std.lt_of_le_of_ne (List.not_lt.1 h3) (Ne.symm hne)
  rw[LSo,List.map_append,List.map_cons,List.pairwise_append,List.pairwise_cons];rw[LSo]at hl;refine⟨?_,⟨?_,?_⟩,?_⟩
  ·rw[List.map_take];exact List.Pairwise.sublist (List.take_sublist _ _) hl
  ·intro y hy;obtain⟨x,hx,rfl⟩:=List.mem_map.1 hy;exact hgt x hx
  ·rw[List.map_drop];exact List.Pairwise.sublist (List.drop_sublist _ _) hl
  ·intro y hy z hz;obtain⟨x,hx,rfl⟩:=List.mem_map.1 hy;have h3:=h1 x hx;simp only[Kh,decide_eq_true_eq]at h3;rcases List.mem_cons.1 hz with rfl|hz
   ·exact h3
   ·obtain⟨w,hw,rfl⟩:=List.mem_map.1 hz;exact List.lt_trans h3 (hgt w hw)
def WInv(U:Az→Int)(l:List Hld):Prop:=LSo l∧∀h∈l,Lies h.at_∧VSo h.vs∧∀v∈h.vs,1≤v.rev∧v.rev≤U h.at_
theorem VSo.snoc{vs:List Ver}{v:Ver}{u:Int}(h:VSo vs)(hu:∀x∈vs,x.rev≤u)(hv:u<v.rev):VSo (vs++[v]):=by
 rw[VSo,List.pairwise_append];refine⟨h,by simp,fun x hx y hy=>?_⟩
 simp only[List.mem_singleton]at hy;subst hy;have:=hu x hx;omega
theorem WInv.put{U U':Az→Int}{l:List Hld}{a:Az}{v:Ver}(h:WInv U l)(hU:∀x,U x≤U' x)(h1:1≤v.rev)(h2:U a<v.rev)(h3:v.rev≤U' a)(ha:Lies a):WInv U' (putA l a v):=by
 refine⟨Ajt h.1,fun x hx=>?_⟩
 rcases Ajm hx with hx|rfl|⟨e,he,hea,rfl⟩
 ·obtain⟨a1,a2,a3⟩:=h.2 x hx;exact⟨a1,a2,fun v hv=>⟨(a3 v hv).1,Int.le_trans (a3 v hv).2 (hU _)⟩⟩
 ·exact⟨ha,by simp[VSo],fun w hw=>by simp only[List.mem_singleton]at hw;subst hw;exact⟨h1,h3⟩⟩
 ·obtain⟨a1,a2,a3⟩:=h.2 e he;rw[hea]at a3;refine⟨ha,a2.snoc (fun x hx=>(a3 x hx).2) h2,fun w hw=>?_⟩
  rcases List.mem_append.1 hw with hw|hw
  ·exact⟨(a3 w hw).1,Int.le_trans (a3 w hw).2 (hU _)⟩
  ·simp only[List.mem_singleton]at hw;subst hw;exact⟨h1,h3⟩
def bndW(n:Az)(r:Int)(R:Az→Int)(KK:List Az)(a:Az):Int:=if(C1 a).1=n then(if(C1 a).2.1∈KK then r else r+1)else R (C1 a).1
theorem Q7(n k:Az)(c:Chg)(x:WSt):Dw n k c x=x∨∃v,v.rev=x.t.rev+1∧(Dw n k c x).l=putA x.l (B7 n k) v∧(Dw n k c x).w=true:=by
 unfold Dw;dsimp only;split
 ·exact .inl rfl
 ·right;split
  ·exact⟨_,rfl,rfl,rfl⟩
  ·split
   ·exact⟨_,rfl,rfl,rfl⟩
   ·exact⟨_,rfl,rfl,rfl⟩
theorem Agt(n k:Az)(c:Chg)(x:WSt):(Dw n k c x).t.rev=x.t.rev∧(Dw n k c x).t.floor=x.t.floor:=by
 unfold Dw;dsimp only;split
 ·exact⟨rfl,rfl⟩
 ·split
  ·exact⟨rfl,rfl⟩
  ·split<;>exact⟨rfl,rfl⟩
theorem Ah2{n:Az}{r:Int}{R:Az→Int}{k:Az}{KK:List Az}(a:Az):bndW n r R (k::KK) a≤bndW n r R KK a:=by
 unfold bndW;split
 ·split<;>split
  ·omega
  ·omega
  ·rename_i h1 h2;exact absurd (List.mem_cons_of_mem _ h2) h1
  ·omega
 ·omega
theorem Ag6{n k:Az}{c:Chg}{x:WSt}{R:Az→Int}{KK:List Az}(hn:n.length<256)(hk:k ∉ KK)(hr:0≤x.t.rev)(h:WInv (bndW n x.t.rev R (k::KK)) x.l):
 WInv (bndW n x.t.rev R KK) (Dw n k c x).l:=by
 rcases Q7 n k c x with e|⟨v,h1,h2,_⟩
 ·rw[e];exact⟨h.1,fun y hy=>⟨(h.2 y hy).1,(h.2 y hy).2.1,fun v hv=>⟨((h.2 y hy).2.2 v hv).1,Int.le_trans ((h.2 y hy).2.2 v hv).2 (Ah2 _)⟩⟩⟩
 ·rw[h2];have hw:C1 (B7 n k)=(n,k,true):=Mt hn;refine h.put Ah2 (by omega) ?_ ?_ ⟨n,k,rfl,hn⟩
  ·unfold bndW;rw[hw,if_pos rfl,if_pos (List.mem_cons_self ..)];omega
  ·unfold bndW;rw[hw,if_pos rfl,if_neg hk];omega
theorem Ahn{n:Az}{F:List Chg}{R:Az→Int}(hn:n.length<256):∀{KK:List Az} {x:WSt},KK.Nodup→0≤x.t.rev→WInv (bndW n x.t.rev R KK) x.l→
 WInv (bndW n x.t.rev R []) (Ge n F KK x).l∧(Ge n F KK x).t.rev=x.t.rev∧(Ge n F KK x).t.floor=x.t.floor
 | [],x,_,_,h=>⟨h,rfl,rfl⟩
 |k::KK,x,hd,hr,h=>by
  obtain⟨h1,h2⟩:=List.nodup_cons.1 hd;obtain⟨t1,t2⟩:=Agt n k (Bv F k) x;have h3:=Ag6 (c:=Bv F k) hn h1 hr h;have ih:=Ahn (F:=F) (R:=R) hn (KK:=KK) (x:=Dw n k (Bv F k) x) h2 (by omega) (by rw[t1];exact h3)
  rw[t1,t2]at ih;exact ih
theorem Ah5{n:Az}{F:List Chg}:∀{KK:List Az} {x:WSt},(Ge n F KK x).w=false→Ge n F KK x=x
 | [],x,_=>rfl
 |k::KK,x,h=>by
  have ih:=Ah5 (n:=n) (F:=F) (KK:=KK) (x:=Dw n k (Bv F k) x) h;change Ge n F KK (Dw n k (Bv F k) x)=x;rw[ih];rcases Q7 n k (Bv F k) x with e|⟨v,_,_,h2⟩
  ·exact e
  ·have h3:(Ge n F KK (Dw n k (Bv F k) x)).w=false:=h;rw[ih,h2]at h3;cases h3
theorem Ah0{n:Az}{F:List Chg}(hn:n.length≤1000):∀{KK:List Az} {m m':Nat} {x:WSt},LBd m x.l→TBd m' x.t→(∀k∈KK,k.length≤64∧((Bv F k).gone=true∨(Bv F k).val.length≤256))→
 LBd (m+KK.length) (Ge n F KK x).l∧TBd (m'+KK.length) (Ge n F KK x).t
 | [],m,m',x,h1,h2,_=>⟨h1,h2⟩
 |k::KK,m,m',x,h1,h2,h3=>by
  obtain⟨a1,a2⟩:=h3 k (List.mem_cons_self ..);obtain⟨b1,b2,_,_⟩:=W4 (k:=k) (c:=Bv F k) h1 h2 hn a1 a2;obtain⟨c1,c2⟩:=Ah0 (F:=F) hn (KK:=KK) b1 b2 fun k hk=>h3 k (List.mem_cons_of_mem _ hk)
  rw[List.length_cons,show m+(KK.length+1)=m+1+KK.length by omega,show m'+(KK.length+1)=m'+1+KK.length by omega]
  exact⟨c1,c2⟩
theorem Agz:∀{cs F FF:List Chg},K6 cs F=some FF→(F.map Chg.key).Nodup→(∀c∈F,c.ok)→(FF.map Chg.key).Nodup∧(∀c∈FF,c.ok)∧FF.length≤F.length+cs.length
 | [],F,FF,h,h1,h2=>by
   have h:some F=some FF:=h;cases h;exact⟨h1,h2,by simp⟩
 |c::r,F,FF,h,h1,h2=>by
  unfold K6 at h;split at h
  ·rename_i hc;obtain⟨a,b,d⟩:=Agz h (U5 h1) fun x hx=>by
    rcases Zn hx with h|h
    ·exact h2 x h
    ·subst h;exact hc
   have:=Zm F c;exact⟨a,b,by simp only[List.length_cons];omega⟩
  ·cases h
theorem Aid{n:Az}{t:Tal}:∀{sp:List (Az × Tal)} {i:Nat},sp.findIdx? (fun x=>decide (x.1=n))=some i→∀n',((sp.set i (n,t)).find? fun x=>decide (x.1=n')).map (·.2)=if n'=n then some t else(sp.find? fun x=>decide (x.1=n')).map (·.2)
 | [],i,h,_=>by simp at h
 |x::sp,i,h,n'=>by
  rw[List.findIdx?_cons]at h;by_cases hx:x.1=n
  ·simp only[hx,decide_true,if_true,Option.some.injEq]at h;subst h;rw[List.set_cons_zero,List.find?_cons,List.find?_cons];by_cases hn:n'=n
   ·subst hn;simp
   ·have h1:¬n=n':=fun e=>hn e.symm
    have h2:¬x.1=n':=by rw[hx];exact h1
    simp[h1,h2,hn]
  ·simp only[hx,decide_false,Bool.false_eq_true,if_false,Option.map_eq_some_iff]at h;obtain⟨j,hj,rfl⟩:=h;rw[List.set_cons_succ,List.find?_cons,List.find?_cons];by_cases hn:x.1=n'
   ·have:¬n'=n:=by rw[←hn];exact hx
    simp[hn,this]
   ·simp only[hn,decide_false];exact Aid hj n'
theorem Mi{s:Sto}{n:Az}{i:Nat}{t:Tal}{l:List Hld}(h:s.fi n=some i)(n':Az):(Sto.mk (s.sp.set i (n,t)) l).tal n'=if n'=n then t else s.tal n':=by
 unfold Sto.tal;have:=Aid (t:=t) h n';simp only at this ⊢;rw[this];split<;>rfl
theorem Ajf{s s':Sto}(h:s'.sp.map (·.1)=s.sp.map (·.1))(n:Az):s'.fi n=s.fi n:=by
 have h1:∀s:Sto,s.fi n=(s.sp.map (·.1)).findIdx? (fun x=>decide (x=n)):=fun s=>by unfold Sto.fi;rw[List.findIdx?_map];rfl
 rw[h1,h1,h]
theorem Agj{s:Sto}{n:Az}{i:Nat}{t:Tal}{l:List Hld}(h:s.fi n=some i):(Sto.mk (s.sp.set i (n,t)) l).sp.map (·.1)=s.sp.map (·.1):=by
 obtain⟨_,_,h3⟩:=Sto.fi_some h;dsimp only;rw[List.map_set];exact List.set_getElem?_self' (by rw[List.getElem?_map,h3];rfl)
theorem Aij{s:Sto}{n:Az}(h:s.fi n=none)(n':Az):({s with sp:=s.sp++[(n,tal0)]}:Sto).tal n'=s.tal n':=by
 unfold Sto.tal;dsimp only;rw[List.find?_append];cases hf:s.sp.find? fun x=>decide (x.1=n')with
 |some x=>rfl
 |none=>
  simp only[Option.none_or];rw[List.find?_cons];split<;>simp
structure SInv(m:Nat)(s:Sto):Prop where
 lb:LBd m s.l
 tb:∀n,TBd m (s.tal n)
 rv:∀n,0≤(s.tal n).floor∧(s.tal n).floor≤(s.tal n).rev∧(s.tal n).rev≤m
 wi:WInv (fun a=>(s.tal (C1 a).1).rev) s.l
 nm:∀x∈s.sp,x.1.length<256
 nd:(s.sp.map (·.1)).Nodup
theorem SInv.mono{m m':Nat}{s:Sto}(h:SInv m s)(hm:m≤m'):SInv m' s:=
 ⟨h.lb.mono hm,fun n=>(h.tb n).mono hm,fun n=>by have:=h.rv n;omega,h.wi,h.nm,h.nd⟩
theorem Ajr:SInv 0 ⟨[],[]⟩:=by
 have ht:∀n,(Sto.mk [] []).tal n=tal0:=fun n=>rfl
 refine⟨⟨Nat.le_refl _,by intro h hh;cases hh⟩,fun n=>?_,fun n=>?_,⟨List.Pairwise.nil,by intro h hh;cases hh⟩,(by intro h hh;cases hh),List.nodup_nil⟩
 ·rw[ht];exact⟨by decide,by decide,by decide⟩
 ·rw[ht];decide
theorem SInv.name{m:Nat}{s:Sto}(h:SInv m s){n:Az}{i:Nat}(hf:s.fi n=some i):n.length<256:=by
 obtain⟨_,_,h3⟩:=Sto.fi_some hf;exact h.nm _ (List.mem_of_getElem? h3)
theorem Ahj{l:List Az}(h:l.Nodup):(Dc l).Nodup:=(List.mergeSort_perm ..).nodup_iff.2 h
theorem Ajd(l:List Az):(Dc l).length=l.length:=List.length_mergeSort _
theorem Aje{l:List Az}{k:Az}:k∈Dc l↔k∈l:=(List.mergeSort_perm ..).mem_iff
def Sto.writeM(s:Sto)(n:Az)(cs:List Chg):Sto × Int × Int:=match s.fi n with
 |none=>(s,0,16)
 |some i=>match K6 cs []with
  |none=>(s,0,1)
  |some F=>(⟨s.sp.set i (n,(Ge n F (Dc (F.map Chg.key)) ⟨s.tal n,s.l,false⟩).fin),(Ge n F (Dc (F.map Chg.key)) ⟨s.tal n,s.l,false⟩).l⟩,(Ge n F (Dc (F.map Chg.key)) ⟨s.tal n,s.l,false⟩).fin.rev,0)
theorem Ajq{FF:List Chg}(h:∀c∈FF,c.ok){k:Az}(hk:k∈Dc (FF.map Chg.key)):k.length≤64∧((Bv FF k).gone=true∨(Bv FF k).val.length≤256):=by
 obtain⟨q,_,h2,h3⟩:=Adz (Aje.1 hk);have h4:=h _ (List.mem_of_getElem? h2);exact⟨by rw[←h3];exact h4.1.2,h4.2⟩
theorem SInv.start{m:Nat}{s:Sto}(h:SInv m s)(n:Az)(KK:List Az):WInv (bndW n (s.tal n).rev (fun n=>(s.tal n).rev) KK) s.l:=by
 refine⟨h.wi.1,fun x hx=>⟨(h.wi.2 x hx).1,(h.wi.2 x hx).2.1,fun v hv=>⟨((h.wi.2 x hx).2.2 v hv).1,?_⟩⟩⟩
 have h1:=((h.wi.2 x hx).2.2 v hv).2;dsimp only at h1;unfold bndW;split
 ·rename_i e;rw[e]at h1;split<;>omega
 ·exact h1
theorem SInv.write{m:Nat}{s:Sto}(h:SInv m s)(n:Az)(cs:List Chg):SInv (m+cs.length+1) (s.writeM n cs).1:=by
 unfold Sto.writeM;split
 ·exact h.mono (by omega)
 ·rename_i i hi;split
  ·exact h.mono (by omega)
  ·rename_i F hF;obtain⟨f1,f2,f3⟩:=Agz hF (by simp) (by simp)
   have hn:=h.name hi;have hs:=h.start n (Dc (F.map Chg.key));obtain⟨g1,g2,g3⟩:=Ahn (F:=F) (x:=⟨s.tal n,s.l,false⟩) hn (Ahj f1) (by have:=h.rv n;dsimp only;omega) hs
   obtain⟨b1,b2⟩:=Ah0 (n:=n) (F:=F) (x:=⟨s.tal n,s.l,false⟩) (KK:=Dc (F.map Chg.key)) (by omega) h.lb (h.tb n) fun k hk=>Ajq f2 hk
   have hw:=Ah5 (n:=n) (F:=F) (KK:=Dc (F.map Chg.key)) (x:=⟨s.tal n,s.l,false⟩);generalize Ge n F (Dc (F.map Chg.key)) ⟨s.tal n,s.l,false⟩=Z at*;dsimp only at g1 g2 g3 b1 b2 hw ⊢;rw[Ajd,List.length_map]at b1 b2;simp only[List.length_nil,Nat.zero_add]at f3;have hrv:=h.rv n;have hfin:Z.fin.floor=(s.tal n).floor∧Z.fin.rev=(if Z.w=true then(s.tal n).rev+1 else(s.tal n).rev)∧TBd (m+cs.length+1) Z.fin:=by
    have h5:=b2.mono (show m+F.length≤m+cs.length+1 by omega)
    obtain⟨c1,c2,c3⟩:=h5;unfold WSt.fin;split
    ·exact⟨g3,by rw[←g2],⟨c1,c2,c3⟩⟩
    ·exact⟨g3,g2,⟨c1,c2,c3⟩⟩
   refine⟨b1.mono (by omega),fun n'=>?_,fun n'=>?_,?_,?_,?_⟩
   ·rw[Mi hi];split
    ·exact hfin.2.2
    ·exact(h.tb n').mono (by omega)
   ·rw[Mi hi];split
    ·rw[hfin.1,hfin.2.1];split<;>omega
    ·have:=h.rv n';omega
   ·refine⟨g1.1,fun x hx=>⟨(g1.2 x hx).1,(g1.2 x hx).2.1,fun v hv=>⟨((g1.2 x hx).2.2 v hv).1,?_⟩⟩⟩
    dsimp only;rw[Mi hi];have h1:=((g1.2 x hx).2.2 v hv).2;unfold bndW at h1;split
    ·rename_i e;rw[if_pos e,if_neg (by simp)]at h1
     rw[hfin.2.1];cases hZ:Z.w with
     |true=>simp only[if_true];exact h1
     |false=>
      rw[hw hZ]at hx;have h9:=((h.wi.2 x hx).2.2 v hv).2;dsimp only at h9;rw[e]at h9;simpa using h9
    ·rename_i e;rw[if_neg e]at h1;exact h1
   ·intro x hx;rcases List.mem_or_eq_of_mem_set hx with hx|rfl
    ·exact h.nm x hx
    ·exact hn
   ·rw[Agj hi];exact h.nd
theorem SInv.open{m:Nat}{s:Sto}{nm:Bool}(h:SInv m s)(n:Az)(hn:nm=true→n.length<256):SInv m (s.openM nm n).1:=by
 unfold Sto.openM;split
 ·exact h
 ·rename_i hnm;split
  ·exact h
  ·rename_i hf;split
   ·exact h
   ·have hf:s.fi n=none:=by simpa using hf
    have ht:=Aij hf;refine⟨h.lb,fun n'=>by rw[ht];exact h.tb n',fun n'=>by rw[ht];exact h.rv n',⟨h.wi.1,fun x hx=>?_⟩,?_,?_⟩
    ·have h2:=h.wi.2 x hx;refine⟨h2.1,h2.2.1,fun v hv=>⟨(h2.2.2 v hv).1,?_⟩⟩
     have h3:=(h2.2.2 v hv).2;dsimp only at h3 ⊢;rw[ht];exact h3
    ·intro x hx;rcases List.mem_append.1 hx with hx|hx
     ·exact h.nm x hx
     ·simp only[List.mem_singleton]at hx;subst hx;exact hn (by simpa using hnm)
    ·dsimp only;rw[List.map_append,List.nodup_append];refine⟨h.nd,by simp,?_⟩
     intro a ha b hb e;simp only[List.map_cons,List.map_nil,List.mem_singleton]at hb;subst hb;subst e;obtain⟨x,hx,e⟩:=List.mem_map.1 ha;unfold Sto.fi at hf;rw[List.findIdx?_eq_none_iff]at hf;have:=hf x hx;simp[e]at this
def Pf(n:Az)(rev:Int)(h:Hld):Option Hld:=if(C1 h.at_).1=n then(if h.vs.length≤Lm rev h.vs then none else some ⟨h.at_,h.vs.drop (Lm rev h.vs)⟩)else some h
theorem Ahp{n:Az}{rev:Int}:∀{l:List Hld} {x:CSt},(Mz n rev l x).l=x.l++l.filterMap (Pf n rev)∧x.c≤(Mz n rev l x).c∧∀m:Nat,(∀h∈l,h.vs.length≤m)→(Mz n rev l x).c≤x.c+l.length*m
 | [],x=>⟨by simp[Mz],Int.le_refl _,fun m _=>by simp[Mz]⟩
 |h::r,x=>by
  obtain⟨i1,i2,i3⟩:=Ahp (n:=n) (rev:=rev) (l:=r) (x:=Uy n rev h x);unfold Mz;rw[i1,List.filterMap_cons];have hs:(Uy n rev h x).l=x.l++(Pf n rev h).toList∧x.c≤(Uy n rev h x).c∧(Uy n rev h x).c≤x.c+h.vs.length:=by
   unfold Uy Pf;split
   ·split
    ·exact⟨by simp,Int.le_refl _,by omega⟩
    ·exact⟨by simp,by(try dsimp only);omega,by(try dsimp only);omega⟩
   ·exact⟨by simp,Int.le_refl _,by dsimp only;omega⟩
  refine⟨?_,by omega,fun m hm=>?_⟩
  ·rw[hs.1,List.append_assoc];cases Pf n rev h<;>rfl
  ·have h1:=i3 m fun h hh=>hm h (List.mem_cons_of_mem _ hh)
   have h2:=hm h (List.mem_cons_self ..);rw[List.length_cons];have h3:((r.length+1:Nat):Int)*(m:Int)=r.length*m+m:=by rw[Int.natCast_add,Int.add_mul];simp
   omega
theorem Agy{n:Az}{rev:Int}{h h':Hld}(e:Pf n rev h=some h'):h'.at_=h.at_∧∃k,h'.vs=h.vs.drop k∧(h.vs≠[]→h'.vs≠[]):=by
 unfold Pf at e;split at e
 ·split at e
  ·cases e
  ·rename_i hk;cases e;exact⟨rfl,_,rfl,fun _ hn=>by rw[List.drop_eq_nil_iff]at hn;omega⟩
 ·cases e;exact⟨rfl,0,rfl,fun h=>h⟩
theorem Ah1{n:Az}{rev:Int}:∀{l:List Hld},((l.filterMap (Pf n rev)).map Hld.at_).Sublist (l.map Hld.at_)
 | []=>by simp
 |h::r=>by
  rw[List.filterMap_cons];cases e:Pf n rev h with
  |none=>exact List.Sublist.cons _ Ah1
  |some h'=>
   dsimp only;rw[List.map_cons,List.map_cons,(Agy e).1];exact List.Sublist.cons_cons _ Ah1
def Sto.compM(s:Sto)(n:Az)(rev:Int):Sto × Int:=match s.fi n with
 |none=>(s,16)
 |some i=>if s.compE n rev=0 then(⟨s.sp.set i (n,{s.tal n with floor:=rev,vers:=(Mz n rev s.l ⟨[],0⟩).c}),(Mz n rev s.l ⟨[],0⟩).l⟩,0)else(s,s.compE n rev)
theorem Aht{s:Sto}{n:Az}{rev:Int}(h:s.compE n rev=0):0≤rev∧rev≤(s.tal n).rev∧(s.tal n).floor≤rev:=by
 unfold Sto.compE at h;split at h
 ·omega
 ·split at h
  ·omega
  ·split at h<;>omega
theorem SInv.comp{m:Nat}{s:Sto}(h:SInv m s)(hm:m≤80000)(n:Az)(rev:Int):SInv m (s.compM n rev).1:=by
 unfold Sto.compM;split
 ·exact h
 ·rename_i i hi;split
  ·rename_i he;obtain⟨e1,e2,e3⟩:=Aht he;obtain⟨c1,c2,c3⟩:=Ahp (n:=n) (rev:=rev) (l:=s.l) (x:=⟨[],0⟩);have c4:=c3 80000 fun h' hh=>Nat.le_trans (h.lb.held h' hh).2.2.1 hm
   generalize Mz n rev s.l ⟨[],0⟩=Z at*;dsimp only at c1 c2 c4 ⊢;rw[List.nil_append]at c1;have hlen:=h.lb.len;have hc:Z.c≤10000000000:=by
    have:(s.l.length:Int)*80000≤80000*80000:=by omega
    omega
   obtain⟨t1,t2,t3⟩:=h.tb n;have hrv:=h.rv n;have hmem:∀x∈Z.l,∃y∈s.l,Pf n rev y=some x:=fun x hx=>by
    rw[c1]at hx;obtain⟨y,hy,hyx⟩:=List.mem_filterMap.1 hx;exact⟨y,hy,hyx⟩
   refine⟨⟨?_,fun x hx=>?_⟩,fun n'=>?_,fun n'=>?_,⟨?_,fun x hx=>?_⟩,?_,?_⟩
   ·dsimp only;rw[c1];exact Nat.le_trans (List.length_filterMap_le _ _) hlen
   ·obtain⟨y,hy,e⟩:=hmem x hx;obtain⟨a1,k,a2,a3⟩:=Agy e;obtain⟨b1,b2,b3,b4⟩:=h.lb.held y hy;refine⟨by rw[a1];exact b1,a3 b2,by rw[a2,List.length_drop];omega,fun v hv=>?_⟩
    rw[a2]at hv;exact b4 v (List.mem_of_mem_drop hv)
   ·rw[Mi hi];split
    ·exact⟨t1,t2,⟨by dsimp only;omega,by dsimp only;omega⟩⟩
    ·exact h.tb n'
   ·rw[Mi hi];split
    ·dsimp only;omega
    ·exact h.rv n'
   ·dsimp only;rw[c1];exact List.Pairwise.sublist Ah1 h.wi.1
   ·obtain⟨y,hy,e⟩:=hmem x hx;obtain⟨a1,k,a2,a3⟩:=Agy e;obtain⟨b1,b2,b3⟩:=h.wi.2 y hy;refine⟨by rw[a1];exact b1,by rw[a2];exact b2.drop k,fun v hv=>?_⟩
    rw[a2]at hv;have h1:=b3 v (List.mem_of_mem_drop hv);refine⟨h1.1,?_⟩;dsimp only;rw[Mi hi,a1];split
    ·rename_i e;have h9:=h1.2;dsimp only at h9;rw[e]at h9;exact h9
    ·exact h1.2
   ·intro x hx;rcases List.mem_or_eq_of_mem_set hx with hx|rfl
    ·exact h.nm x hx
    ·exact h.name hi
   ·rw[Agj hi];exact h.nd
  ·exact h
set_option maxRecDepth 100000
set_option maxHeartbeats 4000000

open Go.Proofs
def A8(s:Az)(k lo hi:Int):Bool:=match s[k.toNat]? with
 |some c=>decide (lo≤(c.toNat:Int)∧(c.toNat:Int)≤hi)
 |none=>false
theorem Ahc(s:Az)(k lo hi:Int)(h0:0≤k):Fn Tryd.prog Adf [.v (.str s),.v (.int .i64 k),.v (.int .u8 lo),.v (.int .u8 hi)] (Is (.v (.bool (A8 s k lo hi))) [.no,.no,.no,.no]):=by
 refine Ac6 ?_ (by simp)
 by_cases hk:k.toNat<s.length
 ·obtain⟨c,hc⟩:∃c,s[k.toNat]?=some c:=⟨_,List.getElem?_eq_getElem hk⟩;have hlt:¬decide (k<(s.length:Int))=false:=by simp;omega
  repeat'((conv=>whnf);first|(refine aI (fun hb=>?_) (fun hb=>?_)<;>first|(exact absurd hb (by first|assumption|decide))|((try rw[hb]);(try simp only[Aa]at hb)))|(refine eI ?_ ?_;focus (and_intros<;>first|omega|exact rfl))|(intro hfact)|((try dsimp only);rw[hc]))
  all_goals(try(conv=>whnf))
  all_goals(refine Done.mk ⟨SV.bool_congr ?_,by kernel_rfl⟩ (by kernel_rfl))
  all_goals(simp only[A8,hc];simp at*;first|done|omega|grind)
 ·have hlt:¬decide (k<(s.length:Int))=true:=by simp;omega
  repeat'((conv=>whnf);first|(refine aI (fun hb=>?_) (fun hb=>?_)<;>first|(exact absurd hb (by first|assumption|decide))|((try rw[hb]);(try simp only[Aa]at hb)))|(refine eI ?_ ?_;focus (and_intros<;>exact rfl))|(intro hfact))
  all_goals(try(conv=>whnf))
  refine Done.mk ⟨SV.bool_congr ?_,by kernel_rfl⟩ (by kernel_rfl)
  simp[A8,List.getElem?_eq_none (show s.length≤k.toNat by omega)]
def Fv(s:Az)(k n:Nat):Bool:=(List.range n).all fun i=>A8 s ((k+i:Nat):Int) 128 191
theorem Agv(s:Az)(k n:Nat)(hk:k≤10)(hn:n≤10):Fn Tryd.prog Ae5 [.v (.str s),.v (.int .i64 k),.v (.int .i64 n)] (Is (.v (.bool (Fv s k n))) [.no,.no,.no]):=by
 refine Aez ?_ (by simp)
 (skip)
 all_goals(try(conv=>whnf))
 refine LoopWq.by (X:=Nat) (fun x=>[(7,.v (.int .i64 x))]) (fun x=>x≤n∧Fv s k x=true) (fun x=>n - x) 0 (by kernel_rfl) ⟨Nat.zero_le _,rfl⟩ ?_
 rintro x ⟨h1,h2⟩;by_cases hx:x<n
 ·have hlt:¬decide ((x:Int)<(n:Int))=false:=by simp[hx]
  have hw:IntKind.i64.wrap ((k:Int)+(x:Int))=((k+x:Nat):Int):=by
   rw[show(k:Int)+(x:Int)=((k+x:Nat):Int)by omega];exact Bf (by omega)
  have hs:=Ahc s ((k+x:Nat):Int) 128 191 (by omega)
  repeat'((conv=>whnf);first|(refine aI (fun hb=>?_) (fun hb=>?_)<;>first|(exact absurd hb (by assumption))|((try rw[hb]);(try simp only[Aa]at hb)))|(refine eI ?_ ?_;focus (and_intros<;>first|(intro _ hh;cases hh;done)|(simp;done)|decide))|((try dsimp only);rw[hw])|(refine CallWp.mk ⟨_,hs,?_⟩;rintro _ _ ⟨rfl,rfl⟩))
  all_goals(try(conv=>whnf))
  ·rename_i hb;refine Done.mk ⟨SV.bool_congr ?_,by kernel_rfl⟩ (by kernel_rfl)
   try simp only[Bool.not_eq_true']at hb
   symm;simp only[Fv,List.all_eq_false,List.mem_range];exact⟨x,hx,by rw[hb];decide⟩
  ·rename_i hb;refine Round.by (x+1) ?_ ⟨hx,?_⟩ (by omega)
   ·rw[Dk hx (by simp only[maxLen];omega)]
    show norm _ _=upd _ _
    kernel_rfl
   ·unfold Fv at h2 ⊢;rw[List.range_succ,List.all_append,h2];try simp only[Bool.not_eq_false']at hb
    simp only[List.all_cons,List.all_nil,Bool.and_true,Bool.true_and];exact hb
 ·have hlt:¬decide ((x:Int)<(n:Int))=true:=by simp;omega
  have:x=n:=by omega
  subst this;repeat'((conv=>whnf);(refine aI (fun hb=>?_) (fun hb=>?_)<;>first|(exact absurd hb (by assumption))|((try rw[hb]);(try simp only[Aa]at hb))))
  all_goals(try(conv=>whnf))
  refine Done.mk ⟨SV.bool_congr ?_,by kernel_rfl⟩ (by kernel_rfl)
  exact h2.symm
def G9(s:Az):Int:=
 if A8 s 0 0 127 then 1
 else if(A8 s 0 194 223&&Fv s 1 1)then 2
 else if(Fv s 1 2&&((A8 s 0 224 224&&A8 s 1 160 191)||A8 s 0 225 236||(A8 s 0 237 237&&A8 s 1 128 159)||A8 s 0 238 239))then 3
 else if(Fv s 1 3&&((A8 s 0 240 240&&A8 s 1 144 191)||A8 s 0 241 243||(A8 s 0 244 244&&A8 s 1 128 143)))then 4
 else 0
theorem Amq(s:Az):Fn Tryd.prog Aah [.v (.str s)] (Is (.v (.int .i64 (G9 s))) [.no]):=by
 refine Aey ?_ (by simp)
 have t1:=Agv s 1 1 (by omega) (by omega)
 have t2:=Agv s 1 2 (by omega) (by omega)
 have t3:=Agv s 1 3 (by omega) (by omega)
 repeat'((conv=>whnf);first|(refine aI (fun hb=>?_) (fun hb=>?_)<;>first|(exact absurd hb (by decide))|((try rw[hb]);(try simp only[Aa]at hb)))|(refine eI ?_ ?_;focus (and_intros<;>first|(intro _ hh;cases hh;done)|(simp;done)|decide))|(refine CallWp.mk ⟨_,Ahc _ _ _ _ (by omega),?_⟩;rintro _ _ ⟨rfl,rfl⟩)|(refine CallWp.mk ⟨_,t1,?_⟩;rintro _ _ ⟨rfl,rfl⟩)|(refine CallWp.mk ⟨_,t2,?_⟩;rintro _ _ ⟨rfl,rfl⟩)|(refine CallWp.mk ⟨_,t3,?_⟩;rintro _ _ ⟨rfl,rfl⟩))
 all_goals(try(conv=>whnf))
 all_goals(refine Done.mk ⟨congrArg (fun n=>SV.v (.int .i64 n)) ?_,by kernel_rfl⟩ (by kernel_rfl))
 all_goals(unfold G9;simp at*;grind)

open Go.Proofs
def E8(s:Az):Bool:=match s with
 | []=>false
 | [c]=>decide (32≤(c.toNat:Int))&&decide ((c.toNat:Int)≤126)&& !decide ((c.toNat:Int)=92)
 | [c,d]=>if(c.toNat:Int)=194 then decide (161≤(d.toNat:Int))else true
 |_=>true
theorem Akr(s:Az):Fn Tryd.prog Ade [.v (.str s)] (Is (.v (.bool (E8 s))) [.no]):=by
 refine Ac5 ?_ (by simp)
 rcases s with _|⟨c,_|⟨d,_|⟨e,r⟩⟩⟩
 ·repeat'((conv=>whnf);first|(refine aI (fun hb=>?_) (fun hb=>?_)<;>first|(exact absurd hb (by decide))|((try rw[hb]);(try simp only[Aa]at hb)))|(refine eI ?_ ?_;focus (and_intros<;>exact rfl))|(intro hfact))
  all_goals(try(conv=>whnf))
  exact Done.mk ⟨rfl,by kernel_rfl⟩ (by kernel_rfl)
 ·have h1:¬decide ((([c]:Az).length:Int)=1)=false:=by simp
  repeat'((conv=>whnf);first|(refine aI (fun hb=>?_) (fun hb=>?_)<;>first|(exact absurd hb (by first|assumption|decide))|((try rw[hb]);(try simp only[Aa]at hb)))|(refine eI ?_ ?_;focus (and_intros<;>first|omega|exact rfl))|(intro hfact))
  all_goals(try(conv=>whnf))
  all_goals(refine Done.mk ⟨SV.bool_congr ?_,by kernel_rfl⟩ (by kernel_rfl))
  all_goals(simp[E8]at*;grind)
 ·have h1:¬decide ((([c,d]:Az).length:Int)=1)=true:=by simp
  have h2:¬decide ((([c,d]:Az).length:Int)=2)=false:=by simp
  have h3:¬decide (1<(([c,d]:Az).length:Int))=false:=by simp
  repeat'((conv=>whnf);first|(refine aI (fun hb=>?_) (fun hb=>?_)<;>first|(exact absurd hb (by assumption))|((try rw[hb]);(try simp only[Aa]at hb)))|(refine eI ?_ ?_;focus (and_intros<;>first|omega|exact rfl))|(intro hfact))
  all_goals(try(conv=>whnf))
  all_goals(refine Done.mk ⟨SV.bool_congr ?_,by kernel_rfl⟩ (by kernel_rfl))
  all_goals(simp[E8]at*;grind)
 ·have h1:¬decide (((c::d::e::r:Az).length:Int)=1)=true:=by simp;omega
  have h2:¬decide (((c::d::e::r:Az).length:Int)=2)=true:=by simp;omega
  repeat'((conv=>whnf);first|(refine aI (fun hb=>?_) (fun hb=>?_)<;>first|(exact absurd hb (by assumption))|((try rw[hb]);(try simp only[Aa]at hb)))|(refine eI ?_ ?_;focus (and_intros<;>exact rfl))|(intro hfact))
  all_goals(try(conv=>whnf))
  all_goals(refine Done.mk ⟨SV.bool_congr ?_,by kernel_rfl⟩ (by kernel_rfl))
  all_goals(simp[E8]at*;try grind)

open Go.Proofs
theorem Aia{s:Az}{k:Nat}{lo hi:Int}(h:A8 s k lo hi=true):k<s.length:=by
 unfold A8 at h;split at h
 ·rename_i c hc;have:=(List.getElem?_eq_some_iff.1 hc).1;simpa using this
 ·cases h
theorem Ahx{s:Az}{k n:Nat}(h:Fv s k n=true)(hn:0<n):k+n≤s.length:=by
 simp only[Fv,List.all_eq_true,List.mem_range]at h;have:=Aia (h (n - 1) (by omega))
 omega
theorem Amy(s:Az):0≤G9 s∧G9 s≤s.length:=by
 unfold G9;split
 ·rename_i h;have:=Aia (k:=0) h;omega
 split
 ·rename_i h;simp only[Bool.and_eq_true]at h;have:=Ahx h.2 (by omega);omega
 split
 ·rename_i h;simp only[Bool.and_eq_true]at h;have:=Ahx h.1 (by omega);omega
 split
 ·rename_i h;simp only[Bool.and_eq_true]at h;have:=Ahx h.1 (by omega);omega
 omega
def badR(k:Nat)(c:Int)(at':Nat)(piece:Az):Bool:=
 (decide (k=1)&& !((decide (97≤c)&&decide (c≤122))||(decide (48≤c)&&decide (c≤57))||decide (c=95)||(decide (c=45)&&decide (0<at'))))
 ||(decide (1<k)&& !E8 piece)
def Ey:Nat→Az→Nat→Nat→Bool
 |0,_,_,_=>false
 |f+1,s,at',n=>match s[at']? with
  |none=>decide (0<n)
  |some c=>
   let k:=(G9 (s.drop at')).toNat
   if k=0 then false
   else if badR k c.toNat at' ((s.drop at').take k)=true then false
   else if 24<n+1 then false
   else Ey f s (at'+k) (n+1)
def D9(s:Az):Bool:=Ey (s.length+1) s 0 0
theorem Amo(s:Az):Fn Tryd.prog Ad3 [.v (.str s)] (Is (.v (.bool (D9 s))) [.no]):=by
 refine Ado ?_ (by simp)
 (skip)
 all_goals(try(conv=>whnf))
 refine LoopWq.by (X:=Nat × Nat × Nat) (fun x=>[(3,.v (.int .i64 x.2.2)),(4,.v (.int .i64 x.2.1))]) (fun x=>Ey x.1 s x.2.1 x.2.2=D9 s∧s.length<x.1+x.2.1∧x.2.1≤s.length∧x.2.2≤24) (fun x=>s.length - x.2.1)
  (s.length+1,0,0) (by kernel_rfl) ⟨rfl,by dsimp only;omega,Nat.zero_le _,Nat.zero_le _⟩ ?_
 rintro⟨f,p,n⟩ ⟨h1,h2,h3,h4⟩;dsimp only at h1 h2 h3 h4 ⊢;obtain⟨f,rfl⟩:∃g,f=g+1:=⟨f - 1,by omega⟩
 by_cases hp:p<s.length
 case neg=>
  have hlt:¬decide ((p:Int)<(s.length:Int))=true:=by simp;omega
  repeat'((conv=>whnf);first|(refine aI (fun hb=>?_) (fun hb=>?_)<;>first|(exact absurd hb (by assumption))|((try rw[hb]);(try simp only[Aa]at hb)))|(refine eI ?_ ?_;focus (and_intros<;>exact rfl))|(intro hfact))
  all_goals(try(conv=>whnf))
  refine Done.mk ⟨SV.bool_congr ?_,by kernel_rfl⟩ (by kernel_rfl)
  rw[←h1,Ey,List.getElem?_eq_none (by omega)]
  simp
 obtain⟨c,hc⟩:∃c,s[p]?=some c:=⟨_,List.getElem?_eq_getElem hp⟩;have hg:s[Int.toNat (p:Int)]?=some c:=hc;have hlt:¬decide ((p:Int)<(s.length:Int))=false:=by simp[hp]
 have hsz:=Amy (s.drop p);have hs:=Amq (s.drop p);rw[Ey,hc]at h1;dsimp only at h1;obtain⟨k,hk⟩:∃k:Nat,G9 (s.drop p)=k:=⟨(G9 (s.drop p)).toNat,by omega⟩
 rw[hk]at hs h1 hsz;have hs':Fn Tryd.prog Aah [.v (.str ((s.take s.length).drop p))] (Is (.v (.int .i64 k)) [.no]):=by rw[List.take_length];exact hs
 rw[List.length_drop]at hsz;simp only[Int.toNat_natCast]at h1;have hw:s.length≤maxLen→IntKind.i64.wrap ((p:Int)+(k:Int))=((p+k:Nat):Int):=fun hm=>by
  rw[show(p:Int)+(k:Int)=((p+k:Nat):Int)by omega];exact Bf (by simp only[maxLen]at hm;omega)
 have hwn:IntKind.i64.wrap ((n:Int)+1)=((n+1:Nat):Int):=Dk (n:=25) (by omega) (by simp only[maxLen];omega)
 have hpc:((s.drop p).take k)=(s.take (p+k)).drop p:=by rw[List.drop_take];congr 1;omega
 have hit:=Akr ((s.take (p+k)).drop p);have hpk:((p+k:Nat):Int)≤(s.length:Int):=by omega
 have hpp:(p:Int)≤((p+k:Nat):Int):=by omega
 rw[hpc]at h1;obtain⟨b,hb0⟩:∃b,E8 ((s.take (p+k)).drop p)=b:=⟨_,rfl⟩;rw[hb0]at hit;unfold badR at h1;rw[hb0]at h1;rcases Nat.lt_or_ge k 1 with hk0|hk0
 ·have n1:¬decide ((k:Int)=0)=false:=by simp;omega
  rw[if_pos (by omega)]at h1
  repeat'((conv=>whnf);first|(refine aI (fun hb=>?_) (fun hb=>?_)<;>first|(exact absurd hb (by assumption))|((try rw[hb]);(try simp only[Aa]at hb)))|(refine eI ?_ ?_;focus (and_intros<;>first|omega|exact rfl|(intro _ hh;cases hh;done)|(simp;done)|decide))|(intro hfact)|(refine CallWp.mk ⟨_,hs',?_⟩;rintro _ _ ⟨rfl,rfl⟩))
  all_goals(try(conv=>whnf))
  exact Done.mk ⟨SV.bool_congr h1,by kernel_rfl⟩ (by kernel_rfl)
 rw[if_neg (by omega)]at h1
 have n1:¬decide ((k:Int)=0)=true:=by simp;omega
 rcases Nat.lt_or_ge 1 k with hk1|hk1
 ·have n2:¬decide ((k:Int)=1)=true:=by simp;omega
  have n3:¬decide (1<(k:Int))=false:=by simp;omega
  repeat'((conv=>whnf);first|(refine aI (fun hb=>?_) (fun hb=>?_)<;>first|(exact absurd hb (by first|assumption|decide))|((try rw[hb]);(try simp only[Aa]at hb);(try subst hb)))|(refine eI ?_ ?_;focus (and_intros<;>first|omega|exact rfl|(intro _ hh;cases hh;done)|(simp;done)|decide))|(intro hfact)|((try dsimp only);rw[hg])|(refine CallWp.mk ⟨_,hs',?_⟩;rintro _ _ ⟨rfl,rfl⟩)|(refine CallWp.mk ⟨_,hit,?_⟩;rintro _ _ ⟨rfl,rfl⟩)|((try dsimp only);rw[hw (by assumption)])|(skip;rw[hwn]))
  all_goals(try(conv=>whnf))
  all_goals first
   |(refine Done.mk ⟨SV.bool_congr ?_,by kernel_rfl⟩ (by kernel_rfl);rw[←h1];simp at*;grind)
   |(refine Round.by (f,p+k,n+1) ?_ ⟨?_,by dsimp only;omega,by dsimp only;omega,?_⟩ (by dsimp only;omega)
     ·dsimp only;show norm _ _=upd _ _
      kernel_rfl
     ·dsimp only;rw[←h1];simp at*;grind
     ·dsimp only;simp at*;omega)
 ·have n2:¬decide ((k:Int)=1)=false:=by simp;omega
  have n3:¬decide (1<(k:Int))=true:=by simp;omega
  repeat'((conv=>whnf);first|(refine aI (fun hb=>?_) (fun hb=>?_)<;>first|(exact absurd hb (by first|assumption|decide))|(exfalso;((simp only[Bu]at hb<;>omega)))|((try rw[hb]);(try simp only[Aa]at hb)))|(refine eI ?_ ?_;focus (and_intros<;>first|omega|exact rfl|(intro _ hh;cases hh;done)|(simp;done)|decide))|(intro hfact)|((try dsimp only);rw[hg])|(refine CallWp.mk ⟨_,hs',?_⟩;rintro _ _ ⟨rfl,rfl⟩)|(skip;rw[hw (by assumption)])|(skip;rw[hwn]))
  all_goals(try(conv=>whnf))
  all_goals first
   |(refine Done.mk ⟨SV.bool_congr ?_,by kernel_rfl⟩ (by kernel_rfl);rw[←h1];simp at*;grind)
   |(refine Round.by (f,p+k,n+1) ?_ ⟨?_,by dsimp only;omega,by dsimp only;omega,?_⟩ (by dsimp only;omega)
     ·dsimp only;show norm _ _=upd _ _
      kernel_rfl
     ·dsimp only;rw[←h1];simp at*;grind
     ·dsimp only;simp at*;omega)

theorem Ajc(s:Az):(G9 s).toNat≤4:=by
 unfold G9;repeat' split
 all_goals decide
theorem Ahv:∀{f:Nat} {s:Az} {a n:Nat},Ey f s a n=true→s.length≤a+4*(24 - n)
 |0,s,a,n,h=>by simp[Ey]at h
 |f+1,s,a,n,h=>by
  unfold Ey at h;split at h
  ·rename_i hs;have:=List.getElem?_eq_none_iff.1 hs;omega
  ·dsimp only at h;have hk:=Ajc (s.drop a);generalize (G9 (s.drop a)).toNat=k at h hk;split at h
   ·cases h
   ·split at h
    ·cases h
    ·split at h
     ·cases h
     ·have:=Ahv h;omega
theorem Aha{s:Az}(h:D9 s=true):s.length<256:=by
 have:=Ahv h;omega
structure Opn where
 k:Int
 n:Az
 l:List Chg
 x:Sp
 rev:Int
 most:Int
def Opn.toI(o:Opn):I:=.agg [ti o.k,.str o.n,.list (o.l.map Chg.toI),o.x.toI,ti o.rev,ti o.most]
def Sto.stepM(s:Sto)(o:Opn):Sto:=if o.k=0 then(s.writeM o.n o.l).1 else if o.k=2 then(s.compM o.n o.rev).1 else if o.k=3 then(s.openM (D9 o.n) o.n).1 else s
theorem SInv.step{m:Nat}{s:Sto}(h:SInv m s)(o:Opn)(hm:m≤80000):SInv (m+o.l.length+1) (s.stepM o):=by
 unfold Sto.stepM;split
 ·exact h.write _ _
 ·split
  ·exact(h.comp hm _ _).mono (by omega)
  ·split
   ·exact(h.open _ Aha).mono (by omega)
   ·exact h.mono (by omega)
theorem Aiv{s:Sto}{n:Az}:(s.fi n).isSome=true↔n∈s.sp.map (·.1):=by
 unfold Sto.fi;rw[List.findIdx?_isSome,List.any_eq_true];constructor
 ·rintro⟨x,hx,e⟩;exact List.mem_map.2 ⟨x,hx,by simpa using e⟩
 ·intro h;obtain⟨x,hx,e⟩:=List.mem_map.1 h;exact⟨x,hx,by simpa using e⟩
theorem Ah4{s:Sto}{nm:Bool}{n n':Az}:(s.openM nm n).1.tal n'=s.tal n'∧(s.openM nm n).1.l=s.l:=by
 unfold Sto.openM;split
 ·exact⟨rfl,rfl⟩
 ·split
  ·exact⟨rfl,rfl⟩
  ·rename_i hf;split
   ·exact⟨rfl,rfl⟩
   ·exact⟨Aij (by simpa using hf) n',rfl⟩
theorem Agk{β:Type}{g:Hld→Option β}{n:Az}{F:List Chg}{R:Az→Int}{r:Int}(hn:n.length<256)(hr:0≤r)
 (h0:∀k v,r<v.rev→g ⟨B7 n k,[v]⟩=none) (h1:∀(h:Hld) k v,h.at_=B7 n k→VSo (h.vs++[v])→r<v.rev→g ⟨h.at_,h.vs++[v]⟩=g h):
 ∀{KK:List Az} {x:WSt},KK.Nodup→x.t.rev=r→WInv (bndW n r R KK) x.l→(Ge n F KK x).l.filterMap g=x.l.filterMap g
 | [],x,_,_,_=>rfl
 |k::KK,x,hd,hx,h=>by
  obtain⟨d1,d2⟩:=List.nodup_cons.1 hd;have h3:=Ag6 (x:=x) (R:=R) (c:=Bv F k) hn d1 (by omega) (by rw[hx];exact h)
  rw[hx]at h3;have ih:=Agk (F:=F) (g:=g) hn hr h0 h1 (KK:=KK) (x:=Dw n k (Bv F k) x) d2 ((Agt _ _ _ _).1.trans hx) h3;change (Ge n F KK (Dw n k (Bv F k) x)).l.filterMap g=_;rw[ih];rcases Q7 n k (Bv F k) x with e|⟨v,e1,e2,_⟩
  ·rw[e]
  ·rw[e2];refine Aiw (h0 k v (by omega)) fun y hy e=>?_
   refine h1 y k v e ?_ (by omega)
   obtain⟨_,b2,b3⟩:=h.2 y hy;refine b2.snoc (u:=r) (fun w hw=>?_) (by omega)
   have h4:=(b3 w hw).2;rw[e]at h4;unfold bndW at h4;rw[Mt hn,if_pos rfl,if_pos (List.mem_cons_self ..)]at h4;exact h4
theorem Ahh{β:Type}{g:Hld→Option β}{m:Nat}{s:Sto}(h:SInv m s)(n:Az)(cs:List Chg) 
 (h0:∀k v,n.length<256→(s.tal n).rev<v.rev→g ⟨B7 n k,[v]⟩=none) (h1:∀(h:Hld) k v,n.length<256→h.at_=B7 n k→VSo (h.vs++[v])→(s.tal n).rev<v.rev→g ⟨h.at_,h.vs++[v]⟩=g h):
 (s.writeM n cs).1.l.filterMap g=s.l.filterMap g:=by
 unfold Sto.writeM;split
 ·rfl
 ·rename_i i hi;split
  ·rfl
  ·rename_i F hF;obtain⟨f1,_,_⟩:=Agz hF (by simp) (by simp)
   have hn:=h.name hi;exact Agk (x:=⟨s.tal n,s.l,false⟩) hn (by have:=h.rv n;omega) (fun k v hv=>h0 k v hn hv) (fun y k v a b c=>h1 y k v hn a b c) (Ahj f1) rfl (h.start n _)
theorem Ahu{n:Az}{rev:Int}{h:Hld}(e:(C1 h.at_).1≠n):gV n rev h=none:=by unfold gV;rw[if_neg (fun c=>e c.1)]
theorem SInv.bd{m:Nat}{s:Sto}(h:SInv m s)(hm:m≤80000):s.Bd:=⟨by have:=h.lb.len;omega,fun x hx=>by obtain⟨a,b,c,_⟩:=h.lb.held x hx;exact⟨a,b,by omega⟩⟩
set_option maxHeartbeats 40000000

theorem Nz:∀{p k:Az},(p≤k∧k<p++[0])↔k=p
 | [],[]=>by simp
 | [],x::k=>by
   simp only[List.nil_append];rw[List.cons_lt_cons_iff];have h1:¬x<0:=by
    intro h;have:=UInt8.lt_iff_toNat_lt.1 h;simp at this
   have h2:¬k<[]:=List.not_lt_nil k;simp[h1,h2]
 |a::p,[]=>by simp
 |a::p,x::k=>by
  have ih:=Nz (p:=p) (k:=k);simp only[List.cons_append];rw[List.cons_le_cons_iff,List.cons_lt_cons_iff,List.cons.injEq, ←ih];constructor
  ·rintro⟨h3,h4⟩;rcases h3 with h3|⟨rfl,h3⟩
   ·rcases h4 with h4|⟨rfl,_⟩
    ·exact absurd (UInt8.lt_trans h3 h4) (UInt8.lt_irrefl _)
    ·exact absurd h3 (UInt8.lt_irrefl _)
   ·rcases h4 with h4|⟨_,h4⟩
    ·exact absurd h4 (UInt8.lt_irrefl _)
    ·exact⟨rfl,h3,h4⟩
  ·rintro⟨rfl,h3,h4⟩;exact⟨.inr ⟨rfl,h3⟩,.inr ⟨rfl,h4⟩⟩
end Go.Ab
