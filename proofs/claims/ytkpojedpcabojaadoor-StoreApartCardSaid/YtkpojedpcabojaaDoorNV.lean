/- Lemmas -/
import Derived.Test.YtkpojedpcabojaaDoorW6
import Derived.Shelf.Unicode.DecodeAny
set_option linter.unusedVariables false
set_option linter.unusedSimpArgs false
namespace Go.Ab
theorem Ajm{l:List Hld}{a:Az}{v:Ver}{h:Hld}(hh:h∈putA l a v):h∈l∨h=⟨a,[v]⟩∨∃e∈l,e.at_=a∧h=⟨a,e.vs++[v]⟩:=by
 unfold putA putL at hh;split at hh
 ·rename_i hf;obtain⟨e,h2,h3⟩:=Afp hf;rw[Zv h2]at hh;have h4:e.at_=a:=by simpa[eqH]using h3
  rcases List.mem_or_eq_of_mem_set hh with h|rfl
  ·exact .inl h
  ·exact .inr (.inr ⟨e,List.mem_of_getElem? h2,h4,by rw[h4]⟩)
 ·rcases List.mem_append.1 hh with h|h
  ·exact .inl (List.mem_of_mem_take h)
  ·rcases List.mem_cons.1 h with rfl|h
   ·exact .inr (.inl rfl)
   ·exact .inl (List.mem_of_mem_drop h)
theorem Ajt{l:List Hld}{a:Az}{v:Ver}(hl:LSo l):LSo (putA l a v):=by
 unfold putA putL;split
 ·rename_i hf;obtain⟨e,h2,h3⟩:=Afp hf;rw[Zv h2,LSo,List.map_set];rw[List.set_getElem?_self' (l:=l.map Hld.at_) (by rw[List.getElem?_map,h2];rfl)]
  exact hl
 ·rename_i hf;have hl':=hl;rw[LSo,List.pairwise_map]at hl';obtain⟨h1,h2⟩:=Aho (lt:=Kh a) (l:=l) (hl'.imp fun {x y} hab hb=>by simp only[Kh,decide_eq_true_eq]at*;exact List.lt_trans hab hb)
  have hgt:∀x∈l.drop (Km (Kh a) l),a<x.at_:=by
   intro x hx;have h3:=h2 x hx;simp only[Kh,decide_eq_false_iff_not]at h3;obtain⟨j,hj,rfl⟩:=List.mem_iff_getElem.1 hx;rw[List.length_drop]at hj;rw[List.getElem_drop]at h3 ⊢;have hne:l[Km (Kh a) l+j].at_≠a:=by
    intro e;cases j with
    |zero=>
     apply hf;unfold bsF;rw[List.getElem?_eq_getElem (show Km (Kh a) l<l.length by omega)]
     simp only[Option.any_some,eqH,decide_eq_true_eq];exact e
    |succ j=>
     have h4:=List.pairwise_iff_getElem.1 hl' (Km (Kh a) l) (Km (Kh a) l+(j+1)) (by omega) (by omega) (by omega)
     rw[e]at h4;have h5:=h2 (l[Km (Kh a) l]'(by omega)) (by rw[List.drop_eq_getElem_cons (by omega)];exact List.mem_cons_self ..)
     simp only[Kh,decide_eq_false_iff_not]at h5;exact h5 h4
   exact Std.lt_of_le_of_ne (List.not_lt.1 h3) (Ne.symm hne)
  rw[LSo,List.map_append,List.map_cons,List.pairwise_append,List.pairwise_cons];rw[LSo]at hl;refine⟨?_,⟨?_,?_⟩,?_⟩
  ·rw[List.map_take];exact List.Pairwise.sublist (List.take_sublist _ _) hl
  ·intro y hy;obtain⟨x,hx,rfl⟩:=List.mem_map.1 hy;exact hgt x hx
  ·rw[List.map_drop];exact List.Pairwise.sublist (List.drop_sublist _ _) hl
  ·intro y hy z hz;obtain⟨x,hx,rfl⟩:=List.mem_map.1 hy;have h3:=h1 x hx;simp only[Kh,decide_eq_true_eq]at h3;rcases List.mem_cons.1 hz with rfl|hz
   ·exact h3
   ·obtain⟨w,hw,rfl⟩:=List.mem_map.1 hz;exact List.lt_trans h3 (hgt w hw)
def WInv(U:Az→Int)(l:List Hld):Prop:=LSo l∧∀h∈l,Lies h.at_∧VSo h.vs∧∀v∈h.vs,1≤v.rev∧v.rev≤U h.at_
theorem VSo.snoc{vs:List Ver}{v:Ver}{u:Int}(h:VSo vs)(hu:∀x∈vs,x.rev≤u)(hv:u<v.rev):VSo (vs++[v]):=by
 rw[VSo,List.pairwise_append];refine⟨h,by simp,fun x hx y hy=>?_⟩
 simp only[List.mem_singleton]at hy;subst hy;have:=hu x hx;omega
theorem WInv.put{U U':Az→Int}{l:List Hld}{a:Az}{v:Ver}(h:WInv U l)(hU:∀x,U x≤U' x)(h1:1≤v.rev)(h2:U a<v.rev)(h3:v.rev≤U' a)(ha:Lies a):WInv U' (putA l a v):=by
 refine⟨Ajt h.1,fun x hx=>?_⟩
 rcases Ajm hx with hx|rfl|⟨e,he,hea,rfl⟩
 ·obtain⟨a1,a2,a3⟩:=h.2 x hx;exact⟨a1,a2,fun v hv=>⟨(a3 v hv).1,Int.le_trans (a3 v hv).2 (hU _)⟩⟩
 ·exact⟨ha,by simp[VSo],fun w hw=>by simp only[List.mem_singleton]at hw;subst hw;exact⟨h1,h3⟩⟩
 ·obtain⟨a1,a2,a3⟩:=h.2 e he;rw[hea]at a3;refine⟨ha,a2.snoc (fun x hx=>(a3 x hx).2) h2,fun w hw=>?_⟩
  rcases List.mem_append.1 hw with hw|hw
  ·exact⟨(a3 w hw).1,Int.le_trans (a3 w hw).2 (hU _)⟩
  ·simp only[List.mem_singleton]at hw;subst hw;exact⟨h1,h3⟩
def bndW(n:Az)(r:Int)(R:Az→Int)(KK:List Az)(a:Az):Int:=if(C1 a).1=n then(if(C1 a).2.1∈KK then r else r+1)else R (C1 a).1
theorem Q7(n k:Az)(c:Chg)(x:WSt):Dw n k c x=x∨∃v,v.rev=x.t.rev+1∧(Dw n k c x).l=putA x.l (B7 n k) v∧(Dw n k c x).w=true:=by
 unfold Dw;dsimp only;split
 ·exact .inl rfl
 ·right;split
  ·exact⟨_,rfl,rfl,rfl⟩
  ·split
   ·exact⟨_,rfl,rfl,rfl⟩
   ·exact⟨_,rfl,rfl,rfl⟩
theorem Agt(n k:Az)(c:Chg)(x:WSt):(Dw n k c x).t.rev=x.t.rev∧(Dw n k c x).t.floor=x.t.floor:=by
 unfold Dw;dsimp only;split
 ·exact⟨rfl,rfl⟩
 ·split
  ·exact⟨rfl,rfl⟩
  ·split<;>exact⟨rfl,rfl⟩
theorem Ah2{n:Az}{r:Int}{R:Az→Int}{k:Az}{KK:List Az}(a:Az):bndW n r R (k::KK) a≤bndW n r R KK a:=by
 unfold bndW;split
 ·split<;>split
  ·omega
  ·omega
  ·rename_i h1 h2;exact absurd (List.mem_cons_of_mem _ h2) h1
  ·omega
 ·omega
theorem Ag6{n k:Az}{c:Chg}{x:WSt}{R:Az→Int}{KK:List Az}(hn:n.length<256)(hk:k ∉ KK)(hr:0≤x.t.rev)(h:WInv (bndW n x.t.rev R (k::KK)) x.l):
 WInv (bndW n x.t.rev R KK) (Dw n k c x).l:=by
 rcases Q7 n k c x with e|⟨v,h1,h2,_⟩
 ·rw[e];exact⟨h.1,fun y hy=>⟨(h.2 y hy).1,(h.2 y hy).2.1,fun v hv=>⟨((h.2 y hy).2.2 v hv).1,Int.le_trans ((h.2 y hy).2.2 v hv).2 (Ah2 _)⟩⟩⟩
 ·rw[h2];have hw:C1 (B7 n k)=(n,k,true):=Mt hn;refine h.put Ah2 (by omega) ?_ ?_ ⟨n,k,rfl,hn⟩
  ·unfold bndW;rw[hw,if_pos rfl,if_pos (List.mem_cons_self ..)];omega
  ·unfold bndW;rw[hw,if_pos rfl,if_neg hk];omega
theorem Ahn{n:Az}{F:List Chg}{R:Az→Int}(hn:n.length<256):∀{KK:List Az} {x:WSt},KK.Nodup→0≤x.t.rev→WInv (bndW n x.t.rev R KK) x.l→
 WInv (bndW n x.t.rev R []) (Ge n F KK x).l∧(Ge n F KK x).t.rev=x.t.rev∧(Ge n F KK x).t.floor=x.t.floor
 | [],x,_,_,h=>⟨h,rfl,rfl⟩
 |k::KK,x,hd,hr,h=>by
  obtain⟨h1,h2⟩:=List.nodup_cons.1 hd;obtain⟨t1,t2⟩:=Agt n k (getF F k) x;have h3:=Ag6 (c:=getF F k) hn h1 hr h;have ih:=Ahn (F:=F) (R:=R) hn (KK:=KK) (x:=Dw n k (getF F k) x) h2 (by omega) (by rw[t1];exact h3)
  rw[t1,t2]at ih;exact ih
theorem Ah5{n:Az}{F:List Chg}:∀{KK:List Az} {x:WSt},(Ge n F KK x).w=false→Ge n F KK x=x
 | [],x,_=>rfl
 |k::KK,x,h=>by
  have ih:=Ah5 (n:=n) (F:=F) (KK:=KK) (x:=Dw n k (getF F k) x) h;change Ge n F KK (Dw n k (getF F k) x)=x;rw[ih];rcases Q7 n k (getF F k) x with e|⟨v,_,_,h2⟩
  ·exact e
  ·have h3:(Ge n F KK (Dw n k (getF F k) x)).w=false:=h;rw[ih,h2]at h3;cases h3
theorem Ah0{n:Az}{F:List Chg}(hn:n.length≤1000):∀{KK:List Az} {m m':Nat} {x:WSt},LBd m x.l→TBd m' x.t→(∀k∈KK,k.length≤64∧((getF F k).gone=true∨(getF F k).val.length≤256))→
 LBd (m+KK.length) (Ge n F KK x).l∧TBd (m'+KK.length) (Ge n F KK x).t
 | [],m,m',x,h1,h2,_=>⟨h1,h2⟩
 |k::KK,m,m',x,h1,h2,h3=>by
  obtain⟨a1,a2⟩:=h3 k (List.mem_cons_self ..);obtain⟨b1,b2,_,_⟩:=W4 (k:=k) (c:=getF F k) h1 h2 hn a1 a2;obtain⟨c1,c2⟩:=Ah0 (F:=F) hn (KK:=KK) b1 b2 fun k hk=>h3 k (List.mem_cons_of_mem _ hk)
  rw[List.length_cons,show m+(KK.length+1)=m+1+KK.length by omega,show m'+(KK.length+1)=m'+1+KK.length by omega]
  exact⟨c1,c2⟩
theorem Agz:∀{cs F FF:List Chg},K6 cs F=some FF→(F.map Chg.key).Nodup→(∀c∈F,c.ok)→(FF.map Chg.key).Nodup∧(∀c∈FF,c.ok)∧FF.length≤F.length+cs.length
 | [],F,FF,h,h1,h2=>by
   have h:some F=some FF:=h;cases h;exact⟨h1,h2,by simp⟩
 |c::r,F,FF,h,h1,h2=>by
  unfold K6 at h;split at h
  ·rename_i hc;obtain⟨a,b,d⟩:=Agz h (U5 h1) fun x hx=>by
    rcases Zn hx with h|h
    ·exact h2 x h
    ·subst h;exact hc
   have:=Zm F c;exact⟨a,b,by simp only[List.length_cons];omega⟩
  ·cases h
theorem Aid{n:Az}{t:Tal}:∀{sp:List (Az × Tal)} {i:Nat},sp.findIdx? (fun x=>decide (x.1=n))=some i→∀n',((sp.set i (n,t)).find? fun x=>decide (x.1=n')).map (·.2)=if n'=n then some t else(sp.find? fun x=>decide (x.1=n')).map (·.2)
 | [],i,h,_=>by simp at h
 |x::sp,i,h,n'=>by
  rw[List.findIdx?_cons]at h;by_cases hx:x.1=n
  ·simp only[hx,decide_true,if_true,Option.some.injEq]at h;subst h;rw[List.set_cons_zero,List.find?_cons,List.find?_cons];by_cases hn:n'=n
   ·subst hn;simp
   ·have h1:¬n=n':=fun e=>hn e.symm
    have h2:¬x.1=n':=by rw[hx];exact h1
    simp[h1,h2,hn]
  ·simp only[hx,decide_false,Bool.false_eq_true,if_false,Option.map_eq_some_iff]at h;obtain⟨j,hj,rfl⟩:=h;rw[List.set_cons_succ,List.find?_cons,List.find?_cons];by_cases hn:x.1=n'
   ·have:¬n'=n:=by rw[←hn];exact hx
    simp[hn,this]
   ·simp only[hn,decide_false];exact Aid hj n'
theorem Mi{s:Sto}{n:Az}{i:Nat}{t:Tal}{l:List Hld}(h:s.fi n=some i)(n':Az):(Sto.mk (s.sp.set i (n,t)) l).tal n'=if n'=n then t else s.tal n':=by
 unfold Sto.tal;have:=Aid (t:=t) h n';simp only at this ⊢;rw[this];split<;>rfl
theorem Ajf{s s':Sto}(h:s'.sp.map (·.1)=s.sp.map (·.1))(n:Az):s'.fi n=s.fi n:=by
 have h1:∀s:Sto,s.fi n=(s.sp.map (·.1)).findIdx? (fun x=>decide (x=n)):=fun s=>by unfold Sto.fi;rw[List.findIdx?_map];rfl
 rw[h1,h1,h]
theorem Agj{s:Sto}{n:Az}{i:Nat}{t:Tal}{l:List Hld}(h:s.fi n=some i):(Sto.mk (s.sp.set i (n,t)) l).sp.map (·.1)=s.sp.map (·.1):=by
 obtain⟨_,_,h3⟩:=Sto.fi_some h;dsimp only;rw[List.map_set];exact List.set_getElem?_self' (by rw[List.getElem?_map,h3];rfl)
theorem Aij{s:Sto}{n:Az}(h:s.fi n=none)(n':Az):({s with sp:=s.sp++[(n,tal0)]}:Sto).tal n'=s.tal n':=by
 unfold Sto.tal;dsimp only;rw[List.find?_append];cases hf:s.sp.find? fun x=>decide (x.1=n')with
 |some x=>rfl
 |none=>
  simp only[Option.none_or];rw[List.find?_cons];split<;>simp
structure SInv(m:Nat)(s:Sto):Prop where
 lb:LBd m s.l
 tb:∀n,TBd m (s.tal n)
 rv:∀n,0≤(s.tal n).floor∧(s.tal n).floor≤(s.tal n).rev∧(s.tal n).rev≤m
 wi:WInv (fun a=>(s.tal (C1 a).1).rev) s.l
 nm:∀x∈s.sp,x.1.length<256
 nd:(s.sp.map (·.1)).Nodup
theorem SInv.mono{m m':Nat}{s:Sto}(h:SInv m s)(hm:m≤m'):SInv m' s:=
 ⟨h.lb.mono hm,fun n=>(h.tb n).mono hm,fun n=>by have:=h.rv n;omega,h.wi,h.nm,h.nd⟩
theorem Ajr:SInv 0 ⟨[],[]⟩:=by
 have ht:∀n,(Sto.mk [] []).tal n=tal0:=fun n=>rfl
 refine⟨⟨Nat.le_refl _,by intro h hh;cases hh⟩,fun n=>?_,fun n=>?_,⟨List.Pairwise.nil,by intro h hh;cases hh⟩,(by intro h hh;cases hh),List.nodup_nil⟩
 ·rw[ht];exact⟨by decide,by decide,by decide⟩
 ·rw[ht];decide
theorem SInv.name{m:Nat}{s:Sto}(h:SInv m s){n:Az}{i:Nat}(hf:s.fi n=some i):n.length<256:=by
 obtain⟨_,_,h3⟩:=Sto.fi_some hf;exact h.nm _ (List.mem_of_getElem? h3)
theorem Ahj{l:List Az}(h:l.Nodup):(Dc l).Nodup:=(List.mergeSort_perm ..).nodup_iff.2 h
theorem Ajd(l:List Az):(Dc l).length=l.length:=List.length_mergeSort _
theorem Aje{l:List Az}{k:Az}:k∈Dc l↔k∈l:=(List.mergeSort_perm ..).mem_iff
def Sto.writeM(s:Sto)(n:Az)(cs:List Chg):Sto × Int × Int:=match s.fi n with
 |none=>(s,0,16)
 |some i=>match K6 cs []with
  |none=>(s,0,1)
  |some F=>(⟨s.sp.set i (n,(Ge n F (Dc (F.map Chg.key)) ⟨s.tal n,s.l,false⟩).fin),(Ge n F (Dc (F.map Chg.key)) ⟨s.tal n,s.l,false⟩).l⟩,(Ge n F (Dc (F.map Chg.key)) ⟨s.tal n,s.l,false⟩).fin.rev,0)
theorem Ajq{FF:List Chg}(h:∀c∈FF,c.ok){k:Az}(hk:k∈Dc (FF.map Chg.key)):k.length≤64∧((getF FF k).gone=true∨(getF FF k).val.length≤256):=by
 obtain⟨q,_,h2,h3⟩:=Adz (Aje.1 hk);have h4:=h _ (List.mem_of_getElem? h2);exact⟨by rw[←h3];exact h4.1.2,h4.2⟩
theorem SInv.start{m:Nat}{s:Sto}(h:SInv m s)(n:Az)(KK:List Az):WInv (bndW n (s.tal n).rev (fun n=>(s.tal n).rev) KK) s.l:=by
 refine⟨h.wi.1,fun x hx=>⟨(h.wi.2 x hx).1,(h.wi.2 x hx).2.1,fun v hv=>⟨((h.wi.2 x hx).2.2 v hv).1,?_⟩⟩⟩
 have h1:=((h.wi.2 x hx).2.2 v hv).2;dsimp only at h1;unfold bndW;split
 ·rename_i e;rw[e]at h1;split<;>omega
 ·exact h1
theorem SInv.write{m:Nat}{s:Sto}(h:SInv m s)(n:Az)(cs:List Chg):SInv (m+cs.length+1) (s.writeM n cs).1:=by
 unfold Sto.writeM;split
 ·exact h.mono (by omega)
 ·rename_i i hi;split
  ·exact h.mono (by omega)
  ·rename_i F hF;obtain⟨f1,f2,f3⟩:=Agz hF (by simp) (by simp)
   have hn:=h.name hi;have hs:=h.start n (Dc (F.map Chg.key));obtain⟨g1,g2,g3⟩:=Ahn (F:=F) (x:=⟨s.tal n,s.l,false⟩) hn (Ahj f1) (by have:=h.rv n;dsimp only;omega) hs
   obtain⟨b1,b2⟩:=Ah0 (n:=n) (F:=F) (x:=⟨s.tal n,s.l,false⟩) (KK:=Dc (F.map Chg.key)) (by omega) h.lb (h.tb n) fun k hk=>Ajq f2 hk
   have hw:=Ah5 (n:=n) (F:=F) (KK:=Dc (F.map Chg.key)) (x:=⟨s.tal n,s.l,false⟩);generalize Ge n F (Dc (F.map Chg.key)) ⟨s.tal n,s.l,false⟩=Z at*;dsimp only at g1 g2 g3 b1 b2 hw ⊢;rw[Ajd,List.length_map]at b1 b2;simp only[List.length_nil,Nat.zero_add]at f3;have hrv:=h.rv n;have hfin:Z.fin.floor=(s.tal n).floor∧Z.fin.rev=(if Z.w=true then(s.tal n).rev+1 else(s.tal n).rev)∧TBd (m+cs.length+1) Z.fin:=by
    have h5:=b2.mono (show m+F.length≤m+cs.length+1 by omega)
    obtain⟨c1,c2,c3⟩:=h5;unfold WSt.fin;split
    ·exact⟨g3,by rw[←g2],⟨c1,c2,c3⟩⟩
    ·exact⟨g3,g2,⟨c1,c2,c3⟩⟩
   refine⟨b1.mono (by omega),fun n'=>?_,fun n'=>?_,?_,?_,?_⟩
   ·rw[Mi hi];split
    ·exact hfin.2.2
    ·exact(h.tb n').mono (by omega)
   ·rw[Mi hi];split
    ·rw[hfin.1,hfin.2.1];split<;>omega
    ·have:=h.rv n';omega
   ·refine⟨g1.1,fun x hx=>⟨(g1.2 x hx).1,(g1.2 x hx).2.1,fun v hv=>⟨((g1.2 x hx).2.2 v hv).1,?_⟩⟩⟩
    dsimp only;rw[Mi hi];have h1:=((g1.2 x hx).2.2 v hv).2;unfold bndW at h1;split
    ·rename_i e;rw[if_pos e,if_neg (by simp)]at h1
     rw[hfin.2.1];cases hZ:Z.w with
     |true=>simp only[if_true];exact h1
     |false=>
      rw[hw hZ]at hx;have h9:=((h.wi.2 x hx).2.2 v hv).2;dsimp only at h9;rw[e]at h9;simpa using h9
    ·rename_i e;rw[if_neg e]at h1;exact h1
   ·intro x hx;rcases List.mem_or_eq_of_mem_set hx with hx|rfl
    ·exact h.nm x hx
    ·exact hn
   ·rw[Agj hi];exact h.nd
theorem SInv.open{m:Nat}{s:Sto}{nm:Bool}(h:SInv m s)(n:Az)(hn:nm=true→n.length<256):SInv m (s.openM nm n).1:=by
 unfold Sto.openM;split
 ·exact h
 ·rename_i hnm;split
  ·exact h
  ·rename_i hf;split
   ·exact h
   ·have hf:s.fi n=none:=by simpa using hf
    have ht:=Aij hf;refine⟨h.lb,fun n'=>by rw[ht];exact h.tb n',fun n'=>by rw[ht];exact h.rv n',⟨h.wi.1,fun x hx=>?_⟩,?_,?_⟩
    ·have h2:=h.wi.2 x hx;refine⟨h2.1,h2.2.1,fun v hv=>⟨(h2.2.2 v hv).1,?_⟩⟩
     have h3:=(h2.2.2 v hv).2;dsimp only at h3 ⊢;rw[ht];exact h3
    ·intro x hx;rcases List.mem_append.1 hx with hx|hx
     ·exact h.nm x hx
     ·simp only[List.mem_singleton]at hx;subst hx;exact hn (by simpa using hnm)
    ·dsimp only;rw[List.map_append,List.nodup_append];refine⟨h.nd,by simp,?_⟩
     intro a ha b hb e;simp only[List.map_cons,List.map_nil,List.mem_singleton]at hb;subst hb;subst e;obtain⟨x,hx,e⟩:=List.mem_map.1 ha;unfold Sto.fi at hf;rw[List.findIdx?_eq_none_iff]at hf;have:=hf x hx;simp[e]at this
def Pf(n:Az)(rev:Int)(h:Hld):Option Hld:=if(C1 h.at_).1=n then(if h.vs.length≤Lm rev h.vs then none else some ⟨h.at_,h.vs.drop (Lm rev h.vs)⟩)else some h
theorem Ahp{n:Az}{rev:Int}:∀{l:List Hld} {x:CSt},(Mz n rev l x).l=x.l++l.filterMap (Pf n rev)∧x.c≤(Mz n rev l x).c∧∀m:Nat,(∀h∈l,h.vs.length≤m)→(Mz n rev l x).c≤x.c+l.length*m
 | [],x=>⟨by simp[Mz],Int.le_refl _,fun m _=>by simp[Mz]⟩
 |h::r,x=>by
  obtain⟨i1,i2,i3⟩:=Ahp (n:=n) (rev:=rev) (l:=r) (x:=Uy n rev h x);unfold Mz;rw[i1,List.filterMap_cons];have hs:(Uy n rev h x).l=x.l++(Pf n rev h).toList∧x.c≤(Uy n rev h x).c∧(Uy n rev h x).c≤x.c+h.vs.length:=by
   unfold Uy Pf;split
   ·split
    ·exact⟨by simp,Int.le_refl _,by omega⟩
    ·exact⟨by simp,by(try dsimp only);omega,by(try dsimp only);omega⟩
   ·exact⟨by simp,Int.le_refl _,by dsimp only;omega⟩
  refine⟨?_,by omega,fun m hm=>?_⟩
  ·rw[hs.1,List.append_assoc];cases Pf n rev h<;>rfl
  ·have h1:=i3 m fun h hh=>hm h (List.mem_cons_of_mem _ hh)
   have h2:=hm h (List.mem_cons_self ..);rw[List.length_cons];have h3:((r.length+1:Nat):Int)*(m:Int)=r.length*m+m:=by rw[Int.natCast_add,Int.add_mul];simp
   omega
theorem Agy{n:Az}{rev:Int}{h h':Hld}(e:Pf n rev h=some h'):h'.at_=h.at_∧∃k,h'.vs=h.vs.drop k∧(h.vs≠[]→h'.vs≠[]):=by
 unfold Pf at e;split at e
 ·split at e
  ·cases e
  ·rename_i hk;cases e;exact⟨rfl,_,rfl,fun _ hn=>by rw[List.drop_eq_nil_iff]at hn;omega⟩
 ·cases e;exact⟨rfl,0,rfl,fun h=>h⟩
theorem Ah1{n:Az}{rev:Int}:∀{l:List Hld},((l.filterMap (Pf n rev)).map Hld.at_).Sublist (l.map Hld.at_)
 | []=>by simp
 |h::r=>by
  rw[List.filterMap_cons];cases e:Pf n rev h with
  |none=>exact List.Sublist.cons _ Ah1
  |some h'=>
   dsimp only;rw[List.map_cons,List.map_cons,(Agy e).1];exact List.Sublist.cons_cons _ Ah1
def Sto.compM(s:Sto)(n:Az)(rev:Int):Sto × Int:=match s.fi n with
 |none=>(s,16)
 |some i=>if s.compE n rev=0 then(⟨s.sp.set i (n,{s.tal n with floor:=rev,vers:=(Mz n rev s.l ⟨[],0⟩).c}),(Mz n rev s.l ⟨[],0⟩).l⟩,0)else(s,s.compE n rev)
theorem Aht{s:Sto}{n:Az}{rev:Int}(h:s.compE n rev=0):0≤rev∧rev≤(s.tal n).rev∧(s.tal n).floor≤rev:=by
 unfold Sto.compE at h;split at h
 ·omega
 ·split at h
  ·omega
  ·split at h<;>omega
theorem SInv.comp{m:Nat}{s:Sto}(h:SInv m s)(hm:m≤80000)(n:Az)(rev:Int):SInv m (s.compM n rev).1:=by
 unfold Sto.compM;split
 ·exact h
 ·rename_i i hi;split
  ·rename_i he;obtain⟨e1,e2,e3⟩:=Aht he;obtain⟨c1,c2,c3⟩:=Ahp (n:=n) (rev:=rev) (l:=s.l) (x:=⟨[],0⟩);have c4:=c3 80000 fun h' hh=>Nat.le_trans (h.lb.held h' hh).2.2.1 hm
   generalize Mz n rev s.l ⟨[],0⟩=Z at*;dsimp only at c1 c2 c4 ⊢;rw[List.nil_append]at c1;have hlen:=h.lb.len;have hc:Z.c≤10000000000:=by
    have:(s.l.length:Int)*80000≤80000*80000:=by omega
    omega
   obtain⟨t1,t2,t3⟩:=h.tb n;have hrv:=h.rv n;have hmem:∀x∈Z.l,∃y∈s.l,Pf n rev y=some x:=fun x hx=>by
    rw[c1]at hx;obtain⟨y,hy,hyx⟩:=List.mem_filterMap.1 hx;exact⟨y,hy,hyx⟩
   refine⟨⟨?_,fun x hx=>?_⟩,fun n'=>?_,fun n'=>?_,⟨?_,fun x hx=>?_⟩,?_,?_⟩
   ·dsimp only;rw[c1];exact Nat.le_trans (List.length_filterMap_le _ _) hlen
   ·obtain⟨y,hy,e⟩:=hmem x hx;obtain⟨a1,k,a2,a3⟩:=Agy e;obtain⟨b1,b2,b3,b4⟩:=h.lb.held y hy;refine⟨by rw[a1];exact b1,a3 b2,by rw[a2,List.length_drop];omega,fun v hv=>?_⟩
    rw[a2]at hv;exact b4 v (List.mem_of_mem_drop hv)
   ·rw[Mi hi];split
    ·exact⟨t1,t2,⟨by dsimp only;omega,by dsimp only;omega⟩⟩
    ·exact h.tb n'
   ·rw[Mi hi];split
    ·dsimp only;omega
    ·exact h.rv n'
   ·dsimp only;rw[c1];exact List.Pairwise.sublist Ah1 h.wi.1
   ·obtain⟨y,hy,e⟩:=hmem x hx;obtain⟨a1,k,a2,a3⟩:=Agy e;obtain⟨b1,b2,b3⟩:=h.wi.2 y hy;refine⟨by rw[a1];exact b1,by rw[a2];exact b2.drop k,fun v hv=>?_⟩
    rw[a2]at hv;have h1:=b3 v (List.mem_of_mem_drop hv);refine⟨h1.1,?_⟩;dsimp only;rw[Mi hi,a1];split
    ·rename_i e;have h9:=h1.2;dsimp only at h9;rw[e]at h9;exact h9
    ·exact h1.2
   ·intro x hx;rcases List.mem_or_eq_of_mem_set hx with hx|rfl
    ·exact h.nm x hx
    ·exact h.name hi
   ·rw[Agj hi];exact h.nd
  ·exact h

theorem Ajc(s:Az):(G9 s).toNat≤4:=by
 unfold G9;repeat' split
 all_goals decide
theorem Ahv:∀{f:Nat} {s:Az} {a n:Nat},Ey f s a n=true→s.length≤a+4*(24 - n)
 |0,s,a,n,h=>by simp[Ey]at h
 |f+1,s,a,n,h=>by
  unfold Ey at h;split at h
  ·rename_i hs;have:=List.getElem?_eq_none_iff.1 hs;omega
  ·dsimp only at h;have hk:=Ajc (s.drop a);generalize (G9 (s.drop a)).toNat=k at h hk;split at h
   ·cases h
   ·split at h
    ·cases h
    ·split at h
     ·cases h
     ·have:=Ahv h;omega
theorem Aha{s:Az}(h:D9 s=true):s.length<256:=by
 have:=Ahv h;omega
structure Opn where
 k:Int
 n:Az
 l:List Chg
 x:Sp
 rev:Int
 most:Int
def Opn.toI(o:Opn):I:=.agg [ti o.k,.str o.n,.list (o.l.map Chg.toI),o.x.toI,ti o.rev,ti o.most]
def Sto.stepM(s:Sto)(o:Opn):Sto:=if o.k=0 then(s.writeM o.n o.l).1 else if o.k=2 then(s.compM o.n o.rev).1 else if o.k=3 then(s.openM (D9 o.n) o.n).1 else s
theorem SInv.step{m:Nat}{s:Sto}(h:SInv m s)(o:Opn)(hm:m≤80000):SInv (m+o.l.length+1) (s.stepM o):=by
 unfold Sto.stepM;split
 ·exact h.write _ _
 ·split
  ·exact(h.comp hm _ _).mono (by omega)
  ·split
   ·exact(h.open _ Aha).mono (by omega)
   ·exact h.mono (by omega)
theorem Aiv{s:Sto}{n:Az}:(s.fi n).isSome=true↔n∈s.sp.map (·.1):=by
 unfold Sto.fi;rw[List.findIdx?_isSome,List.any_eq_true];constructor
 ·rintro⟨x,hx,e⟩;exact List.mem_map.2 ⟨x,hx,by simpa using e⟩
 ·intro h;obtain⟨x,hx,e⟩:=List.mem_map.1 h;exact⟨x,hx,by simpa using e⟩
theorem Gj(s:Sto)(o:Opn):∃l,(s.stepM o).sp.map (·.1)=s.sp.map (·.1)++l:=by
 unfold Sto.stepM;split
 ·unfold Sto.writeM;split
  ·exact⟨[],by simp⟩
  ·rename_i i hi;split
   ·exact⟨[],by simp⟩
   ·exact⟨[],by rw[Agj hi];simp⟩
 ·split
  ·unfold Sto.compM;split
   ·exact⟨[],by simp⟩
   ·rename_i i hi;split
    ·exact⟨[],by rw[Agj hi];simp⟩
    ·exact⟨[],by simp⟩
  ·split
   ·unfold Sto.openM;split
    ·exact⟨[],by simp⟩
    ·split
     ·exact⟨[],by simp⟩
     ·split
      ·exact⟨[],by simp⟩
      ·exact⟨[o.n],by simp⟩
   ·exact⟨[],by simp⟩
theorem F0{s:Sto}{o:Opn}{n:Az}(h:(s.fi n).isSome=true):((s.stepM o).fi n).isSome=true:=by
 rw[Aiv]at h ⊢;obtain⟨l,e⟩:=Gj s o;rw[e];exact List.mem_append_left _ h
theorem Ah4{s:Sto}{nm:Bool}{n n':Az}:(s.openM nm n).1.tal n'=s.tal n'∧(s.openM nm n).1.l=s.l:=by
 unfold Sto.openM;split
 ·exact⟨rfl,rfl⟩
 ·split
  ·exact⟨rfl,rfl⟩
  ·rename_i hf;split
   ·exact⟨rfl,rfl⟩
   ·exact⟨Aij (by simpa using hf) n',rfl⟩
theorem SInv.bd{m:Nat}{s:Sto}(h:SInv m s)(hm:m≤80000):s.Bd:=⟨by have:=h.lb.len;omega,fun x hx=>by obtain⟨a,b,c,_⟩:=h.lb.held x hx;exact⟨a,b,by omega⟩⟩
set_option maxRecDepth 100000
set_option maxHeartbeats 40000000

open Go.Proofs
abbrev r0:SV:=.own [] (.ptr (.st [.vec 50 4 []]))
theorem Fb(n:Az):Fn Tryd.prog Ach [r0,.v (.str n)] (Is (.v (ti (-1))) [r0,.no]):=by
 refine Acg ?_ (by simp)
 (skip)
 all_goals(try(conv=>whnf))
 refine LoopWq.by (X:=Unit) (fun _=>[]) (fun _=>True) (fun _=>0) () (by kernel_rfl) trivial ?_
 rintro _ _;repeat'((conv=>whnf);first|((with_reducible refine And.intro (fun hb=>?_) (fun hb=>?_))<;>first|(exact absurd hb (by decide))|((try rw[hb]);(try simp only[Aa]at hb)))|((with_reducible refine Exists.intro ?_ ?_);focus (and_intros<;>first|omega|(with_reducible rfl)|kernel_rfl|(simp;done)))|(with_reducible intro hfact))
 all_goals(try(conv=>whnf))
 (apply dKq<;>kernel_rfl)
theorem Hw(n:Az)(l:List I):Fn Tryd.prog Du [r0,.v (.str n),.v (.list l)] (Is (.tup [.i (ti 0),.i (ti 16)]) [r0,.no,.no]):=by
 refine Jd ?_ (by simp)
 have hf:=Fb n;repeat'((conv=>whnf);first|((with_reducible refine Ax (by first|((with_reducible refine decide_eq_true ?_);omega)|(with_reducible rfl)) (fun hb=>?_));(try rw[hb]);(try simp only[Aa]at hb))|((with_reducible refine Exists.intro ?_ ?_);focus (and_intros<;>first|kernel_rfl|(intro _ hh;cases hh;done)|(simp;done)|decide))|((with_reducible refine CallWp.mk ?_);refine⟨_,hf,?_⟩;rintro _ _ ⟨rfl,rfl⟩))
 all_goals(try(conv=>whnf))
 (apply dKq<;>kernel_rfl)
theorem Hv(n:Az)(x:Sp)(rev most:Int):Fn Tryd.prog B0 [r0,.v (.str n),.v x.toI,.v (ti rev),.v (ti most)] (Is (.tup [.i (.list []),.i (.bool false),.i (ti 16)]) [r0,.no,.no,.no,.no]):=by
 refine Bz ?_ (by simp)
 have hf:=Fb n;repeat'((conv=>whnf);first|((with_reducible refine Ax (by first|((with_reducible refine decide_eq_true ?_);omega)|(with_reducible rfl)) (fun hb=>?_));(try rw[hb]);(try simp only[Aa]at hb))|((with_reducible refine Exists.intro ?_ ?_);focus (and_intros<;>first|kernel_rfl|(intro _ hh;cases hh;done)|(simp;done)|decide))|((with_reducible refine CallWp.mk ?_);refine⟨_,hf,?_⟩;rintro _ _ ⟨rfl,rfl⟩))
 all_goals(try(conv=>whnf))
 (apply dKq<;>kernel_rfl)
theorem H7(n:Az)(rev:Int):Fn Tryd.prog Bh [r0,.v (.str n),.v (ti rev)] (Is (.v (ti 16)) [r0,.no,.no]):=by
 refine Bg ?_ (by simp)
 have hf:=Fb n;repeat'((conv=>whnf);first|((with_reducible refine Ax (by first|((with_reducible refine decide_eq_true ?_);omega)|(with_reducible rfl)) (fun hb=>?_));(try rw[hb]);(try simp only[Aa]at hb))|((with_reducible refine Exists.intro ?_ ?_);focus (and_intros<;>first|kernel_rfl|(intro _ hh;cases hh;done)|(simp;done)|decide))|((with_reducible refine CallWp.mk ?_);refine⟨_,hf,?_⟩;rintro _ _ ⟨rfl,rfl⟩))
 all_goals(try(conv=>whnf))
 (apply dKq<;>kernel_rfl)
abbrev r1(n:Az):SV:=.own [] (.ptr (.it (.agg [.list [.agg [.str n,ti 0,ti 0,.list []]]])))
theorem Jb(n:Az):Fn Tryd.prog Mg [r0,.v (.str n)] (Is (.v (ti (if D9 n=true then 0 else 5))) [if D9 n=true then r1 n else r0,.no]):=by
 refine B3 ?_ (by simp)
 have hf:=Fb n;have hn:=Amo n;generalize D9 n=b at hn ⊢;cases b with
 |false=>
  repeat'((conv=>whnf);first|((with_reducible refine And.intro (fun hb=>?_) (fun hb=>?_))<;>first|(exact absurd hb (by decide))|((try rw[hb]);(try simp only[Aa]at hb)))|((with_reducible refine Exists.intro ?_ ?_);focus (and_intros<;>first|(intro _ hh;cases hh;done)|(simp;done)|decide))|((with_reducible refine CallWp.mk ?_);refine⟨_,hn,?_⟩;rintro _ _ ⟨rfl,rfl⟩))
  all_goals(try(conv=>whnf))
  (apply dKq<;>kernel_rfl)
 |true=>
  repeat'((conv=>whnf);first|((with_reducible refine Aw (by first|((with_reducible refine decide_eq_false ?_);omega)|(with_reducible rfl)) (fun hb=>?_));(try rw[hb]);(try simp only[Aa]at hb))|((with_reducible refine And.intro (fun hb=>?_) (fun hb=>?_))<;>first|(exact absurd hb (by decide))|((try rw[hb]);(try simp only[Aa]at hb)))|((with_reducible refine Exists.intro ?_ ?_);focus (and_intros<;>first|omega|(with_reducible rfl)|kernel_rfl|(intro _ hh;cases hh;done)|(simp;done)|decide))|(with_reducible intro hfact)|((with_reducible refine CallWp.mk ?_);refine⟨_,hn,?_⟩;rintro _ _ ⟨rfl,rfl⟩)|((with_reducible refine CallWp.mk ?_);refine⟨_,hf,?_⟩;rintro _ _ ⟨rfl,rfl⟩))
  all_goals(try(conv=>whnf))
  refine LoopWq.by (X:=Unit) (fun _=>[]) (fun _=>True) (fun _=>0) () (by kernel_rfl) trivial ?_
  rintro _ _;repeat'((conv=>whnf);first|((with_reducible refine And.intro (fun hb=>?_) (fun hb=>?_))<;>first|(exact absurd hb (by decide))|((try rw[hb]);(try simp only[Aa]at hb)))|((with_reducible refine Exists.intro ?_ ?_);focus (and_intros<;>first|omega|(with_reducible rfl)|kernel_rfl|exact Ah (by rfl)|(simp only[LENS];omega)|(simp;done)))|(with_reducible intro hfact))
  all_goals(try(conv=>whnf))
  (apply dKq<;>kernel_rfl)
theorem Er(a b:List Pr)(ha:a.length≤100000):Fn Tryd.prog Cd [.v (.list (a.map Pr.toI)),.v (.list (b.map Pr.toI))] (Is (.v (.bool (decide (a=b)))) [.no,.no]):=by
 refine Cc ?_ (by simp)
 by_cases hl:a.length=b.length
 case neg=>
  have h1:¬(!decide (((a.map Pr.toI).length:Int)=((b.map Pr.toI).length:Int)))=false:=by simp;omega
  have h2:decide (a=b)=false:=decide_eq_false (fun e=>hl (by rw[e]))
  rw[h2];repeat'((conv=>whnf);first|((with_reducible refine Ax (by(with_reducible exact Bool.of_not_eq_false (by assumption))) (fun hb=>?_));(try rw[hb]);(try simp only[Aa]at hb))|((with_reducible refine Exists.intro ?_ ?_);focus (and_intros<;>(with_reducible rfl)))|(with_reducible intro hfact))
  all_goals(try(conv=>whnf))
  (apply dKq<;>kernel_rfl)
 have h1:¬(!decide (((a.map Pr.toI).length:Int)=((b.map Pr.toI).length:Int)))=true:=by simp;omega
 repeat'((conv=>whnf);first|((with_reducible refine Aw (by(with_reducible exact Bool.of_not_eq_true (by assumption))) (fun hb=>?_));(try rw[hb]);(try simp only[Aa]at hb))|((with_reducible refine Exists.intro ?_ ?_);focus (and_intros<;>(with_reducible rfl)))|(with_reducible intro hfact))
 all_goals(try(conv=>whnf))
 refine LoopWq.by (X:=Nat) (fun j=>[(5,.v (ti (j:Int)))]) (fun j=>j≤a.length∧a.take j=b.take j) (fun j=>a.length - j) 0 (by kernel_rfl) ⟨Nat.zero_le _,rfl⟩ ?_
 rintro j ⟨hj,hp⟩;dsimp only at hj hp ⊢;have hw:IntKind.i64.wrap ((j:Int)+1)=((j+1:Nat):Int):=(Bf (by omega)).trans (by omega)
 by_cases hjl:j<a.length
 case neg=>
  have h3:¬decide ((j:Int)<((a.map Pr.toI).length:Int))=true:=by simp;omega
  have h4:¬decide ((j:Int)<(a.length:Int))=true:=by simp;omega
  rw[List.take_of_length_le (by omega),List.take_of_length_le (by omega)]at hp
  rw[decide_eq_true hp];repeat'((conv=>whnf);first|((with_reducible refine Aw (by(with_reducible exact Bool.of_not_eq_true (by assumption))) (fun hb=>?_));(try rw[hb]);(try simp only[Aa]at hb))|((with_reducible refine Exists.intro ?_ ?_);focus (and_intros<;>(with_reducible rfl)))|(with_reducible intro hfact))
  all_goals(try(conv=>whnf))
  (apply dKq<;>kernel_rfl)
 obtain⟨x,hx⟩:∃x,a[j]?=some x:=⟨_,List.getElem?_eq_getElem hjl⟩;obtain⟨y,hy⟩:∃y,b[j]?=some y:=⟨_,List.getElem?_eq_getElem (by omega)⟩
 have h3:¬decide ((j:Int)<((a.map Pr.toI).length:Int))=false:=by simp;omega
 have h4:¬decide ((j:Int)<(a.length:Int))=false:=by simp;omega
 obtain⟨xk,xv,xm,xr⟩:=x;obtain⟨yk,yv,ym,yr⟩:=y;have hq:(decide (xk=yk)&&(decide (xv=yv)&&(decide (xm=ym)&&(decide (xr=yr)&&true))))=decide (Pr.mk xk xv xm xr=Pr.mk yk yv ym yr):=by rw[Bool.eq_iff_iff];simp
 have hta:a.take (j+1)=a.take j++[Pr.mk xk xv xm xr]:=by rw[List.take_add_one,hx];rfl
 have htb:b.take (j+1)=b.take j++[Pr.mk yk yv ym yr]:=by rw[List.take_add_one,hy];rfl
 by_cases he:Pr.mk xk xv xm xr=Pr.mk yk yv ym yr
 ·have g:¬(!(decide (xk=yk)&&(decide (xv=yv)&&(decide (xm=ym)&&(decide (xr=yr)&&true)))))=true:=by rw[hq];simp[he]
  have hnx:a.take (j+1)=b.take (j+1):=by rw[hta,htb,hp,he]
  repeat'((conv=>whnf);first|((with_reducible refine Ax (by first|(with_reducible assumption)|(with_reducible exact Bool.of_not_eq_false (by assumption))) (fun hb=>?_));(try rw[hb]);(try simp only[Aa]at hb))|((with_reducible refine Aw (by(with_reducible exact Bool.of_not_eq_true (by assumption))) (fun hb=>?_));(try rw[hb]);(try simp only[Aa]at hb))|((with_reducible refine Exists.intro ?_ ?_);focus (and_intros<;>first|omega|(with_reducible rfl)|kernel_rfl))|(with_reducible intro hfact)|((with_reducible refine Drawn.mkV ?_ ?_ ?_ (fun hfact=>?_));(focus kernel_rfl);(focus kernel_rfl);(focus kernel_rfl);(try simp only[dRS]at hfact))|((try dsimp only);(rw[B6 hx]))|((try dsimp only);(rw[B6 hy]))|(skip;rw[hw]))
  all_goals(try(conv=>whnf))
  refine Round.by (j+1) ?_ ⟨by omega,hnx⟩ (by omega)
  try dsimp only
  show norm _ _=upd _ _
  kernel_rfl
 ·have g:¬(!(decide (xk=yk)&&(decide (xv=yv)&&(decide (xm=ym)&&(decide (xr=yr)&&true)))))=false:=by rw[hq];simp[he]
  have hne:decide (a=b)=false:=by
   refine decide_eq_false fun e=>he ?_
   rw[e]at hx;exact Option.some.inj (hx.symm.trans hy)
  rw[hne];repeat'((conv=>whnf);first|((with_reducible refine Ax (by(with_reducible exact Bool.of_not_eq_false (by assumption))) (fun hb=>?_));(try rw[hb]);(try simp only[Aa]at hb))|((with_reducible refine Exists.intro ?_ ?_);focus (and_intros<;>first|omega|(with_reducible rfl)|kernel_rfl))|(with_reducible intro hfact)|((with_reducible refine Drawn.mkV ?_ ?_ ?_ (fun hfact=>?_));(focus kernel_rfl);(focus kernel_rfl);(focus kernel_rfl);(try simp only[dRS]at hfact))|((try dsimp only);(rw[B6 hx]))|((try dsimp only);(rw[B6 hy])))
  all_goals(try(conv=>whnf))
  (apply dKq<;>kernel_rfl)

def aw1:Sto:=⟨[([116],tal0)],[]⟩
def aw2:Sto:=⟨[([116],⟨1,0,4,2,2⟩)],[⟨[1,116,97],[⟨1,1,[49],false⟩]⟩,⟨[1,116,98],[⟨1,1,[50],false⟩]⟩]⟩
def aw3:Sto:=⟨[([116],⟨2,0,2,1,3⟩)],[⟨[1,116,97],[⟨1,1,[49],false⟩,⟨2,0,[],true⟩]⟩,⟨[1,116,98],[⟨1,1,[50],false⟩]⟩]⟩
def aw4:Sto:=⟨[([116],⟨2,2,2,1,1⟩)],[⟨[1,116,98],[⟨1,1,[50],false⟩]⟩]⟩
def awF1:List Chg:=[⟨[97],[49],false⟩,⟨[98],[50],false⟩]
def awF2:List Chg:=[⟨[97],[],true⟩]
theorem G4:Dc (awF1.map Chg.key)=[[97],[98]]:=by
 simp[Dc,awF1,List.mergeSort];simp[List.cons_merge_cons];decide
theorem G6:Dc (awF2.map Chg.key)=[[97]]:=by
 simp[Dc,awF2]
theorem Hq:K6 awF1 []=some awF1:=by rfl
theorem Hr:K6 awF2 []=some awF2:=by rfl
theorem H3:Ge [116] awF1 [[97],[98]] ⟨tal0,[],false⟩=⟨⟨0,0,4,2,2⟩,aw2.l,true⟩:=by rfl
theorem H4:Ge [116] awF2 [[97]] ⟨⟨1,0,4,2,2⟩,aw2.l,false⟩=⟨⟨1,0,2,1,3⟩,aw3.l,true⟩:=by rfl
theorem Ho:Mz [116] 2 aw3.l ⟨[],0⟩=⟨aw4.l,1⟩:=by rfl

open Go.RowKit Go.Maps Go.Sort Go.Shelf Go.Proofs
def Abr:Go.Shelf.Ren:=⟨fun|7=>70|10=>100|n=>n,fun|23=>119|26=>9|3=>38|28=>122|0=>0|27=>121|33=>116|4=>4|n=>n,fun|n=>n⟩
theorem Aeo:Go.Proofs.SlLaysZ.n7 Tryd.prog Abr where
 mixed:=by kernel_rfl
 f7:=⟨"maps.Keys[map[string]exchequer/api.Change,string,exchequer/api.Change]",by decide,Tryd.func70.trans (congrArg some (by kernel_rfl))⟩
 f10:=⟨"maps.Keys[map[string]exchequer/api.Change,string,exchequer/api.Change]$1",by decide,Tryd.func100.trans (congrArg some (by kernel_rfl))⟩
 t0:=Tryd.underlying0
 a0:=Tryd.isAgg0
 z0:=Tryd.sizeOf0
 v0:=Tryd.zeroValue0
 t4:=Tryd.underlying4
 a4:=Tryd.isAgg4
 z4:=Tryd.sizeOf4
 v4:=Tryd.zeroValue4
 t23:=Tryd.underlying119
 a23:=Tryd.isAgg119
 z23:=Tryd.sizeOf119
 v23:=Tryd.zeroValue119
 t26:=Tryd.underlying9
 a26:=Tryd.isAgg9
 z26:=Tryd.sizeOf9
 v26:=Tryd.zeroValue9
 t27:=Tryd.underlying121
 a27:=Tryd.isAgg121
 z27:=Tryd.sizeOf121
 v27:=Tryd.zeroValue121
 t28:=Tryd.underlying122
 a28:=Tryd.isAgg122
 z28:=Tryd.sizeOf122
 v28:=Tryd.zeroValue122
 t33:=Tryd.underlying116
 a33:=Tryd.isAgg116
 z33:=Tryd.sizeOf116
 v33:=Tryd.zeroValue116
def Pt:Go.Shelf.Ren:=⟨fun|6=>69|8=>98|9=>99|11=>115|13=>117|12=>116|23=>136|24=>137|14=>127|15=>128|16=>129|17=>130|18=>131|19=>132|20=>133|21=>134|22=>135|25=>140|26=>141|27=>142|28=>143|29=>144|30=>138|31=>146|n=>n,fun|26=>9|28=>122|24=>80|0=>0|3=>3|37=>174|48=>191|50=>193|4=>4|40=>184|39=>183|45=>159|5=>5|9=>9|51=>198|55=>202|57=>205|58=>44|33=>116|n=>n,fun|n=>n⟩
theorem Afh:Go.Proofs.SlLaysZ.n6 Tryd.prog Pt where
 mixed:=by kernel_rfl
 f6:=⟨"slices.Sorted[string]",by decide,Tryd.func69.trans (congrArg some (by kernel_rfl))⟩
 f8:=⟨"slices.Collect[string]",by decide,Tryd.func98.trans (congrArg some (by kernel_rfl))⟩
 f11:=⟨"slices.AppendSeq[[]string,string]",by decide,Tryd.func115.trans (congrArg some (by kernel_rfl))⟩
 t0:=Tryd.underlying0
 a0:=Tryd.isAgg0
 z0:=Tryd.sizeOf0
 v0:=Tryd.zeroValue0
 t24:=Tryd.underlying80
 a24:=Tryd.isAgg80
 z24:=Tryd.sizeOf80
 v24:=Tryd.zeroValue80
 t26:=Tryd.underlying9
 a26:=Tryd.isAgg9
 z26:=Tryd.sizeOf9
 v26:=Tryd.zeroValue9
 t28:=Tryd.underlying122
 a28:=Tryd.isAgg122
 z28:=Tryd.sizeOf122
 v28:=Tryd.zeroValue122
 i26:=by kernel_rfl
def Acs:Go.Shelf.Ren:=⟨fun|6=>99|8=>117|9=>116|19=>136|20=>137|21=>127|22=>128|23=>129|24=>130|25=>131|26=>132|27=>133|28=>134|29=>135|36=>140|31=>141|32=>142|37=>143|38=>144|39=>138|41=>146|n=>n,fun|27=>80|29=>9|3=>3|32=>174|26=>80|0=>0|44=>191|46=>193|4=>4|36=>184|35=>183|41=>159|5=>5|9=>9|53=>198|57=>202|63=>205|64=>44|n=>n,fun|n=>n⟩
theorem Aew:Go.Proofs.SlLaysM.n6 Tryd.prog Acs where
 mixed:=by kernel_rfl
 f6:=⟨"slices.Sort[[]string,string]",by decide,Tryd.func99.trans (congrArg some (by kernel_rfl))⟩
 f8:=Tryd.func117.trans (congrArg some (by kernel_rfl))
 f9:=⟨"slices.pdqsortOrdered[string]",by decide,Tryd.func116.trans (congrArg some (by kernel_rfl))⟩
 f19:=Tryd.func136.trans (congrArg some (by kernel_rfl))
 f20:=Tryd.func137.trans (congrArg some (by kernel_rfl))
 f21:=⟨"slices.insertionSortOrdered[string]",by decide,Tryd.func127.trans (congrArg some (by kernel_rfl))⟩
 f22:=⟨"slices.heapSortOrdered[string]",by decide,Tryd.func128.trans (congrArg some (by kernel_rfl))⟩
 f23:=⟨"slices.breakPatternsOrdered[string]",by decide,Tryd.func129.trans (congrArg some (by kernel_rfl))⟩
 f24:=⟨"slices.choosePivotOrdered[string]",by decide,Tryd.func130.trans (congrArg some (by kernel_rfl))⟩
 f25:=⟨"slices.reverseRangeOrdered[string]",by decide,Tryd.func131.trans (congrArg some (by kernel_rfl))⟩
 f26:=⟨"slices.partialInsertionSortOrdered[string]",by decide,Tryd.func132.trans (congrArg some (by kernel_rfl))⟩
 f27:=⟨"cmp.Less[string]",by decide,Tryd.func133.trans (congrArg some (by kernel_rfl))⟩
 f28:=⟨"slices.partitionEqualOrdered[string]",by decide,Tryd.func134.trans (congrArg some (by kernel_rfl))⟩
 f29:=⟨"slices.partitionOrdered[string]",by decide,Tryd.func135.trans (congrArg some (by kernel_rfl))⟩
 f31:=Tryd.func141.trans (congrArg some (by kernel_rfl))
 f32:=Tryd.func142.trans (congrArg some (by kernel_rfl))
 f36:=⟨"slices.siftDownOrdered[string]",by decide,Tryd.func140.trans (congrArg some (by kernel_rfl))⟩
 f37:=⟨"slices.medianAdjacentOrdered[string]",by decide,Tryd.func143.trans (congrArg some (by kernel_rfl))⟩
 f38:=⟨"slices.medianOrdered[string]",by decide,Tryd.func144.trans (congrArg some (by kernel_rfl))⟩
 f39:=⟨"cmp.isNaN[string]",by decide,Tryd.func138.trans (congrArg some (by kernel_rfl))⟩
 f41:=⟨"slices.order2Ordered[string]",by decide,Tryd.func146.trans (congrArg some (by kernel_rfl))⟩
 t0:=Tryd.underlying0
 a0:=Tryd.isAgg0
 z0:=Tryd.sizeOf0
 v0:=Tryd.zeroValue0
 t3:=Tryd.underlying3
 a3:=Tryd.isAgg3
 z3:=Tryd.sizeOf3
 v3:=Tryd.zeroValue3
 t4:=Tryd.underlying4
 a4:=Tryd.isAgg4
 z4:=Tryd.sizeOf4
 v4:=Tryd.zeroValue4
 t5:=Tryd.underlying5
 a5:=Tryd.isAgg5
 z5:=Tryd.sizeOf5
 v5:=Tryd.zeroValue5
 t9:=Tryd.underlying9
 a9:=Tryd.isAgg9
 z9:=Tryd.sizeOf9
 v9:=Tryd.zeroValue9
 t26:=Tryd.underlying80
 a26:=Tryd.isAgg80
 z26:=Tryd.sizeOf80
 v26:=Tryd.zeroValue80
 t27:=Tryd.underlying80
 a27:=Tryd.isAgg80
 z27:=Tryd.sizeOf80
 v27:=Tryd.zeroValue80
 t29:=Tryd.underlying9
 a29:=Tryd.isAgg9
 z29:=Tryd.sizeOf9
 v29:=Tryd.zeroValue9
 t32:=Tryd.underlying174
 a32:=Tryd.isAgg174
 z32:=Tryd.sizeOf174
 v32:=Tryd.zeroValue174
 t35:=Tryd.underlying183
 a35:=Tryd.isAgg183
 z35:=Tryd.sizeOf183
 v35:=Tryd.zeroValue183
 t36:=Tryd.underlying184
 a36:=Tryd.isAgg184
 z36:=Tryd.sizeOf184
 v36:=Tryd.zeroValue184
 t41:=Tryd.underlying159
 a41:=Tryd.isAgg159
 z41:=Tryd.sizeOf159
 v41:=Tryd.zeroValue159
 t44:=Tryd.underlying191
 a44:=Tryd.isAgg191
 z44:=Tryd.sizeOf191
 v44:=Tryd.zeroValue191
 t46:=Tryd.underlying193
 a46:=Tryd.isAgg193
 z46:=Tryd.sizeOf193
 v46:=Tryd.zeroValue193
 t53:=Tryd.underlying198
 a53:=Tryd.isAgg198
 z53:=Tryd.sizeOf198
 v53:=Tryd.zeroValue198
 t57:=Tryd.underlying202
 a57:=Tryd.isAgg202
 z57:=Tryd.sizeOf202
 v57:=Tryd.zeroValue202
 t63:=Tryd.underlying205
 a63:=Tryd.isAgg205
 z63:=Tryd.sizeOf205
 v63:=Tryd.zeroValue205
 t64:=Tryd.underlying44
 a64:=Tryd.isAgg44
 z64:=Tryd.sizeOf44
 v64:=Tryd.zeroValue44
def Gw:Go.Shelf.Ren:=⟨fun|7=>85|10=>111|n=>n,fun|23=>109|26=>9|3=>113|28=>122|0=>0|27=>121|33=>116|4=>4|n=>n,fun|n=>n⟩
theorem Hj:Go.Proofs.SlLaysZ.n7 Tryd.prog Gw where
 mixed:=by kernel_rfl
 f7:=⟨"maps.Keys[map[string]*exchequer/store.tally,string,*exchequer/store.tally]",by decide,Tryd.func85.trans (congrArg some (by kernel_rfl))⟩
 f10:=⟨"maps.Keys[map[string]*exchequer/store.tally,string,*exchequer/store.tally]$1",by decide,Tryd.func111.trans (congrArg some (by kernel_rfl))⟩
 t0:=Tryd.underlying0
 a0:=Tryd.isAgg0
 z0:=Tryd.sizeOf0
 v0:=Tryd.zeroValue0
 t4:=Tryd.underlying4
 a4:=Tryd.isAgg4
 z4:=Tryd.sizeOf4
 v4:=Tryd.zeroValue4
 t23:=Tryd.underlying109
 a23:=Tryd.isAgg109
 z23:=Tryd.sizeOf109
 v23:=Tryd.zeroValue109
 t26:=Tryd.underlying9
 a26:=Tryd.isAgg9
 z26:=Tryd.sizeOf9
 v26:=Tryd.zeroValue9
 t27:=Tryd.underlying121
 a27:=Tryd.isAgg121
 z27:=Tryd.sizeOf121
 v27:=Tryd.zeroValue121
 t28:=Tryd.underlying122
 a28:=Tryd.isAgg122
 z28:=Tryd.sizeOf122
 v28:=Tryd.zeroValue122
 t33:=Tryd.underlying116
 a33:=Tryd.isAgg116
 z33:=Tryd.sizeOf116
 v33:=Tryd.zeroValue116
theorem Afi(m:Nat):AnyZ.SortsIn Tryd.prog Pt Fence.wide m:=
 ⟨fun blk off cap ss W hH hblk hsz=>callsIn_wide.2 (AnyM.slices_Sort_string Aew blk off cap ss W hH hblk hsz),
  fun p cap W=>callsIn_wide.2 (AnyM.slices_Sort_string_none Aew p cap W)⟩
theorem Aep:Aek 119:=KeysC.of Aeo
theorem Adx:∀args w,(callFunc 99 args).run Tryd.prog w= .ok (.enter 99 args) w:=enters_of Tryd.func99 (by kernel_rfl) rfl
theorem Abi:∀args w,(callFunc 100 args).run Tryd.prog w= .ok (.enter 100 args) w:=enters_of Tryd.func100 (by kernel_rfl) rfl
set_option maxHeartbeats 4000000 in
theorem Aex:Aem 9:=by
 have h:=SortedC.of Afh Aeo Afi Adx Abi;exact h
set_option maxHeartbeats 4000000 in
theorem ofC:Zb:=by
 refine⟨27,9,fun v1 v2 W h1 h2=>?_⟩
 go_enter Tryd.func79,Tryd.ntmps79
 go_wp2
 all_goals first
  |(go_ret;exact⟨rfl,rfl⟩)
  |(exfalso;simp[Value.oneCell']at h1;done)
  |(exfalso;simp[Value.oneCell']at h2;done)
set_option maxHeartbeats 4000000

open Go.Proofs Go.Shelf
theorem decL:Lays.n197 Tryd.prog ⟨fun n=>if n=197 then 114 else if n=260 then 126 else n,fun n=>if n=46 then 174 else if n=105 then 169 else if n=119 then 194 else if n=138 then 196 else if n=139 then 197 else n,fun n=>if n=3 then 0 else 1⟩ where
 mixed:=by kernel_rfl
 f197:=by kernel_rfl
 f260:=by kernel_rfl
 t0:=by kernel_rfl
 a0:=fun _=>by kernel_rfl
 z0:=fun _=>by kernel_rfl
 v0:=fun _=>by kernel_rfl
 t3:=by kernel_rfl
 a3:=fun _=>by kernel_rfl
 z3:=fun _=>by kernel_rfl
 v3:=fun _=>by kernel_rfl
 t4:=by kernel_rfl
 a4:=fun _=>by kernel_rfl
 z4:=fun _=>by kernel_rfl
 v4:=fun _=>by kernel_rfl
 t5:=by kernel_rfl
 a5:=fun _=>by kernel_rfl
 z5:=fun _=>by kernel_rfl
 v5:=fun _=>by kernel_rfl
 t9:=by kernel_rfl
 a9:=fun _=>by kernel_rfl
 z9:=fun _=>by kernel_rfl
 v9:=fun _=>by kernel_rfl
 t21:=by kernel_rfl
 a21:=fun _=>by kernel_rfl
 z21:=fun _=>by kernel_rfl
 v21:=fun _=>by kernel_rfl
 t46:=by kernel_rfl
 a46:=fun _=>by kernel_rfl
 z46:=fun _=>by kernel_rfl
 v46:=fun _=>by kernel_rfl
 t105:=by kernel_rfl
 a105:=fun _=>by kernel_rfl
 z105:=fun _=>by kernel_rfl
 v105:=fun _=>by kernel_rfl
 t119:=by kernel_rfl
 a119:=fun _=>by kernel_rfl
 z119:=fun _=>by kernel_rfl
 t138:=by kernel_rfl
 a138:=fun _=>by kernel_rfl
 z138:=fun _=>by kernel_rfl
 v138:=fun _=>by kernel_rfl
 t139:=by kernel_rfl
 a139:=fun _=>by kernel_rfl
 z139:=fun _=>by kernel_rfl
 v139:=fun _=>by kernel_rfl
 g3:=by kernel_rfl
 g4:=by kernel_rfl
abbrev Ex:FuncId:=114
theorem X6(s:Az):Fn Tryd.prog Ex [.v (.str s)] (Is (.tup [.i (.int .i32 (Lib.decodeGo ⟨⟨s⟩⟩).1),.i (.int .i64 (Lib.decodeGo ⟨⟨s⟩⟩).2)]) [.no]):=by
 intro G σ Fr w cargs hok hcl hargs;have hc0:RepV G (.str s) (cargs.getD 0 undef):=(hargs 0 _ rfl).2;obtain⟨hc0,_⟩:=RepV.str.1 hc0;have hca:cargs= #[.string ⟨⟨s⟩⟩]:=by
  rw[←hc0];apply Array.ext
  ·simpa using hcl
  ·intro j h1 h2;have:j=0:=by simp at h2;omega
   subst this;simp[Array.getD,h1]
 have hcall:=Any.utf8_DecodeRuneInString decL ⟨⟨s⟩⟩ w (hok.amb w hok.fixed);rw[hca];refine Calls.mono hcall ?_;rintro e w' ⟨rfl,hb⟩;have keep:∀(M:Mem),(∀b o,M b=some o→w.heap[b]?=some o)→∀b o,M b=some o→w'.heap[b]?=some o:=by
  intro M hM b o hm;have h1:=hM b o hm;rw[hb.block b (Array.getElem?_eq_some_iff.1 h1).1];exact h1
 refine⟨_,_,_,G,fun _=>none,rfl,⟨rfl,rfl⟩,Mem.le.refl G,⟨keep G hok.fixed,fun b lab h=>by(cases h),fun b b' lab h=>by(cases h),keep Fr hok.frame,hb.os,hb.tape,hb.output,hb.size,hok.apart,hok.amb⟩,rfl,⟨_,rfl,?_⟩,rfl,?_⟩
 ·exact⟨_,_,rfl,RepV.int.2 rfl,_,_,rfl,RepV.int.2 rfl,rfl⟩
 intro i sv hi;have:sv= .no:=by
  have:=List.mem_of_getElem? hi;simpa using this
 subst this;exact⟨rfl,trivial⟩

open Go
theorem E7(l:Az)(k:Nat):(⟨⟨l⟩⟩:ByteArray).get! k=(l[k]?).getD 0:=by
 show(l.toArray)[k]! =_;rw[List.getElem!_toArray,List.getElem!_eq_getElem?_getD];rfl
theorem Gp(s:Az)(p:Nat):Kt s p=Kt (s.drop p) 0:=by
 have hg:∀k,(⟨⟨s⟩⟩:ByteArray).get! (p+k)=(⟨⟨s.drop p⟩⟩:ByteArray).get! (0+k):=fun k=>by
  rw[E7,E7,List.getElem?_drop,Nat.zero_add]
 have hs:∀k,decide (p+k<(⟨⟨s⟩⟩:ByteArray).size)=decide (0+k<(⟨⟨s.drop p⟩⟩:ByteArray).size):=fun k=>by
  show decide (p+k<s.length)=decide (0+k<(s.drop p).length);rw[List.length_drop]
  congr 1
  rw[eq_iff_iff];omega
 unfold Kt Utf8.decode;simp only[hg,hs]
end Go.Ab
