/- Lemmas -/
import Derived.Test.YtkpojedpcabojaaGreatDoorWM
set_option linter.unusedVariables false
set_option linter.unusedSimpArgs false
namespace Go.Ab
theorem A78:∀{a b:List Kv},V6 a→V6 b→a.Perm b→a=b
 | [],b,_,_,h=>(List.nil_perm.1 h).symm
 |x::a,[],_,_,h=>absurd h.length_eq (by simp)
 |x::a,y::b,h1,h2,h=>by
  obtain⟨a1,a2⟩:=B1.1 h1;obtain⟨b1,b2⟩:=B1.1 h2;have e:x=y:=by
   have m1:x∈y::b:=h.mem_iff.1 (Ar ..);have m2:y∈x::a:=h.mem_iff.2 (Ar ..);rcases Ah.1 m1 with e|m1
   ·exact e
   ·rcases Ah.1 m2 with e|m2
    ·exact e.symm
    ·exact absurd (E2 (a1 y m2) (b1 x m1)) (Dt _)
  subst e;rw[A78 a2 b2 (List.perm_cons x |>.1 h)]
structure Rgt(l:List Cv):Prop where
 h8:l.length≤8
 so:l.Pairwise fun a b=>a.name<b.name
 nm:∀p∈l,p.name.length<256
 bd:∀p∈l,0≤p.floor∧p.floor≤p.rev∧p.rev≤1099511627776
 ks:∀p∈l,V6 p.keys
 kv:∀p∈l,∀h∈p.keys,(1≤h.key.length∧h.key.length≤64)∧h.vs≠[]∧U4 h.vs∧∀v∈h.vs,1≤v.rev∧v.rev≤p.rev∧v.val.length≤256∧(v.gone=false→1≤v.made∧v.made≤v.rev)
theorem Aye{l:List Cv}(hr:Sz l=true):Rgt l:=by
 unfold Sz at hr;split at hr
 ·cases hr
 rename_i h8;obtain⟨q1,q2⟩:=Ayz hr;refine⟨by omega,q1,fun p hp=>?_,fun p hp=>?_,fun p hp=>(Anj (q2 p hp).2.2).1,fun p hp h hh=>Bjf ((Anj (q2 p hp).2.2).2 h hh).1⟩
 ·have:=(q2 p hp).1;unfold Av8 at this;simp only[Ad]at this;exact Zx this.1
 ·have:=(q2 p hp).1;unfold Av8 at this;simp only[Ad,decide_eq_true_eq]at this;exact this.2
theorem Rgt.nd{l:List Cv}(h:Rgt l):(l.map Cv.name).Nodup:=
 List.pairwise_map.2 (h.so.imp fun {a b} h e=>by rw[e]at h;exact Dt _ h)
theorem Bjp{l:List Cv}(hR:Rgt l){M:Nat}(hM:Rk l≤M){d:List C0}(hp:d.Perm (Kg l))(hs:P6 d):
 G6 M (Wh l d)∧Ro (Wh l d)∧Vu (Wh l d)∧(Wh l d).ref=l∧(Wh l d).sp.length≤8:=by
 have F5:=hR.nd;have hm:∀x∈d,∃p∈l,∃h∈p.keys,x=⟨Cp p.name h.key,h.vs⟩:=fun x hx=>Anm (hp.mem_iff.1 hx)
 have Bmf:∀x∈d,Sg x.at_:=fun x hx=>by
  obtain⟨p,Ju,h,_,rfl⟩:=hm x hx;exact⟨p.name,h.key,rfl,hR.nm p Ju⟩
 have hlen:d.length≤M:=by rw[hp.length_eq];exact C2 Ad7 hM
 have Bwf:∀p∈l,(0≤Ut p.keys∧Ut p.keys≤M)∧(0≤Us p.keys∧Us p.keys≤320*M)∧0≤Uu p.keys∧Uu p.keys≤M:=fun p Ju=>by
  obtain⟨a,b,c,e⟩:=Bdg (ks:=p.keys) fun h hh=>⟨(hR.kv p Ju h hh).1.2,fun v hv=>((hR.kv p Ju h hh).2.2.2 v hv).2.2.1⟩
  have:=Wj Ju;exact⟨by omega,by omega,by omega⟩
 have hlb:U3 M d:=by
  refine⟨hlen,fun x hx=>?_⟩
  obtain⟨p,Ju,h,hh,rfl⟩:=hm x hx;obtain⟨k1,k2,k3,k4⟩:=hR.kv p Ju h hh;have h1:=Wj Ju;have h2:=Ahc (f:=fun h:Kv=>h.vs.length) hh
  have h3:=hR.nm p Ju;exact⟨by simp[Cp];omega,k2,by dsimp only at h2 ⊢;omega,fun v hv=>C2 (k4 v hv).2.2.1 (by omega)⟩
 have htb:∀n,TBd M ((Wh l d).De n):=fun n=>by
  rw[Abr];cases hf:l.find? (fun q=>decide (q.name=n))with
  |none=>exact⟨by simp[Ny];omega,by simp[Ny];omega,by simp[Ny];omega⟩
  |some p=>
   obtain⟨a,b,c⟩:=Bwf p (List.mem_of_find?_eq_some hf);exact⟨by simp only[Un];omega,by simp only[Un];omega,by simp only[Un];omega⟩
 have Ti:∀n,0≤((Wh l d).De n).floor∧((Wh l d).De n).floor≤((Wh l d).De n).rev∧((Wh l d).De n).rev≤1099511627776+M:=fun n=>by
  rw[Abr];cases hf:l.find? (fun q=>decide (q.name=n))with
  |none=>simp only[Ny];omega
  |some p=>
   have:=hR.bd p (List.mem_of_find?_eq_some hf);simp only[Un];omega
 have hwi:Wp (fun a=>((Wh l d).De (Cz a).1).rev) d:=by
  refine⟨hs,fun x hx=>?_⟩
  have hl:=Bmf x hx;obtain⟨p,Ju,h,hh,rfl⟩:=hm x hx;obtain⟨k1,k2,k3,k4⟩:=hR.kv p Ju h hh;refine⟨hl,k3,fun v hv=>?_⟩
  dsimp only;rw[D3 (hR.nm p Ju),Abr];dsimp only;rw[Amm F5 Ju];exact⟨(k4 v hv).1,(k4 v hv).2.1⟩
 have Bq0:(Wh l d).names=l.map Cv.name:=by
  unfold A6.names Wh;dsimp only;rw[List.map_map];show Fz (l.map Cv.name)=_;exact Ajj (Ada _) (List.pairwise_map.2 (hR.so.imp fun h=>List.le_of_lt h)) (Hy ..)
 refine⟨⟨hlb,htb,Ti,hwi,fun x hx=>?_,?_⟩,⟨fun n=>?_,fun x hx=>?_⟩,fun n=>?_,?_,?_⟩
 ·obtain⟨p,Ju,rfl⟩:=Cs.1 hx;exact hR.nm p Ju
 ·show((l.map fun p=>(p.name,Un p)).map (·.1)).Nodup
  rw[List.map_map];exact F5
 ·rw[Abr];show _=Gv (fK n) d∧_=Gv (fB n) d;rw[Ay5 hp,Ay5 hp,Acd (n:=n) (Gv (fK n)) (· + ·) 0 Ut rfl (Adc _) (fun a=>Int.add_zero a) (fun a=>Int.zero_add a) (fun p hp=>A65 hp) hR.nm F5,
   Acd (n:=n) (Gv (fB n)) (· + ·) 0 Us rfl (Adc _) (fun a=>Int.add_zero a) (fun a=>Int.zero_add a) (fun p hp=>A64 hp) hR.nm F5]
  cases l.find? (fun q=>decide (q.name=n))<;>exact⟨rfl,rfl⟩
 ·obtain⟨p,Ju,h,hh,rfl⟩:=hm x hx;obtain⟨k1,k2,k3,k4⟩:=hR.kv p Ju h hh;dsimp only;rw[D3 (hR.nm p Ju)];exact⟨k1.2,fun v hv=>(k4 v hv).2.2.2⟩
 ·rw[Abr];show _=Jv n d;rw[Bg6 hp,Acd (n:=n) (Jv n) (· + ·) 0 Uu rfl (Ajr n) (fun a=>Int.add_zero a) (fun a=>Int.zero_add a) (fun p hp=>Bcq hp) hR.nm F5]
  cases l.find? (fun q=>decide (q.name=n))<;>rfl
 ·unfold A6.ref;rw[Bq0,List.map_map]
  conv=>rhs;rw[←List.map_id l]
  refine List.map_congr_left fun p Ju=>?_
  show(Wh l d).Hm p.name=p;have hf:=Amm F5 Ju;have Vd:keysOf p.name d=p.keys:=by
   have h1:=A58 (n:=p.name) hR.nm F5;rw[hf]at h1;have h1:keysOf p.name (Kg l)=p.keys:=h1;refine A78 (We hs Bmf) (hR.ks p Ju) ?_;rw[←h1];exact hp.filterMap _
  unfold A6.Hm;rw[Abr,hf];show(⟨p.name,p.rev,p.floor,keysOf p.name d⟩:Cv)=p;rw[Vd]
 ·show(l.map fun p=>(p.name,Un p)).length≤8
  rw[An];exact hR.h8

def Acv(x:List UInt8 × D):D:=.st [.it (.str x.1),x.2]
structure Boy(l:List D)(K:List D→Prop):Prop where
 out:∃L:List (List UInt8 × D),l=L.map Acv∧(∀x∈L,x.2.size=1)∧L.length≤1000000∧∀L',L.Perm L'→(L'.Pairwise fun a b=>¬b.1<a.1)→K (L'.map Acv)
def Ng:List (List UInt8 × Value)→List Value
 | []=>[]
 |x::r=>.string ⟨⟨x.1⟩⟩::x.2::Ng r
theorem Zo:∀l:List (List UInt8 × Value),(Ng l).length=2*l.length
 | []=>rfl
 |x::r=>by simp only[Ng,Cg,Zo r];omega
structure A0x(P:Program)(f F:FuncId):Prop where
 some:∀(g cap:Nat) (xs:List (List UInt8 × Value)) (cells:Array Value) (ty:TypeId) (W:World),W.heap[g]?=some (.cells cells ty (0,0))→cells.toList.take (2*xs.length)=Ng xs→(∀x∈xs,x.2.oneCell'=true)→xs.length≤1000000→
  Calls P f #[.slice (some ⟨g,0,none⟩) xs.length cap,.func (.func F) #[] #[]] W fun e w'=>e= .returned (.tuple #[])∧∃xs',xs.Perm xs'∧(xs'.Pairwise fun a b=>¬b.1<a.1)∧(Hg W g (.cells (Ng xs'++cells.toList.drop (2*xs.length)).toArray ty (0,0))).grownBy w' none
 none:∀(W:World),Calls P f #[.slice none 0 0,.func (.func F) #[] #[]] W fun e w'=>e= .returned (.tuple #[])∧W.grownBy w' none
section
variable{P:Program}{N:Nat}{G:Mem}{σ:Lab}{Fr:Mem}{w0:Base}{w:World}{st:St}{a:Act}
abbrev Zel:=(List UInt8 × D) × Value × List Nat
def Zel.ok(G:Mem)(w:World)(z:Zel):Prop:=Bp G w z.1.2 [z.2.1] z.2.2∧z.1.1.length≤maxLen
def Aao:List Zel→List Nat
 | []=>[]
 |z::r=>z.2.2++Aao r
theorem Arz:∀{L:List (List UInt8 × D)} {xs:List Value} {bs:List Nat},(∀x∈L,x.2.size=1)→Ct G w (L.map Acv) xs bs→∃Z:List Zel,L=Z.map (·.1)∧xs=Ng (Z.map fun z=>(z.1.1,z.2.1))∧bs=Aao Z∧∀z∈Z,z.ok G w
 | [],xs,bs,_,h=>by
   simp only[C5,Ct]at h;obtain⟨rfl,rfl⟩:=h;exact⟨[],rfl,rfl,rfl,by simp⟩
 |x::L,xs,bs,hs,h=>by
  simp only[A0,Ct]at h;obtain⟨c,c',b,b',rfl,rfl,h1,h2⟩:=h;obtain⟨Z,rfl,rfl,rfl,h3⟩:=Arz (fun y hy=>hs y (Au _ hy)) h2
  simp only[Acv,Bp,Ct]at h1;obtain⟨c1,c2,b1,b2,rfl,rfl,⟨h4,rfl⟩,c3,c4,b3,b4,rfl,rfl,h5,rfl,rfl⟩:=h1;simp only[Bi]at h4;obtain⟨rfl,h6⟩:=h4;have h7:=Bp.length h5;rw[hs x (Ar ..)]at h7;obtain⟨v,rfl⟩:=E8.1 h7;refine⟨(x,v,b3)::Z,rfl,rfl,by simp[Aao],fun z hz=>?_⟩
  rcases Ah.1 hz with rfl|hz
  ·exact⟨h5,h6⟩
  ·exact h3 z hz
theorem A3d:∀{Z:List Zel},(∀z∈Z,z.ok G w)→Ct G w ((Z.map (·.1)).map Acv) (Ng (Z.map fun z=>(z.1.1,z.2.1))) (Aao Z)
 | [],_=>by simp[Ct,Ng,Aao]
 |z::Z,h=>by
  obtain⟨h1,h2⟩:=h z (Ar ..);simp only[A0,Ct,Ng,Aao];refine⟨[.string ⟨⟨z.1.1⟩⟩,z.2.1],_,z.2.2,_,rfl,rfl,?_,A3d fun y hy=>h y (Au _ hy)⟩
  simp only[Acv,Bp,Ct];exact⟨[.string ⟨⟨z.1.1⟩⟩],[z.2.1],[],z.2.2,rfl,rfl,⟨by simp only[Bi,true_and];exact h2,rfl⟩,[z.2.1],[],z.2.2,[],rfl,by simp,h1,rfl,rfl⟩
theorem Afv{α β:Type}(f:α→β){l:List β}{b:List β}(h:l.Perm b):∀{a:List α},l=a.map f→∃a',a.Perm a'∧a'.map f=b:=by
 induction h with
 |nil=>intro a e;exact⟨[],by rw[List.map_eq_nil_iff.1 e.symm],rfl⟩
 |cons x _ ih=>
  intro a e;obtain⟨y,r,rfl,rfl,rfl⟩:=List.map_eq_cons_iff.1 e.symm;obtain⟨r',h1,h2⟩:=ih rfl;exact⟨y::r',h1.cons y,by rw[A0,h2]⟩
 |swap x y l=>
  intro a e;obtain⟨u,r,rfl,rfl,e2⟩:=List.map_eq_cons_iff.1 e.symm;obtain⟨v,r,rfl,rfl,rfl⟩:=List.map_eq_cons_iff.1 e2;exact⟨v::u::r,List.Perm.swap v u r,rfl⟩
 |trans _ _ h1 h2=>
  intro a e;obtain⟨a1,q1,q2⟩:=h1 e;obtain⟨a2,q3,q4⟩:=h2 q2.symm;exact⟨a2,q1.trans q3,q4⟩
theorem Bhb{a b:List Zel}(h:a.Perm b):(Aao a).Perm (Aao b):=by
 induction h with
 |nil=>exact List.Perm.refl _
 |cons x _ ih=>exact ih.append_left _
 |swap x y l=>
  simp only[Aao, ←A8];exact(List.perm_append_comm).append_right _
 |trans _ _ h1 h2=>exact h1.trans h2
theorem A5j{z:Zel}{x:Nat}:∀{Z:List Zel},z∈Z→x∈z.2.2→x∈Aao Z
 |y::Z,h,hx=>by
  simp only[Aao,Aj];rcases Ah.1 h with rfl|h
  ·exact .inl hx
  ·exact .inr (A5j h hx)
theorem Axj:∀{a b:List (List UInt8 × Value)},Ng a=Ng b→a=b
 | [],[],_=>rfl
 | [],y::b,h=>by simp[Ng]at h
 |x::a,[],h=>by simp[Ng]at h
 |x::a,y::b,h=>by
  simp only[Ng,Em]at h;obtain⟨h1,h2,h3⟩:=h;have h1:x.1=y.1:=by simpa using h1
  rw[Axj h3];cases x;cases y;simp only at h1 h2;rw[h1,h2]
theorem A5p:∀{A B:List Zel},A.map (·.1)=B.map (·.1)→A.map (fun z=>(z.1.1,z.2.1))=B.map (fun z=>(z.1.1,z.2.1))→(A.zip B).map Prod.fst=A∧(A.zip B).map Prod.snd=B∧∀p∈A.zip B,p.1.1=p.2.1∧p.1.2.1=p.2.2.1
 | [],[],_,_=>by simp
 | [],y::b,h,_=>by simp at h
 |x::a,[],h,_=>by simp at h
 |x::a,y::b,h,h'=>by
  simp only[A0,Em]at h h';obtain⟨h1,h2,h3⟩:=A5p h.2 h'.2;refine⟨by simp only[List.zip_cons_cons,A0,h1],by simp only[List.zip_cons_cons,A0,h2],fun p hp=>?_⟩
  rw[List.zip_cons_cons]at hp;rcases Ah.1 hp with rfl|hp
  ·exact⟨h.1,(Prod.mk.inj h'.1).2⟩
  ·exact h3 p hp
def A4o(n:Nat)(e:TypeId)(K:St→Prop):M:=rdH (.t n) fun h cur inv t p=>match D.at p t with
 |some u=>match u with
  | .vec e' sz l=>.Co (e'=e∧sz=2) fun _=>.K8 fun st=>Boy l fun l'=>match D.put p t (.vec e 2 l')with
    |some t'=>upK st h (cur+1) (.own (bump inv p (cur+1)) t') K
    |none=>False
  |_=>.fail
 |none=>.fail
theorem Bff{f F:FuncId}{e:TypeId}{N n:Nat}{st:St}{K:SV→St→Prop}(hC:A0x P f F)(he:e<1000000)
 (hq:(A4o n e (K (.F4 []))).wq P (fun _=>False) st):Ky P f N [.t n,.c (.fn F)] st K:=by
 refine⟨fun G σ Fr w0 a w xs hN hr ho=>?_⟩
 subst hN
 match xs,ho with
 | [],ho=>simp[Lo]at ho
 | [x],ho=>simp[Lo]at ho
 |x::y::z::r,ho=>simp[Lo]at ho
 | [x,y],ho=>
   simp only[Lo,Bool.and_true,Ad]at ho;obtain⟨ho1,ho2⟩:=ho;obtain⟨rfl,Di⟩:=Gb ho1;have hy:a.eval y= .func (.func F) #[] #[]:=Bb.fn.1 (Ud ho2 G);have h2:=M.Ps hq;unfold A4o at h2;obtain⟨s0,cur,inv,t,p,h3,hs,xx0,hh0,Av6,Ao2,L0⟩:=Abu hr ho1 h2;split at h3
   case h_2=>exact h3.elim
   rename_i u Dd;split at h3
   case h_2=>exact h3.elim
   rename_i e' sz l;simp only[M.wp]at h3;obtain⟨⟨rfl,rfl⟩,⟨L,rfl,hLs,hLl,hK⟩⟩:=h3;obtain⟨bs,Ba,H7,F5,Jj⟩:=show Dr G σ w s0 t (val a w0 s0)from hr.Bj s0 cur _ hs;obtain⟨mm,s',Fw,f1,f2,f3,f4,f5,f6⟩:=focus (here:=none) Ba F5 Dd
   rw[L0]at f1;obtain rfl:=Cy f1;simp only[Bp]at f2;have W3:([Operand.tmp n,y].map a.eval).toArray= #[a.eval (.tmp n),.func (.func F) #[] #[]]:=by simp[hy]
   rw[W3];have Uv:∀{w':World},Ahs G σ Fr w' st (val a w0) (.F4 []) (.tuple #[]):=fun {w'}=>⟨[], #[],rfl,rfl,rfl⟩
   rcases f2 with⟨e1,hl0,rfl⟩|⟨g,off,cap,cc,xs,Et,e1,Kc,ho0,hle,Zq,Kr,Sc,hds,Cq,rfl⟩
   ·injection e1 with e1
    rw[e1];refine(hC.none w).mono ?_;rintro e w' ⟨rfl,Qv⟩;have hL0:L=[]:=List.map_eq_nil_iff.1 hl0;subst hL0;have Hr:=hr.Adf Qv (by intro b e;cases e)
    have hK0:=hK [] (List.Perm.refl _) List.Pairwise.nil;cases G8:D.put p t (.vec e' 2 (([]:List (List UInt8 × D)).map Acv))with
    |none=>simp only[G8]at hK0
    |some t'=>
     simp only[G8]at hK0;obtain⟨σ',r1⟩:=Hr.Ae0 (w':=w') (news:=[]) hs Dd G8 rfl rfl (by simp) rfl rfl rfl rfl (fun cs Fw q1 q2 q3 hh q4=>⟨⟨Fw,q1,q2,fun b hb=>.inl hb⟩,fun _ _=>rfl⟩)
     exact⟨.F4 [],.tuple #[],G,σ',_,rfl,V3 hK0,Mem.le.refl G,r1,⟨[], #[],rfl,rfl,rfl⟩⟩
   ·injection e1 with e1
    obtain⟨rfl,hcz⟩:=ho0 he;have hg:=Kc.to he;obtain⟨Z,rfl,hxz,rfl,hZ⟩:=Arz hLs hds;rw[List.drop_zero,An,An]at Sc;have hZl:(Z.map fun z=>(z.1.1,z.2.1)).length=Z.length:=An _
    have hlen:(((Z.map (·.1)).map Acv).length)=(Z.map fun z=>(z.1.1,z.2.1)).length:=by simp
    have h1c:∀x∈Z.map (fun z:Zel=>(z.1.1,z.2.1)),x.2.oneCell'=true:=fun x hx=>by
     obtain⟨z,hz,rfl⟩:=Cs.1 hx;exact Bp.one (hZ z hz).1 _ (by simp)
    rw[e1,hlen];refine(hC.some g cap (Z.map fun z=>(z.1.1,z.2.1)) cc e' w hg (by rw[hZl,Nat.mul_comm,Sc,hxz]) h1c (by rw[hZl];simpa using hLl)).mono ?_
    rintro e w' ⟨rfl,xs',hp,hso,Qv⟩;obtain⟨Z',hpz,rfl⟩:=Afv (fun z:Zel=>(z.1.1,z.2.1)) hp rfl
    have hZ':∀z∈Z',z.ok G w:=fun z hz=>hZ z (hpz.mem_iff.2 hz)
    have hK0:=hK (Z'.map (·.1)) (hpz.map _) (by
     rw[List.pairwise_map]at hso ⊢;exact hso)
    cases G8:D.put p t (.vec e' 2 ((Z'.map (·.1)).map Acv))with
    |none=>simp only[G8]at hK0
    |some t'=>
     simp only[G8]at hK0;have hZe:Z'.length=Z.length:=hpz.length_eq.symm;have Eh:cc.toList.length=cap*2:=by simpa using hcz
     have Az8:(Ng (Z'.map fun z=>(z.1.1,z.2.1))++cc.toList.drop (2*(Z.map fun z=>(z.1.1,z.2.1)).length)).length=cap*2:=by
      rw[Cw,Zo,Br,An,An,Eh];simp only[An]at hle;omega
     obtain⟨σ',r1⟩:=hr.Ae0 (w':=Hg w g (.cells (Ng (Z'.map fun z=>(z.1.1,z.2.1))++cc.toList.drop (2*(Z.map fun z=>(z.1.1,z.2.1)).length)).toArray e' (0,0))) (news:=[]) hs Dd G8 rfl rfl (by simp) (by simp[Hg]) rfl rfl rfl (fun cs Fw q1 q2 q3 hh q4=>by
      rw[L0]at q4;simp only[Af,B6]at q4;obtain⟨rfl,rfl⟩:=q4;simp only[Bp]at q1;rcases q1 with⟨c1,_⟩|⟨g2,B2i,Bvw,cc2,xs2,bs2,c1,Bvx,co0,cle,ccm,ccs,cxs,cds,csz,rfl⟩
      ·rw[e1]at c1;simp at c1
      ·rw[e1]at c1;simp only[Em,Value.slice.injEq,Af,Addr.mk.injEq,and_true,true_and]at c1;obtain⟨⟨rfl,rfl⟩,rfl⟩:=c1;have Kh:=Bvx.to he;rw[hg]at Kh;simp only[Af,Obj.cells.injEq,and_true]at Kh;subst Kh;obtain⟨Z2,hz1,hz2,rfl,hz3⟩:=Arz hLs cds;rw[List.drop_zero,An,An,Sc,hxz]at cxs;rw[←cxs]at hz2;obtain⟨k1,k2,k3⟩:=A5p hz1 (Axj hz2);obtain⟨ZZ,k4,k5⟩:=Afv Prod.fst hpz k1.symm;have k6:Z2.Perm (ZZ.map Prod.snd):=by rw[←k2];exact k4.map _
       have k7:∀p∈ZZ,p.1.1=p.2.1∧p.1.2.1=p.2.2.1:=fun p hp=>k3 p (k4.mem_iff.2 hp)
       have k8:(ZZ.map Prod.snd).map (fun z:Zel=>(z.1.1,z.2.1))=Z'.map (fun z:Zel=>(z.1.1,z.2.1)):=by
        rw[←k5,List.map_map,List.map_map];refine List.map_congr_left fun p hp=>?_
        obtain⟨k9,k10⟩:=k7 p hp;simp only[Function.comp,k9,k10]
       have k9:(ZZ.map Prod.snd).map (fun z:Zel=>z.1)=Z'.map (fun z:Zel=>z.1):=by
        rw[←k5,List.map_map,List.map_map];refine List.map_congr_left fun p hp=>?_
        simp only[Function.comp,(k7 p hp).1]
       obtain⟨n1,n2⟩:=Bs.1 q2;have k10:∀z∈ZZ.map Prod.snd,z.ok G (Hg w g (.cells (Ng (Z'.map fun z=>(z.1.1,z.2.1))++cc.toList.drop (2*(Z.map fun z=>(z.1.1,z.2.1)).length)).toArray e' (0,0))):=fun z hz=>by
        have P8:=k6.mem_iff.2 hz;obtain⟨m1,m2⟩:=hz3 z P8;exact⟨m1.tr (Mem.le.refl G) fun b hb=>Nu fun e=>n1 (e ▸ A5j P8 hb),m2⟩
       have k11:=Bhb k6;refine⟨⟨g::Aao (ZZ.map Prod.snd),?_,Bs.2 ⟨fun hm=>n1 (k11.mem_iff.2 hm),k11.nodup_iff.1 n2⟩,fun b hb=>?_⟩,fun b hb=>Nu fun e=>hb (by simp[e])⟩
       ·simp only[Bp];refine .inr ⟨g,0,cap,_,_,_,by rw[e1];simp[hZe],Row.of (Zc hg),fun _=>⟨rfl,by simpa using Az8⟩,by simpa[hZe]using hle,Zq,?_,?_,(by rw[←k9];exact A3d k10),fun x hx=>?_,rfl⟩
        ·rw[Rt,Az8];omega
        ·rw[List.drop_zero,An,An,k8,List.take_append_of_le_length (by rw[Zo,An];omega),C9 (by rw[Zo,An];omega)]
        ·obtain⟨y,hy,rfl⟩:=Cs.1 hx;have:=hLs y ((hpz.map _).mem_iff.2 hy);simp only[Acv,D.size,D7,I.size,this]
       ·rcases Ah.1 hb with rfl|hb
        ·exact .inl (by simp)
        ·exact .inl (Au _ (k11.mem_iff.2 hb)))
     have Kn:=r1.Adf Qv (by intro b e;cases e)
     exact⟨.F4 [],.tuple #[],G,σ',_,rfl,V3 hK0,Mem.le.refl G,Kn,⟨[], #[],rfl,rfl,rfl⟩⟩
end

def A44(l:List Cv):List I:=l.map fun p=>.str p.name
def Bcf(l:List Cv):List D:=l.map fun p=>.ptr (.it (Un p).Ap)
def Agc(n:A1)(ks:List Kv):List C0:=ks.map fun h=>⟨Cp n h.key,h.vs⟩
theorem Ao6(a b:A1):(decide (a<b)||decide (a=b))= !decide (b<a):=by
 by_cases h:b<a
 ·have h1:¬a<b:=fun c=>Dt _ (E2 c h)
  have h2:¬a=b:=fun c=>by rw[c]at h;exact Dt _ h
  simp[h,h1,h2]
 ·rcases List.le_iff_lt_or_eq.1 (List.not_lt.1 h)with h1|h1
  ·simp[h,h1]
  ·simp[h,h1]
def Ba1(l:List Cv)(r:SV)(outs:List SV):Prop:=(match Sz l with
 |true=>∃d:List C0,d.Perm (Kg l)∧P6 d∧r= .Mp [.ptr (Wh l d).Dp,.it (.bool true)]
 |false=>r= .Mp [.it .Ra,.it (.bool false)])∧outs=[.no]
structure MkO(l:List Cv)(j:Nat)(o:Option A1):Prop where
 z:j=0→o=none
 s:∀q,j=q+1→∃p,l[q]?=some p∧o=some p.name
 lt:∀x∈l.take j,∀n,o=some n→x.name≤n
theorem MkO.fresh{l:List Cv}{j:Nat}{o:Option A1}(h:MkO l j o){n:A1}(ha:Pc o n=true):Nd n (A44 (l.take j)) 0=some none:=by
 unfold A44;rw[Tp (fun p:Cv=>p.name)]
 have:(l.take j).findIdx? (fun x=>decide (x.name=n))=none:=by
  rw[List.findIdx?_eq_none_iff];intro x hx;have hj:j≠0:=fun e=>by rw[e]at hx;simp at hx
  obtain⟨q,rfl⟩:∃q,j=q+1:=⟨j - 1,by omega⟩
  obtain⟨p,h1,h2⟩:=h.s q rfl;have h3:=h.lt x hx _ h2;rw[h2]at ha;have ha:p.name<n:=by simpa[Pc]using ha
  simp only[decide_eq_false_iff_not];intro e;rw[e]at h3;exact List.not_lt.2 h3 ha
 rw[this];rfl
theorem MkO.next{l:List Cv}{j:Nat}{o:Option A1}(h:MkO l j o){p:Cv}(hp:l[j]?=some p)(ha:Pc o p.name=true):MkO l (j+1) (some p.name):=by
 refine⟨fun e=>by omega,fun q e=>⟨p,by rw[←Nat.succ.inj e];exact hp,rfl⟩,fun x hx n e=>?_⟩
 cases e;rw[D5,hp]at hx;rcases Aj.1 hx with hx|hx
 ·cases o with
  |none=>
   cases j with
   |zero=>simp at hx
   |succ q=>obtain⟨_,_,c⟩:=h.s q rfl;cases c
  |some m=>
   have h1:=h.lt x hx m rfl;have h2:m<p.name:=by simpa[Pc]using ha
   exact List.le_of_lt (List.lt_of_le_of_lt h1 h2)
 ·simp only[Option.toList_some,Cx]at hx;rw[hx];exact List.le_refl _
def Bab(h:C0):A1 × D:=(h.at_,.vec Ft 4 ((h.vs.map Bt.Ap).map D.it))
theorem As6:∀{l:List Cv},Rgt l→((Kg l).map C0.at_).Nodup
 | [],_=>Dn
 |p::r,h=>by
  have hr:Rgt r:=⟨by have:=h.h8;simp at this;omega,(B1.1 h.so).2,fun x hx=>h.nm x (Au _ hx),fun x hx=>h.bd x (Au _ hx),fun x hx=>h.ks x (Au _ hx),fun x hx=>h.kv x (Au _ hx)⟩
  have ih:=As6 hr;show((Nf p++Kg r).map C0.at_).Nodup;rw[B5,Cb];refine⟨?_,ih,fun a ha b hb e=>?_⟩
  ·unfold Nf;rw[List.map_map];refine List.pairwise_map.2 ((h.ks p (Ar ..)).imp fun {x y} hxy e=>?_)
   have:x.key=y.key:=by
    have h1:=congrArg (fun a=>(Cz a).2.1) e
    simpa[D3 (h.nm p (Ar ..))]using h1
   rw[this]at hxy;exact Dt _ hxy
  ·obtain⟨x,hx,rfl⟩:=Cs.1 ha;obtain⟨y,hy,rfl⟩:=Cs.1 hb;obtain⟨u,hu,rfl⟩:=Cs.1 hx;obtain⟨q,hq,v,hv,rfl⟩:=Anm hy;have h1:=congrArg (fun a=>(Cz a).1) e
   dsimp only at h1;rw[D3 (h.nm p (Ar ..)),D3 (hr.nm q hq)]at h1;have h2:=(B1.1 h.so).1 q hq;dsimp only at h1;rw[h1]at h2;exact Dt _ h2
theorem A53{l:List Cv}(h:Rgt l){d:List C0}(hd:(Kg l).Perm d)(hs:(d.map Bab).Pairwise fun a b=>¬b.1<a.1):P6 d:=by
 have hn:(d.map C0.at_).Nodup:=(hd.map _).nodup_iff.1 (As6 h);rw[P6,List.pairwise_map];rw[List.pairwise_map]at hs;rw[List.Nodup,List.pairwise_map]at hn;refine hs.imp₂ (fun {a b} h1 h2=>?_) hn
 rcases List.le_iff_lt_or_eq.1 (List.not_lt.1 h1)with h3|h3
 ·exact h3
 ·exact absurd h3 h2
set_option maxRecDepth 100000
set_option maxHeartbeats 40000000

open Go.Proofs
theorem Bg9{rv fl:Int}{f:Bool}{was v:Bt}(h:Rm rv fl f was v=true):v.gone=false→v.val.length≤256:=by
 intro hg;unfold Rm at h;split at h
 ·cases h
 split at h
 ·cases h
 split at h
 ·rename_i c;rw[hg]at c;cases c
 split at h
 ·cases h
 ·omega
theorem A03:∀{a:List Kv} {h:Kv},Ut (a++[h])=Ut a+(if(Hw h.vs).gone=false then 1 else 0)∧Us (a++[h])=Us a+(if(Hw h.vs).gone=false then(h.key.length:Int)+((Hw h.vs).val.length:Int)else 0)∧Uu (a++[h])=Uu a+(h.vs.length:Int)
 | [],h=>by simp[Ut,Us,Uu]
 |x::a,h=>by
  obtain⟨h1,h2,h3⟩:=A03 (a:=a) (h:=h);simp only[C4,Ut,Us,Uu,h1,h2,h3];exact⟨by omega,by omega,by omega⟩
theorem As4:∀{l:List Cv} {o:Option Cv},Kg (l++o.toList)=Kg l++(o.toList.map Nf).flatten
 | [],o=>by cases o<;>simp[Kg]
 |p::r,o=>by
  show Nf p++Kg (r++o.toList)=(Nf p++Kg r)++_;rw[As4,A8]
theorem As5:∀{l:List Cv} {j:Nat},(Kg (l.take j)).length≤(Kg l).length
 | [],_=>by simp
 |_::_,0=>by simp[Kg]
 |p::r,j+1=>by
  have h:=As5 (l:=r) (j:=j);show(Nf p++Kg (r.take j)).length≤(Nf p++Kg r).length;rw[Cw,Cw];omega
structure KyO(ks:List Kv)(j:Nat)(o:Option A1):Prop where
 z:j=0→o=none
 s:∀q,j=q+1→∃h,ks[q]?=some h∧o=some h.key
theorem Ay2(hSF:A0x Tryz.prog R5 Avs)(l:List Cv)(Cq:Rk l≤400):Fn Tryz.prog Z6 [.v (.list (l.map Cv.Ap))] (Ba1 l):=by
 refine Auf ?_ (by simp)
 unfold Ba1;obtain⟨E3,hR⟩:∃R,Sz l=R:=⟨_,rfl⟩;rw[hR];have hR0:=hR;unfold Sz at hR;have Fk:(l.map Cv.Ap).length=l.length:=An _;by_cases h8:8<l.length
 ·rw[if_pos h8]at hR;subst hR;have g8:¬decide ((8:Int)<(l.length:Int))=false:=by simp;omega
  repeat'((conv=>whnf);first|(with_reducible refine Bv (by first|exact Ae (by assumption)|refine decide_eq_true ?_;omega) fun hb=>?_);(try rw[hb]);try simp only[Am]at hb|(with_reducible refine Aa ?_ ?_);focus (and_intros<;>first|with_reducible rfl|intro _ hh;cases hh;done|simp;done|decide)|with_reducible intro Av|(with_reducible refine A5.mk ?_);refine⟨_,Aoc,?_⟩;rintro _ _ ⟨rfl,rfl⟩|(try dsimp only);rw[Fk])
  all_goals(try(conv=>whnf))
  (apply D6<;>kernel_rfl)
 rw[if_neg h8]at hR;have g8:¬decide ((8:Int)<(l.length:Int))=true:=by simp;omega
 repeat'((conv=>whnf);first|(with_reducible refine Bq (by first|exact Ag (by assumption)|refine decide_eq_false ?_;omega) fun hb=>?_);(try rw[hb]);try simp only[Am]at hb|(with_reducible refine Aa ?_ ?_);focus (and_intros<;>first|with_reducible rfl|intro _ hh;cases hh;done|simp;done|decide)|with_reducible intro Av|(with_reducible refine A5.mk ?_);refine⟨_,Aoc,?_⟩;rintro _ _ ⟨rfl,rfl⟩|(try dsimp only);rw[Fk])
 all_goals(try(conv=>whnf))
 refine Ep.by (X:=Nat × Option A1 × List I × List D × List D) (fun y=>[(19,.v (ti (y.1:Int))),(13,.own [] (.ptr (stD y.2.2.1 y.2.2.2.1 y.2.2.2.2)))])
  (fun y=>y.1≤l.length∧MkO l y.1 y.2.1∧y.2.2.1=A44 (l.take y.1)∧y.2.2.2.1=Bcf (l.take y.1)∧y.2.2.2.2=(Kg (l.take y.1)).map C0.Dp∧Vg y.2.1 (l.drop y.1)=E3) (fun y=>l.length - y.1) (0,none,[],[],[]) (by kernel_rfl)
  ⟨A3 _,⟨fun _=>rfl,fun q e=>(by omega),fun x hx=>by simp at hx⟩,rfl,rfl,rfl,hR⟩ ?_
 clear hR;rintro⟨j,o,KS,VS,LD⟩ ⟨hj,hO,eK,eV,eL,hR⟩
 (try dsimp only at hj hO eK eV eL hR ⊢)
 have hw:=zwj (j:=j) (by omega)
 by_cases E6:j<l.length
 case neg=>
  have h3:¬decide ((j:Int)<(l.length:Int))=true:=by simp;omega
  rw[Bo (by omega)]at hR
  have hR:true=E3:=hR;subst hR;rw[C9 (by omega)]at eK eV eL
  have hfl:(Kg l).length≤400:=C2 Ad7 Cq;repeat'((conv=>whnf);first|(with_reducible refine Bq (by exact Ag (by assumption)) fun hb=>?_);(try rw[hb]);try simp only[Am]at hb|(with_reducible refine Aa ?_ ?_);focus (and_intros<;>first|omega|with_reducible rfl|kernel_rfl|simp;done)|refine Bff (e:=Np) hSF (by decide) ?_)
  all_goals(try(conv=>whnf))
  have hRg:=Aye hR0;refine⟨⟨(Kg l).map Bab,by rw[eL,List.map_map];rfl,fun x hx=>?_,by rw[An];omega,fun L' hpm hso=>?_⟩⟩
  ·obtain⟨h,_,rfl⟩:=Cs.1 hx;rfl
  obtain⟨d,hd,rfl⟩:=Afv Bab hpm rfl;have hls:P6 d:=A53 hRg hd hso;have hdm:(d.map Bab).map Acv=d.map C0.Dp:=by rw[List.map_map];rfl
  rw[hdm];have hD:(Wh l d).Dp= .st [.map KS VS,.vec Np 2 (d.map C0.Dp)]:=by
   rw[eK,eV];simp only[Wh,A6.Dp,A44,Bcf,List.map_map];rfl
  generalize d.map C0.Dp=LD' at*;repeat'((conv=>whnf);((with_reducible refine Aa ?_ ?_);focus (and_intros<;>kernel_rfl)))
  all_goals(try(conv=>whnf))
  exact Gg.mk ⟨⟨d,hd.symm,hls,by rw[hD];kernel_rfl⟩,by kernel_rfl⟩ (by kernel_rfl)
 obtain⟨p,hp⟩:∃x,l[j]?=some x:=⟨_,Ac E6⟩;have h3:¬decide ((j:Int)<(l.length:Int))=false:=by simp;omega
 have K9:l.drop j=p::l.drop (j+1):=by rw[A7 E6];rw[Ac E6]at hp;cases hp;rfl
 rw[K9]at hR;unfold Vg at hR;have Biw:=fun ha=>hO.next hp ha
 have hfk:=fun ha=>hO.fresh (n:=p.name) ha
 generalize hX:Vg (some p.name) (l.drop (j+1))=NX at hR;have hpm:=Aw hp;have Bxk:=Wj hpm;obtain⟨qp,hq,Ara⟩:∃qp,l[j - 1]?=some qp∧((j=0∧Pc o p.name=true)∨(0<j∧(Op.bytesLess p.name qp.name||decide (p.name=qp.name))= !Pc o p.name)):=by
  cases j with
  |zero=>exact⟨p,hp,.inl ⟨rfl,by rw[hO.z rfl];rfl⟩⟩
  |succ q=>
   obtain⟨pp,h1,h2⟩:=hO.s q rfl;exact⟨pp,h1,.inr ⟨by omega,by rw[Kq,Ao6,h2];rfl⟩⟩
 obtain⟨pn,Lm,L4,ks⟩:=p;obtain⟨qn,qr,qf,qk⟩:=qp;dsimp only at hR Biw hfk Ara Bxk;have hkm:(ks.map Kv.Ap).length=ks.length:=An _;have Qe:=Ajm pn;unfold Av8 at hR;dsimp only at hR;generalize hNM:Hp pn=NM at*;generalize hAF:Pc o pn=AF at*;generalize hBB:(Op.bytesLess pn qn||decide (pn=qn))=BB at*;by_cases Dj:(NM=true∧AF=true)∧0≤L4∧L4≤Lm∧Lm≤1099511627776
 case neg=>
  have hR:false=E3:=by
   rw[←hR,if_neg];intro c;simp only[Ad,decide_eq_true_eq]at c;exact Dj ⟨⟨c.1.1.1,c.1.2⟩,c.1.1.2⟩
  subst hR;rcases Ara with⟨hj0,hle⟩|⟨hj0,hle⟩
  all_goals first
   |(have g0:¬decide ((0:Int)<(j:Int))=true:=by simp;omega);have Wc:IntKind.i64.wrap 5=5:=Cd (by omega)
   |(have g0:¬decide ((0:Int)<(j:Int))=false:=by simp;omega);have Wc:IntKind.i64.wrap ((j:Int) - 1)=((j - 1:Nat):Int):=(Cd (by omega)).trans (by omega)
  all_goals(try subst hle)
  all_goals cases NM
  all_goals(try cases AF)
  all_goals(try simp only[Bool.not_false,Bool.not_true]at hBB)
  all_goals
   all_goals(
    repeat'((conv=>whnf);first|(with_reducible first|refine Bv (by first|assumption|exact Ae (by assumption)|rfl) fun hb=>?_|refine Bq (by first|assumption|exact Ag (by assumption)|rfl) fun hb=>?_);(try rw[hb]);try simp only[Am]at hb|((with_reducible refine Ai (fun hb=>?_) fun hb=>?_)<;>first|exact absurd hb (by decide)|(try rw[hb]);try simp only[Am]at hb)|(with_reducible refine Aa ?_ ?_);focus (and_intros<;>first|omega|with_reducible rfl|kernel_rfl|intro _ hh;cases hh;done|simp;done|decide)|(with_reducible refine Dw.Gx ?_ ?_ ?_ fun Av=>?_);(iterate 3 focus (as_aux_lemma=>kernel_rfl));try simp only[zRL]at Av|(try dsimp only);(first|rw[Be hp]|rw[Be hq])|(with_reducible refine Fv.mk ?_);refine⟨_,_,Qe,?_⟩|(try dsimp only);rw[Wc])
    all_goals(try(conv=>whnf)))
   all_goals first
    |(exfalso;simp at Dj;omega)
    |(apply D6<;>kernel_rfl)
 obtain⟨⟨rfl,rfl⟩,b1,b2,b3⟩:=Dj;have hR:(if Rz Lm L4 none ks=true then NX else false)=E3:=by
  rw[←hR,decide_eq_true b1,decide_eq_true b2,decide_eq_true b3];simp
 have hfk:Nd pn KS 0=some none:=by rw[eK];exact hfk rfl
 have hO2:=Biw rfl;clear Biw;have hVl:VS.length=j:=by rw[eV];simp[Bcf];omega
 have B1v:ks.length≤400:=by omega
 have hLl:(Kg (l.take j)).length≤400:=C2 As5 (C2 Ad7 Cq);rcases Ara with⟨hj0,hle⟩|⟨hj0,hle⟩
 all_goals first
  |(have g0:¬decide ((0:Int)<(j:Int))=true:=by simp;omega);have Wc:IntKind.i64.wrap 5=5:=Cd (by omega)
  |(have g0:¬decide ((0:Int)<(j:Int))=false:=by simp;omega);have Wc:IntKind.i64.wrap ((j:Int) - 1)=((j - 1:Nat):Int):=(Cd (by omega)).trans (by omega)
 all_goals(try subst hle)
 all_goals(try simp only[Bool.not_false,Bool.not_true]at hBB)
 all_goals
  all_goals(
   repeat'((conv=>whnf);first|(with_reducible first|refine Bv (by first|assumption|exact Ae (by assumption)|rfl) fun hb=>?_|refine Bq (by first|assumption|exact Ag (by assumption)|rfl) fun hb=>?_);(try rw[hb]);try simp only[Am]at hb|((with_reducible refine Ai (fun hb=>?_) fun hb=>?_)<;>first|exact absurd hb (by decide)|exfalso;((simp only[Eu]at hb<;>omega))|(try rw[hb]);try simp only[Am]at hb)|(with_reducible refine Aa ?_ ?_);focus (and_intros<;>first|omega|with_reducible rfl|kernel_rfl|intro _ hh;cases hh;done|simp;done|decide)|with_reducible intro Av|(with_reducible refine Dw.Gx ?_ ?_ ?_ fun Av=>?_);(iterate 3 focus (as_aux_lemma=>kernel_rfl));try simp only[zRL]at Av|(try dsimp only);(first|rw[Be hp]|rw[Be hq])|(with_reducible refine Fv.mk ?_);refine⟨_,_,Qe,?_⟩|(try dsimp only);(first|rw[hkm]|rw[Wc])|(with_reducible apply L1);(focus (simp only[D.at,D.put,D.Cr,D.Bc,B7,Bw,D.Ap,B8,A4,Dq,hfk]<;>exact rfl)))
   all_goals(try(conv=>whnf)))
 all_goals
  refine Ep.by (X:=Nat × Option A1 × Ef × List D × List D) (fun y=>[(76,.v (ti (y.1:Int))),(13,.own [] (.ptr (stD (KS++[.str pn]) y.2.2.2.1 y.2.2.2.2)))])
   (fun y=>y.1≤ks.length∧KyO ks y.1 y.2.1∧y.2.2.1=Un ⟨pn,Lm,L4,ks.take y.1⟩∧((0≤y.2.2.1.keys∧y.2.2.1.keys≤(y.1:Int))∧(0≤y.2.2.1.bytes∧y.2.2.1.bytes≤320*(y.1:Int))∧0≤y.2.2.1.Jk∧y.2.2.1.Jk≤400*(y.1:Int))∧y.2.2.2.1=VS++[.ptr (.it y.2.2.1.Ap)]∧y.2.2.2.2=(Kg (l.take j)++Agc pn (ks.take y.1)).map C0.Dp∧(if Rz Lm L4 y.2.1 (ks.drop y.1)=true then NX else false)=E3) (fun y=>ks.length - y.1) (0,none,⟨Lm,L4,0,0,0⟩,VS++[.ptr (.it (Ef.mk Lm L4 0 0 0).Ap)],LD) (by kernel_rfl)
   ⟨A3 _,⟨fun _=>rfl,fun q e=>(by omega)⟩,rfl,(by dsimp only;omega),rfl,(by simp[Agc,eL]),hR⟩ ?_
  clear hR;rintro⟨k,ko,t,VS2,LD2⟩ ⟨hk,hKO,eT,hTb,eV2,eL2,hR⟩
  (try dsimp only at hk hKO eT hTb eV2 eL2 hR ⊢)
  have Sb:=zwj (j:=k) (by omega)
  have Mw:VS2[(none:Option Nat).getD VS.length]?=some (.ptr (.it t.Ap)):=by rw[eV2];simp
  by_cases L8:k<ks.length
  case neg=>
   have h5:¬decide ((k:Int)<(ks.length:Int))=true:=by simp;omega
   rw[Bo (by omega)]at hR
   have hR:NX=E3:=hR;have Ya:ks.take k=ks:=C9 (by omega)
   rw[Ya]at eT eL2;repeat'((conv=>whnf);first|(with_reducible refine Bq (by first|assumption|exact Ag (by assumption)) fun hb=>?_);(try rw[hb]);try simp only[Am]at hb|skip;rw[hw])
   all_goals(try(conv=>whnf))
   refine Round.by (j+1,some pn,KS++[.str pn],VS2,LD2) ?_ ⟨by omega,hO2,(by rw[eK,D5,hp];simp[A44]),(by rw[eV2,eV,eT,D5,hp];simp[Bcf]),(by dsimp only;rw[eL2,D5,hp,As4];simp[Agc,Nf]),hX.trans hR⟩ (by dsimp only;omega)
   try dsimp only
   show norm _ _=Dy _ _
   kernel_rfl
  obtain⟨h,hh⟩:∃x,ks[k]?=some x:=⟨_,Ac L8⟩;have h5:¬decide ((k:Int)<(ks.length:Int))=false:=by simp;omega
  have hdk:ks.drop k=h::ks.drop (k+1):=by rw[A7 L8];rw[Ac L8]at hh;cases hh;rfl
  rw[hdk]at hR;unfold Rz Aa7 at hR;obtain⟨qh,hqh,Awb⟩:∃qh,ks[k - 1]?=some qh∧((k=0∧Pc ko h.key=true)∨(0<k∧(Op.bytesLess h.key qh.key||decide (h.key=qh.key))= !Pc ko h.key)):=by
   cases k with
   |zero=>exact⟨h,hh,.inl ⟨rfl,by rw[hKO.z rfl];rfl⟩⟩
   |succ q=>
    obtain⟨pp,c1,c2⟩:=hKO.s q rfl;exact⟨pp,c1,.inr ⟨by omega,by rw[Kq,Ao6,c2];rfl⟩⟩
  have Av4:KyO ks (k+1) (some h.key):=⟨fun e=>by omega,fun q e=>⟨h,by rw[←Nat.succ.inj e];exact hh,rfl⟩⟩
  have Bxp:=Ahc (f:=fun h:Kv=>h.vs.length) (Aw hh)
  generalize hX2:Rz Lm L4 (some h.key) (ks.drop (k+1))=KG at hR;obtain⟨Hk,vs⟩:=h;obtain⟨qhk,qhv⟩:=qh;dsimp only at hR Awb Bxp Av4;have hvm:(vs.map Bt.Ap).length=vs.length:=An _;have hik:=Ajk Hk;generalize Bv4:Pc ko Hk=AF2 at*;generalize Bh7:(Op.bytesLess Hk qhk||decide (Hk=qhk))=BB2 at*;by_cases Rx:((1≤Hk.length∧Hk.length≤64)∧vs.length≠0)∧AF2=true
  case neg=>
   have hR:false=E3:=by
    rw[←hR,if_neg];intro c;rw[if_neg]at c
    ·cases c
    ·intro c;simp only[Ad,decide_eq_true_eq]at c;exact Rx ⟨⟨⟨c.1.1,c.1.2.1⟩,fun e=>c.1.2.2.1 (Dg e)⟩,c.2⟩
   subst hR;rcases Awb with⟨Ts,hle⟩|⟨Ts,hle⟩
   all_goals first
    |(have g1:¬decide ((0:Int)<(k:Int))=true:=by simp;omega);have hwk:IntKind.i64.wrap 5=5:=Cd (by omega)
    |(have g1:¬decide ((0:Int)<(k:Int))=false:=by simp;omega);have hwk:IntKind.i64.wrap ((k:Int) - 1)=((k - 1:Nat):Int):=(Cd (by omega)).trans (by omega)
   all_goals(try subst hle)
   all_goals(try cases AF2)
   all_goals(try simp only[Bool.not_false,Bool.not_true]at Bh7)
   all_goals
    all_goals(
     repeat'((conv=>whnf);first|(with_reducible first|refine Bv (by first|assumption|exact Ae (by assumption)|rfl) fun hb=>?_|refine Bq (by first|assumption|exact Ag (by assumption)|rfl) fun hb=>?_);(try rw[hb]);try simp only[Am]at hb|(with_reducible refine Ai (fun hb=>?_) fun hb=>?_)<;>(((try rw[hb]);(try simp only[Am]at hb)))|(with_reducible refine Aa ?_ ?_);focus (and_intros<;>first|omega|with_reducible rfl|kernel_rfl|intro _ hh;cases hh;done|simp;done|decide)|with_reducible intro Av|(with_reducible refine Dw.Gx ?_ ?_ ?_ fun Av=>?_);(iterate 3 focus (as_aux_lemma=>kernel_rfl));try simp only[zRL]at Av|(try dsimp only);(first|rw[Be hh]|rw[Be hqh]|rw[hvm])|(with_reducible refine Fv.mk ?_);refine⟨_,_,hik,?_⟩|(try dsimp only);rw[hwk])
     all_goals(try(conv=>whnf)))
    all_goals first
     |(exfalso;exact Rx ⟨⟨⟨by omega,by omega⟩,by omega⟩,rfl⟩)
     |(apply D6<;>kernel_rfl)
  obtain⟨⟨⟨c1,c2⟩,c3⟩,rfl⟩:=Rx;have A2:vs≠[]:=fun e=>c3 (by rw[e];rfl)
  have hR:(if(if R4 Lm L4 true Ae1 vs=true then KG else false)=true then NX else false)=E3:=by
   rw[←hR,decide_eq_true c1,decide_eq_true c2,decide_eq_true A2];simp
  have Ju:=Zx hNM;have Xb:=Xs pn Hk (by omega) (by omega)
  have Eh:=Vr (vs.map Bt.Ap) (fun u hu=>by obtain⟨x,_,rfl⟩:=Cs.1 hu;rfl) (by rw[An];omega)
  have hfo:=fun v was f=>A47 v was f ⟨pn,Lm,L4,ks⟩
  dsimp only at hfo;rcases Awb with⟨Ts,hle⟩|⟨Ts,hle⟩
  all_goals first
   |(have g1:¬decide ((0:Int)<(k:Int))=true:=by simp;omega);have hwk:IntKind.i64.wrap 5=5:=Cd (by omega)
   |(have g1:¬decide ((0:Int)<(k:Int))=false:=by simp;omega);have hwk:IntKind.i64.wrap ((k:Int) - 1)=((k - 1:Nat):Int):=(Cd (by omega)).trans (by omega)
  all_goals(try simp only[Bool.not_true]at hle)
  all_goals(try subst hle)
  all_goals(have g2:¬decide ((vs.length:Int)=0)=true:=by intro c;have:=of_decide_eq_true c;omega)
  all_goals(have g3:¬decide (1≤Hk.length∧Hk.length≤64)=false:=by simp;omega)
  all_goals
   all_goals(
    repeat'((conv=>whnf);first|(with_reducible first|refine Bv (by first|assumption|exact Ae (by assumption)|rfl) fun hb=>?_|refine Bq (by first|assumption|exact Ag (by assumption)|rfl) fun hb=>?_);(try rw[hb]);try simp only[Am]at hb|((with_reducible refine Ai (fun hb=>?_) fun hb=>?_)<;>first|exfalso;((simp only[Eu]at hb<;>omega))|(try rw[hb]);try simp only[Am]at hb)|(with_reducible refine Aa ?_ ?_);focus (and_intros<;>first|omega|with_reducible rfl|kernel_rfl|intro _ hh;cases hh;done|simp;done|decide)|with_reducible intro Av|(with_reducible refine Dw.Gx ?_ ?_ ?_ fun Av=>?_);(iterate 3 focus (as_aux_lemma=>kernel_rfl));try simp only[zRL]at Av|(try dsimp only);(first|rw[Be hh]|rw[Be hqh]|rw[hvm])|(with_reducible refine Fv.mk ?_);refine⟨_,_,hik,?_⟩|(try dsimp only);rw[hwk])
    all_goals(try(conv=>whnf)))
  all_goals
   refine Ep.by (X:=Nat × Bt) (fun y=>[(111,.v (ti (y.1:Int))),(10,.box (T.one (F.i y.2.Ap)))]) (fun y=>y.1≤vs.length∧(∀q,y.1=q+1→vs[q]?=some y.2)∧(y.2.gone=false→y.2.val.length≤256)∧(if(if R4 Lm L4 (decide ((y.1:Int)=0)) y.2 (vs.drop y.1)=true then KG else false)=true then NX else false)=E3) (fun y=>vs.length - y.1) (0,Ae1) (by kernel_rfl) ⟨A3 _,fun q e=>(by omega),(fun e=>by cases e),hR⟩ ?_
   rintro⟨n,was⟩ ⟨hn,Brt,Sw,hR⟩
   (try dsimp only at hn Brt Sw hR ⊢)
   have hw3:=zwj (j:=n) (by omega)
   by_cases hnl:n<vs.length
   ·obtain⟨v,hv⟩:∃x,vs[n]?=some x:=⟨_,Ac hnl⟩;have h7:¬decide ((n:Int)<(vs.length:Int))=false:=by simp;omega
    have hdv:vs.drop n=v::vs.drop (n+1):=by rw[A7 hnl];rw[Ac hnl]at hv;cases hv;rfl
    rw[hdv]at hR;unfold R4 at hR;have hf1:=hfo v was (decide ((n:Int)=0));have Btp:∀q,n+1=q+1→vs[q]?=some v:=fun q e=>by rw[←Nat.succ.inj e];exact hv
    have hd0:decide (((n+1:Nat):Int)=0)=false:=decide_eq_false (by omega)
    cases hVO:Rm Lm L4 (decide ((n:Int)=0)) was v with
    |false=>
     rw[hVO]at hf1 hR;have hR:false=E3:=hR;subst hR;obtain⟨vr,vm,vv,vg⟩:=v;obtain⟨wr,wm,wv,wg⟩:=was;repeat'((conv=>whnf);first|(with_reducible refine Bv (by first|assumption|exact Ae (by assumption)) fun hb=>?_);(try rw[hb]);try simp only[Am]at hb|((with_reducible refine Ai (fun hb=>?_) fun hb=>?_)<;>first|exact absurd hb (by decide)|(try rw[hb]);try simp only[Am]at hb)|(with_reducible refine Aa ?_ ?_);focus (and_intros<;>first|omega|kernel_rfl|intro _ hh;cases hh;done|simp;done|decide)|(try dsimp only);rw[Be hv]|(with_reducible refine A5.mk ?_);refine⟨_,hf1,?_⟩;rintro _ _ ⟨rfl,rfl⟩)
     all_goals(try(conv=>whnf))
     (apply D6<;>kernel_rfl)
    |true=>
     rw[hVO]at hf1 hR;rw[if_pos rfl, ←hd0]at hR;obtain⟨vr,vm,vv,vg⟩:=v;obtain⟨wr,wm,wv,wg⟩:=was;repeat'((conv=>whnf);first|(with_reducible refine Bv (by first|assumption|exact Ae (by assumption)) fun hb=>?_);(try rw[hb]);try simp only[Am]at hb|((with_reducible refine Ai (fun hb=>?_) fun hb=>?_)<;>first|exact absurd hb (by decide)|(try rw[hb]);try simp only[Am]at hb)|(with_reducible refine Aa ?_ ?_);focus (and_intros<;>first|omega|kernel_rfl|intro _ hh;cases hh;done|simp;done|decide)|(try dsimp only);rw[Be hv]|(with_reducible refine A5.mk ?_);refine⟨_,hf1,?_⟩;rintro _ _ ⟨rfl,rfl⟩|skip;rw[hw3])
     all_goals(try(conv=>whnf))
     refine Round.by (n+1,⟨vr,vm,vv,vg⟩) ?_ ⟨by omega,Btp,Bg9 hVO,hR⟩ (by dsimp only;omega)
     try dsimp only
     show norm _ _=Dy _ _
     kernel_rfl
   have h7:¬decide ((n:Int)<(vs.length:Int))=true:=by simp;omega
   obtain rfl:n=vs.length:=by omega
   obtain⟨q,hq1⟩:∃q,vs.length=q+1:=⟨vs.length - 1,by omega⟩
   have Y6:Hw vs=was:=by
    unfold Hw;rw[List.getLast?_eq_getElem?,show vs.length - 1=q by omega,Brt q hq1]
    rfl
   rw[List.drop_length]at hR;have hR:(if KG=true then NX else false)=E3:=hR
   obtain⟨hT1,hT2,hT3⟩:=hTb;have B13:LD2.length≤1000:=by
    rw[eL2,An,Cw,Agc,An,Ck];omega
   have B1w:vs.length≤400:=by omega
   have Mi:IntKind.i64.wrap (t.Jk+(vs.length:Int))=t.Jk+(vs.length:Int):=Cd (by omega)
   have Pw:ks.take (k+1)=ks.take k++[⟨Hk,vs⟩]:=by rw[D5,hh];rfl
   obtain⟨Uo,W5,hc3⟩:=A03 (a:=ks.take k) (h:=⟨Hk,vs⟩);dsimp only at Uo W5 hc3;rw[Y6]at Uo W5;have eL3:LD2++[(⟨Cp pn Hk,vs⟩:C0).Dp]=(Kg (l.take j)++Agc pn (ks.take (k+1))).map C0.Dp:=by
    rw[eL2,Pw];simp[Agc]
   obtain⟨wr,wm,wv,wg⟩:=was;dsimp only at Sw Uo W5;cases wg with
   |true=>
    simp only[Bool.true_eq_false,if_false,Int.add_zero]at Uo W5;repeat'((conv=>whnf);first|(with_reducible refine Bq (by first|assumption|exact Ag (by assumption)) fun hb=>?_);(try rw[hb]);try simp only[Am]at hb|(with_reducible refine Ai (fun hb=>?_) fun hb=>?_)<;>(((try rw[hb]);(try simp only[Am]at hb)))|(with_reducible refine Aa ?_ ?_);focus (and_intros<;>first|omega|with_reducible rfl|kernel_rfl|intro _ hh;cases hh;done|exact Jm rfl|simp only[Eu];omega|simp;done|decide)|(with_reducible refine Dw.Gx ?_ ?_ ?_ fun Av=>?_);(iterate 3 focus (as_aux_lemma=>kernel_rfl));try simp only[zRL]at Av|(try dsimp only);rw[hvm]|(with_reducible refine Fv.mk ?_);refine⟨_,_,Xb,?_⟩|(with_reducible refine Fv.mk ?_);refine⟨_,_,Eh,?_⟩|(try dsimp only);(first|rw[Mi]|rw[Sb])|(with_reducible apply L1);(focus (simp only[D.at,D.put,D.Cr,D.Bc,B7,Bw,D.Ap,B8,A4,Dq,Mw,Ef.Ap]<;>exact rfl))|(with_reducible apply Dh);(focus rfl);(focus (simp only[D.at,D.put,D.Cr,D.Bc,B7,Bw,D.Ap,B8,A4,Dq,Mw,Ef.Ap]<;>exact rfl));(try(focus exact rfl)))
    all_goals(try(conv=>whnf))
    refine Round.by (k+1,some Hk,(Ef.mk t.rev t.floor t.bytes t.keys (t.Jk+(vs.length:Int))),VS2.set ((none:Option Nat).getD VS.length) (.ptr (.it (Ef.mk t.rev t.floor t.bytes t.keys (t.Jk+(vs.length:Int))).Ap)),LD2++[(⟨Cp pn Hk,vs⟩:C0).Dp]) ?_ ⟨by omega,Av4,(by rw[Pw,eT];simp only[Un,Uo,W5,hc3]),(by dsimp only;omega),(by rw[eV2];simp),eL3,(by rw[hX2];exact hR)⟩ (by dsimp only;omega)
    try dsimp only
    show norm _ _=Dy _ _
    kernel_rfl
   |false=>
    have hwl:=Sw rfl;simp only[if_true]at Uo W5;have Tt:IntKind.i64.wrap (t.keys+1)=t.keys+1:=Cd (by omega)
    have Jx:IntKind.i64.wrap ((Hk.length:Int)+(wv.length:Int))=(Hk.length:Int)+(wv.length:Int):=Cd (by omega)
    have Ku:IntKind.i64.wrap (t.bytes+((Hk.length:Int)+(wv.length:Int)))=t.bytes+((Hk.length:Int)+(wv.length:Int)):=Cd (by omega)
    repeat'((conv=>whnf);first|(with_reducible refine Bq (by first|assumption|exact Ag (by assumption)) fun hb=>?_);(try rw[hb]);try simp only[Am]at hb|(with_reducible refine Ai (fun hb=>?_) fun hb=>?_)<;>(((try rw[hb]);(try simp only[Am]at hb)))|(with_reducible refine Aa ?_ ?_);focus (and_intros<;>first|omega|with_reducible rfl|kernel_rfl|intro _ hh;cases hh;done|exact Jm rfl|simp only[Eu];omega|simp;done|decide)|(with_reducible refine Dw.Gx ?_ ?_ ?_ fun Av=>?_);(iterate 3 focus (as_aux_lemma=>kernel_rfl));try simp only[zRL]at Av|(try dsimp only);rw[hvm]|(with_reducible refine Fv.mk ?_);refine⟨_,_,Xb,?_⟩|(with_reducible refine Fv.mk ?_);refine⟨_,_,Eh,?_⟩|(try dsimp only);(first|rw[Mi]|rw[Tt]|rw[Jx]|rw[Ku]|rw[Sb])|(first|with_reducible apply Ed|with_reducible apply L1);(focus (simp only[D.at,D.put,D.Cr,D.Bc,B7,Bw,D.Ap,B8,A4,Dq,Mw,Ef.Ap]<;>exact rfl))|(with_reducible apply Dh);(focus rfl);(focus (simp only[D.at,D.put,D.Cr,D.Bc,B7,Bw,D.Ap,B8,A4,Dq,Mw,Ef.Ap]<;>exact rfl));(try(focus exact rfl)))
    all_goals(try(conv=>whnf))
    refine Round.by (k+1,some Hk,(Ef.mk t.rev t.floor (t.bytes+((Hk.length:Int)+(wv.length:Int))) (t.keys+1) (t.Jk+(vs.length:Int))),VS2.set ((none:Option Nat).getD VS.length) (.ptr (.it (Ef.mk t.rev t.floor (t.bytes+((Hk.length:Int)+(wv.length:Int))) (t.keys+1) (t.Jk+(vs.length:Int))).Ap)),LD2++[(⟨Cp pn Hk,vs⟩:C0).Dp]) ?_ ⟨by omega,Av4,(by rw[Pw,eT];simp only[Un,Uo,W5,hc3]),(by dsimp only;omega),(by rw[eV2];simp),eL3,(by rw[hX2];exact hR)⟩ (by dsimp only;omega)
    try dsimp only
    show norm _ _=Dy _ _
    kernel_rfl
end Go.Ab
