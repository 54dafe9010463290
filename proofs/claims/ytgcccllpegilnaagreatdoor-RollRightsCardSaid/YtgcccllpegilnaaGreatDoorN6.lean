/- Lemmas -/
import Derived.Test.YtgcccllpegilnaaGreatDoorH3
set_option linter.unusedVariables false
set_option linter.unusedSimpArgs false
set_option maxRecDepth 100000
set_option maxHeartbeats 8000000
namespace Go.Ab
open Go.Proofs
theorem A2z(m:Ai)(q p:Nat):F9 (m.drop q) p=F9 m (q+p):=by
 simp[F9,List.getD_eq_getElem?_getD,List.getElem?_drop]
theorem A6a{m:Ai}{p:Nat}(h:p<m.length)(t:Ai):F9 (m++t) p=F9 m p:=by
 simp[F9,List.getD_eq_getElem?_getD,List.getElem?_append_left h]
def Bc3(m m':Ai)(p p':Nat):Prop:=∀k,k<64→F9 m (p+k)=F9 m' (p'+k)
theorem Arq{m m':Ai}{p p':Nat}(h:Bc3 m m' p p')(q:Nat):∀i,q+i≤64→R9 m (p+q) i=R9 m' (p'+q) i
 |0,_=>rfl
 |i+1,hi=>by
  simp only[R9];rw[Arq h q i (by omega),Nat.add_assoc,Nat.add_assoc,h (q+i) (by omega)]
theorem Aqy{m m':Ai}{p p':Nat}(h:Bc3 m m' p p'):∀t,sched m p t=sched m' p' t
 |0=>rfl
 |t+1=>by
  simp only[sched];rw[Aqy h t];split
  ·rw[Arq h (4*t) 4 (by omega)]
  ·rfl
theorem Amo{m m':Ai}{p p':Nat}(h:Bc3 m m' p p')(x:H8):S8 m p x=S8 m' p' x:=by
 unfold S8;rw[Aqy h]
theorem Uo(h:H8)(m:Ai)(a:Nat):∀b,Ct h m (a+b)=Ct (Ct h m a) (m.drop (64*a)) b
 |0=>rfl
 |b+1=>by
  rw[←Nat.add_assoc,Ct,Ct,Uo h m a b];exact Amo (fun k _=>by rw[A2z];congr 1;omega) _
theorem Up(h:H8)(m t:Ai):∀n,64*n≤m.length→Ct h (m++t) n=Ct h m n
 |0,_=>rfl
 |n+1,hn=>by
  rw[Ct,Ct,Up h m t n (by omega)]
  exact Amo (fun k hk=>A6a (by omega) t) _
theorem Amp(m:Ai):∀n,blocks m n=Ct H0 m n
 |0=>rfl
 |n+1=>by rw[blocks,Ct,Amp m n]
def Gd(T:Ai):Hs:=⟨Ct H0 T (T.length / 64),if T.length<64 then 5 else 1000005,T.drop (64*(T.length / 64)),(T.length:Int)⟩
theorem Be8(T:Ai):(Gd T).e<1000000→(Gd T).e=5:=by
 unfold Gd;dsimp only;split
 ·intro _;rfl
 ·intro h;exact absurd h (by decide)
theorem Ad0(T:Ai):(Gd T).rest.length=T.length % 64:=by
 show(T.drop _).length=_;rw[List.length_drop];omega
theorem A2o(T t:Ai)(h:T.length+t.length≤1000000000):(Gd T).write t=Gd (T++t):=by
 have hd:T.drop (64*(T.length / 64))++t=(T++t).drop (64*(T.length / 64)):=(List.drop_append_of_le_length (by omega)).symm
 have hl:((T++t).drop (64*(T.length / 64))).length / 64=(T++t).length / 64 - T.length / 64:=by
  rw[List.length_drop,List.length_append];omega
 have hle:T.length / 64≤(T++t).length / 64:=by rw[List.length_append];omega
 unfold Gd Hs.write;simp only[hd,hl]
 congr 1
 ·rw[←Up H0 T t (T.length / 64) (by omega), ←Uo]
  congr 1
  omega
 ·rw[List.length_append]at hle ⊢;by_cases h1:T.length<64
  ·by_cases h2:T.length+t.length<64
   ·rw[if_pos h1,if_pos h2,show(T.length+t.length) / 64 - T.length / 64=0 by omega];rfl
   ·rw[if_pos h1,if_neg h2,ee,if_neg (by omega)];rfl
  ·rw[if_neg h1,if_neg (by omega),ee]
   split
   ·rfl
   ·rfl
 ·rw[List.drop_drop]
  congr 1
  omega
 ·rw[List.length_append,wrap_u64,wrap_u64];omega
theorem Avq(T:Ai)(h:T.length≤1000000000):(Gd T).Ao8=Z2 T:=by
 have hz:Gf (Gd T).rest.length=Gf T.length:=by rw[Ad0];unfold Gf;omega
 have ht:(Gd T).tail=(L6 T).drop (64*(T.length / 64)):=by
  unfold Hs.tail;rw[hz];unfold L6 Gd;dsimp only;rw[List.append_assoc,List.append_assoc,List.append_assoc,List.append_assoc,List.drop_append_of_le_length (by omega),Int.toNat_natCast]
 unfold Hs.Ao8 Z2
 congr 1
 have hp:=Am3 T;have Hz:T.length / 64≤(L6 T).length / 64:=by
  have:T.length≤(L6 T).length:=by unfold L6;simp only[List.length_append];omega
  exact Nat.div_le_div_right this
 have hl:(Gd T).tail.length / 64=(L6 T).length / 64 - T.length / 64:=by rw[ht,List.length_drop];omega
 rw[hl,ht,Amp];have e1:(Gd T).w=Ct H0 (L6 T) (T.length / 64):=by
  show Ct H0 T (T.length / 64)=_;unfold L6;rw[List.append_assoc,List.append_assoc,Up H0 T _ _ (by omega)]
 rw[e1, ←Uo]
 congr 1
 omega
theorem Am4(T t:Ai)(h:T.length+t.length≤90000000):Fn Tryz.prog T8 [.own [] (Gd T).A6,.v (.str t)] (Is (F4 []) [.own [] (Gd (T++t)).A6,.no]):=by
 have:=A81 (Gd T) t (Be8 T) (by rw[Ad0];omega)
 rwa [A2o T t (by omega)]at this
theorem A14(T:Ai)(h:T.length≤90000000):Fn Tryz.prog Ww [.own [] (Gd T).A6] (Is (.v (.str (Z2 T))) [.own [] (Gd T).Bj9]):=by
 have:=Bcg (Gd T) (by rw[Ad0];omega) (by show 0≤(T.length:Int)∧(T.length:Int)≤1000000000;omega)
 rwa [Avq T (by omega)]at this
theorem A8s:Fn Tryz.prog Aov [] (Is (.own [] (Gd []).A6) []):=Bcf
theorem A25{l:List Ai}{k:Nat}{s:Ai}(h:l[k]?=some s):Eb (l.take (k+1))=Eb (l.take k)++Ee s.length 8++s:=by
 unfold Eb;rw[List.take_add_one,h,List.flatMap_append];simp
theorem Asp(l:List Ai)(k:Nat):(Eb (l.take k)).length≤(Eb l).length:=by
 have:Eb l=Eb (l.take k)++Eb (l.drop k):=by
  unfold Eb;rw[←List.flatMap_append,List.take_append_drop]
 rw[this,List.length_append];omega
theorem Bez(M j:Nat)(hj:j<8):IntKind.u8.wrap (L9 .u64 (M:Int) (56 - 8*(j:Int)))=((UInt8.ofNat (M / 256^(7 - j) % 256)).toNat:Int):=by
 have h1:(56 - 8*(j:Int)).toNat=8*(7 - j):=by omega
 have h2:L9 .u64 (M:Int) (56 - 8*(j:Int))=((M / 256^(7 - j):Nat):Int):=by
  unfold L9;rw[h1,Nat.min_eq_left (by show _≤64;omega),show(2:Int)^(8*(7 - j))=((256^(7 - j):Nat):Int)by rw[show(256:Nat)=2^8 from rfl, ←Nat.pow_mul];push_cast;rfl]
  exact(Int.ofNat_fdiv _ _).symm
 rw[h2,wrap_u8];have h3:(UInt8.ofNat (M / 256^(7 - j) % 256)).toNat=M / 256^(7 - j) % 256:=by
  rw[UInt8.toNat_ofNat'];omega
 rw[h3];omega
theorem Aq9(l:List Ai)(hn:l.length≤1000)(hl:(Eb l).length≤90000000):Fn Tryz.prog Aw6 [.v (.list (strs l))] (Is (.v (.str (Z2 (Eb l)))) [.no]):=by
 refine Av3 ?_ (by simp)
 repeat'((conv=>whnf);first|(refine eI ?_ ?_;focus (and_intros<;>first|exact rfl|(intro _ hh;cases hh;done)|decide))|(intro Aa)|(refine Ac.mk ⟨_,A8s,?_⟩;rintro _ _ ⟨rfl,rfl⟩))
 all_goals(try(conv=>whnf))
 refine Bq.by (X:=Nat) (fun k=>[(3,.own [] (Gd (Eb (l.take k))).A6),(11,.v (.int .i64 k))]) (fun k=>k≤l.length) (fun k=>l.length - k)
  0 (by rw[List.take_zero];kernel_rfl) (by omega) ?_
 intro k hk;have Asc:((strs l).length:Int)=(l.length:Int):=by simp
 by_cases Ce:k<l.length
 case neg=>
  have Bb:¬decide ((k:Int)<((strs l).length:Int))=true:=by rw[Asc,decide_eq_true_eq];omega
  obtain rfl:k=l.length:=by omega
  rw[List.take_length];repeat'((conv=>whnf);first|(apply aI<;>intro hb<;>first|exact absurd hb (by assumption)|((try rw[hb]);(try simp only[Ad]at hb)))|(refine eI ?_ ?_;focus (and_intros<;>first|exact rfl|(intro _ hh;cases hh;done)|(simp;done)|decide))|(refine Ac.mk ⟨_,(A14 (Eb l) hl),?_⟩;rintro _ _ ⟨rfl,rfl⟩))
  all_goals(try(conv=>whnf))
  (apply dK<;>kernel_rfl)
 have Bb:¬decide ((k:Int)<((strs l).length:Int))=false:=by rw[Asc,decide_eq_false_iff_not];omega
 obtain⟨s,hs⟩:∃s,l[k]?=some s:=⟨_,List.getElem?_eq_getElem Ce⟩;have hg:(strs l)[Int.toNat (k:Int)]?=some (.str s):=Z1 hs;have Nq:Int.toNat (k:Int)<(strs l).length:=by simp[Ce]
 have Y3:=A25 hs;have Jw:=Asp l (k+1);rw[Y3]at Jw;obtain⟨T,hT⟩:∃T,T=Eb (l.take k):=⟨_,rfl⟩;rw[←hT]at Y3 Jw ⊢;simp only[List.length_append,D4]at Jw;repeat'((conv=>whnf);first|(apply aI<;>intro hb<;>first|exact absurd hb (by assumption)|((try rw[hb]);(try simp only[Ad]at hb)))|(refine eI ?_ ?_;focus (and_intros<;>first|omega|exact rfl))|((try dsimp only);rw[hg]))
 all_goals(try(conv=>whnf))
 obtain⟨M,hM⟩:∃M,M=s.length:=⟨_,rfl⟩;have hMs:IntKind.u64.wrap (s.length:Int)=(M:Int):=by rw[wrap_u64];omega
 refine Bq.by (X:=Nat) (fun j=>[(6,.vec 5 1 (((Ee M 8).take j).map Cr)),(7,.v (.int .i64 (56 - 8*(j:Int))))]) (fun j=>j≤8) (fun j=>8 - j)
  0 (by rw[List.take_zero];kernel_rfl) (by omega) ?_
 intro j hj;obtain⟨F,hF⟩:∃F,F=(Ee M 8).take j:=⟨_,rfl⟩;have hFl:F.length=j:=by rw[hF,List.length_take,D4];omega
 rw[←hF];by_cases hj8:j<8
 case pos=>
  have e1:((F.map Cr).length+1)*1≤140737488355328:=by simp[hFl];omega
  have e2:(F.map Cr).length+1≤maxLen:=by simp[hFl,maxLen];omega
  have Uc:¬decide (56 - 8*(j:Int)≥0)=false:=by simp;omega
  have A6w:¬decide ((0:Int)≤56 - 8*(j:Int))=false:=by simp;omega
  have h0j:(0:Int)≤56 - 8*(j:Int):=by omega
  repeat'((conv=>whnf);first|(apply aI<;>intro hb<;>first|exact absurd hb (by assumption)|((try rw[hb]);(try simp only[Ad]at hb)))|(refine eI ?_ ?_;focus (and_intros<;>first|omega|exact rfl|assumption|exact B8 (by rfl)|(simp;done)))|(intro Aa))
  all_goals(try(conv=>whnf))
  have hF3:List.map Cr ((Ee M 8).take (j+1))=List.map Cr F++(List.replicate 1 (I.int IntKind.u8 0)).set 0 (I.int IntKind.u8 (IntKind.u8.wrap (L9 .u64 (IntKind.u64.wrap (s.length:Int)) (56 - 8*(j:Int))))):=by
   rw[hMs,Bez M j hj8,List.take_add_one,Aob 8 M j hj8, ←hF,List.map_append];rfl
  have hs4:IntKind.i64.wrap (56 - 8*(j:Int) - 8)=56 - 8*((j+1:Nat):Int):=by rw[IntKind.wrap_i64];omega
  refine Round.by (j+1) ?_ (by omega) (by omega)
  rw[hs4,hF3];show norm _ _=Bt _ _
  kernel_rfl
 have Uc:¬decide (56 - 8*(j:Int)≥0)=true:=by simp;omega
 have A6w:¬decide ((0:Int)≤56 - 8*(j:Int))=true:=by simp;omega
 obtain rfl:j=8:=by omega
 have hF8:F=Ee s.length 8:=by rw[hF,hM];exact List.take_of_length_le (by rw[D4];exact Nat.le_refl _)
 have hFm:F.length≤maxLen:=by rw[hFl];simp[maxLen]
 have w1:=Am4 T F (by omega)
 have w2:=Am4 (T++F) s (by rw[List.length_append];omega)
 repeat'((conv=>whnf);first|(apply aI<;>intro hb<;>first|exact absurd hb (by assumption)|((try rw[hb]);(try simp only[Ad]at hb)))|(refine eI ?_ ?_;focus (and_intros<;>first|omega|exact rfl|(intro _ hh;cases hh;done)|(simp;done)|decide))|((simp only[SV.Cx,Wi]))|(refine Ac.mk ⟨_,w1,?_⟩;rintro _ _ ⟨rfl,rfl⟩)|(refine Ac.mk ⟨_,w2,?_⟩;rintro _ _ ⟨rfl,rfl⟩))
 all_goals(try(conv=>whnf))
 refine Round.by (k+1) ?_ (by omega) (by omega)
 rw[Ak Ce (by simp only[maxLen];omega),Y3, ←hF8]
 show norm _ _=Bt _ _
 kernel_rfl
set_option maxHeartbeats 40000000

open Go.Proofs
theorem Aqg(a b:Ai)(ha:a.length≤100000)(hb:b.length≤100000):(Eb [a,b]).length≤90000000:=by
 have:=An6 (l:=[a,b]) (m:=100000) (by intro s hs;simp at hs;rcases hs with rfl|rfl<;>assumption)
 simp at this;omega
theorem X1(Bp word:Ai)(h1:Bp.length≤100000)(h2:word.length≤100000):Fn Tryz.prog A2u [.v (.str Bp),.v (.str word)] (Is (.v (.str (Hj Bp word))) [.no,.no]):=by
 refine Az6 ?_ (by simp)
 have j0:=Aq9 [Bp,word] (by simp) (Aqg _ _ h1 h2)
 repeat'((conv=>whnf);first|(refine eI ?_ ?_;focus (and_intros<;>first|exact rfl|(intro _ hh;cases hh;done)|exact B8 (by rfl)|(simp;done)|decide))|(refine Ac.mk ⟨_,j0,?_⟩;rintro _ _ ⟨rfl,rfl⟩))
 all_goals(try(conv=>whnf))
 refine Bq.by (X:=Nat) (fun t=>[(5,.v (.str (Tf Bp word t))),(10,.v (.int .i64 t))]) (fun t=>t≤8) (fun t=>8 - t)
  0 (by kernel_rfl) (by omega) ?_
 intro t ht;by_cases ht8:t<8
 case pos=>
  have Ga:¬decide ((t:Int)<8)=false:=by simp;omega
  have hl:=Tg Bp word t;have hs:Tf Bp word (t+1)=Z2 (Eb [Tf Bp word t,Bp]):=rfl;obtain⟨h,hh⟩:∃h,h=Tf Bp word t:=⟨_,rfl⟩;rw[←hh]at hl hs ⊢;have j1:=Aq9 [h,Bp] (by simp) (Aqg _ _ (by omega) h1)
  repeat'((conv=>whnf);first|(apply aI<;>intro hb<;>first|exact absurd hb (by assumption)|((try rw[hb]);(try simp only[Ad]at hb)))|(refine eI ?_ ?_;focus (and_intros<;>first|exact rfl|(intro _ hh;cases hh;done)|exact B8 (by rfl)|(simp;done)|decide))|(refine Ac.mk ⟨_,j1,?_⟩;rintro _ _ ⟨rfl,rfl⟩))
  all_goals(try(conv=>whnf))
  refine Round.by (t+1) ?_ ht8 (by omega)
  rw[Ak ht8 (by simp only[maxLen];omega),hs]
  show norm _ _=Bt _ _
  kernel_rfl
 have Ga:¬decide ((t:Int)<8)=true:=by simp;omega
 have Tn:t=8:=by omega
 subst Tn;repeat'((conv=>whnf);(apply aI<;>intro hb<;>first|exact absurd hb (by assumption)|((try rw[hb]);(try simp only[Ad]at hb))))
 all_goals(try(conv=>whnf))
 (apply dK<;>kernel_rfl)
abbrev Aw2:Ai:=[114,111,111,116]
def Fz(r:A8)(c:Ds):A8 × Int:=
 if c.kind=6 then
  if D2 c.name=false then(r,5)
  else if ¬(c.word.length≤64∧c.Bp.length≤64)then(r,2)
  else if Et Bc.name r.Ag c.name=true then(r,15)
  else if(Fc r.Be c.other).2=false then(r,16)
  else if 16≤(r.Ag.length:Int)then(r,17)
  else({r with Ag:=Hk (Ch Bc.name r.Ag c.name) ⟨c.name,c.other,c.Bp,Hj c.Bp c.word,[]⟩ r.Ag},0)
 else if c.kind=7 then
  if ¬(c.word.length≤64∧c.Bp.length≤64)then(r,2)
  else if Et Bc.name r.Ag c.name=false then(r,16)
  else match r.Ag[Ch Bc.name r.Ag c.name]? with
   |none=>(r,16)
   |some u=>({r with Ag:=r.Ag.set (Ch Bc.name r.Ag c.name) {u with Bp:=c.Bp,hash:=Hj c.Bp c.word}},0)
 else if Et Bc.name r.Ag c.name=false then(r,16)
 else if c.name=Aw2 then(r,1)
 else({r with Ag:=H6 (Ch Bc.name r.Ag c.name) r.Ag},0)
theorem Atv{α β:Type}(f:α→β)(i:Nat)(l:List α):(l.map f).take i++(l.map f).drop (i+1)=(H6 i l).map f:=by simp[H6,List.map_take,List.map_drop]
theorem Jb(r:A8):D.Ae (.vec B3 5 (r.Ag.map Bc.A6))=some (.list (r.Ag.map Bc.Ae)):=by simp[D.Ae,Qg, -List.map_map]
theorem Ge(r:A8):D.Ae (.vec B2 3 (r.Am.map Bh.A6))=some (.list (r.Am.map Bh.Ae)):=by simp[D.Ae,Fm, -List.map_map]
theorem Dr(r:A8):D.Ae r.A6=some r.Ae:=by simp[D.Ae,Bx,Bn,Fm,Qg, -List.map_map]
def Q4(r:A8)(c:Ds):D:=
 if c.kind=6∧(Fz r c).2=0 then .st [.it (.int .i64 r.rev),.vec Cc 3 ((r.Be.map B7.Ae).map D.it),.vec B3 5 (Hk (Ch Bc.name r.Ag c.name) (.it (Bc.Ae ⟨c.name,c.other,c.Bp,Hj c.Bp c.word,[]⟩)) (r.Ag.map Bc.A6)),.vec B2 3 (r.Am.map Bh.A6)]
 else(Fz r c).1.A6
theorem A39(r:A8)(hs:r.Small)(c:Ds)(hc:c.Bp.length≤100000∧c.word.length≤100000)(hk:c.kind=6):Fn Tryz.prog Vj [.own [] (.ptr r.A6),.v c.Ae] (Is (.v (.int .i64 (Fz r c).2)) [.own [] (.ptr (Q4 r c)),.no]):=by
 refine Zs ?_ (by simp)
 have D0:=hs;obtain⟨b1,b2,b3,b4,b5⟩:=hs;have hf:=T4 r.Ag c.name (by omega)
 have hn:=X0 c.name;have n1:=Ja c.word;have n2:=Ja c.Bp;have ht:=Nv r D0 c.other;have hh:=X1 c.Bp c.word (by omega) (by omega)
 repeat'((conv=>whnf);first|(apply aI<;>intro hb<;>first|exact absurd hb (by decide)|(exfalso;simp only[Az]at hb<;>omega)|((try rw[hb]);(try simp only[Ad]at hb)))|(refine eI ?_ ?_;focus (and_intros<;>first|omega|exact rfl|(intro _ hh;cases hh;done)|(simp;done)|decide))|(intro Aa)|((with_reducible apply A5.B5);(focus kernel_rfl);intro Aa;(try simp only[dRS]at Aa))|((simp only[show D.at (0::[].append [2]) (D.ptr r.A6)=some (D.vec B3 5 (r.Ag.map Bc.A6))from rfl,Jb,show D.at [0] (D.ptr r.A6)=some r.A6 from rfl,Dr]))|(refine Aj.mk ⟨_,_,hf,?_⟩)|(refine Ac.mk ⟨_,hn,?_⟩;rintro _ _ ⟨rfl,rfl⟩)|(refine Ac.mk ⟨_,n1,?_⟩;rintro _ _ ⟨rfl,rfl⟩)|(refine Ac.mk ⟨_,n2,?_⟩;rintro _ _ ⟨rfl,rfl⟩)|(refine Aj.mk ⟨_,_,ht,?_⟩)|(refine Aj.mk ⟨_,_,hh,?_⟩))
 all_goals(try(conv=>whnf))
 all_goals(
  obtain⟨X,hX⟩:∃X,Fz r c=X:=⟨_,rfl⟩;obtain⟨Y,hY⟩:∃Y,Q4 r c=Y:=⟨_,rfl⟩;have hY2:=hY;unfold Q4 at hY2;rw[hX]at hY2;rw[hX,hY];clear hY;simp[Fz, *, -hY2]at hX;subst hX;simp only[hk,true_and,false_and,if_true,if_false,Int.reduceEq]at hY2;subst hY2)
 all_goals try(apply dK<;>kernel_rfl)
 have hle:=S9 Bc.name r.Ag c.name;have Rj:=A16 (r.Ag.map Bc.A6) (.it (Bc.Ae ⟨c.name,c.other,c.Bp,Hj c.Bp c.word,[]⟩)) (Ch Bc.name r.Ag c.name) (by simp;omega) (by simp;omega)
 have htn:=R8 ⟨c.name,c.other,c.Bp,Hj c.Bp c.word,[]⟩;refine Ags ?_ (by decide)
 repeat'((conv=>whnf);first|(refine eI ?_ ?_;focus (and_intros<;>first|omega|exact rfl|(intro _ hh;cases hh;done)|exact F5 rfl|(simp;done)|decide))|((with_reducible apply A5.B5);(focus kernel_rfl);intro Aa;(try simp only[dRS]at Aa))|((simp only[show D.at (0::[].append [2]) (D.ptr r.A6)=some (D.vec B3 5 (r.Ag.map Bc.A6))from rfl,Jb,show D.at [0] (D.ptr r.A6)=some r.A6 from rfl,Dr]))|(refine Aj.mk ⟨_,_,hf,?_⟩)|(refine Aj.mk ⟨_,_,htn,?_⟩)|(refine Aj.mk ⟨_,_,Rj,?_⟩))
 all_goals(try(conv=>whnf))
 (apply dK<;>kernel_rfl)
theorem A4a(r:A8)(hs:r.Small)(c:Ds)(hc:c.Bp.length≤100000∧c.word.length≤100000)(hk:c.kind=7):Fn Tryz.prog Vj [.own [] (.ptr r.A6),.v c.Ae] (Is (.v (.int .i64 (Fz r c).2)) [.own [] (.ptr (Q4 r c)),.no]):=by
 refine Zs ?_ (by simp)
 have D0:=hs;obtain⟨b1,b2,b3,b4,b5⟩:=hs;have hf:=T4 r.Ag c.name (by omega)
 have n1:=Ja c.word;have n2:=Ja c.Bp;have hh:=X1 c.Bp c.word (by omega) (by omega)
 have hU:Q4 r c=(Fz r c).1.A6:=by simp[Q4,hk]
 rw[hU];by_cases hL:c.word.length≤64∧c.Bp.length≤64
 case neg=>
  have hP:Fz r c=(r,2):=by simp only[Fz,hk,hL,Int.reduceEq,if_false,if_true,not_false_eq_true]
  rw[hP];repeat'((conv=>whnf);first|(apply aI<;>intro hb<;>first|exact absurd hb (by decide)|(exfalso;simp only[Az]at hb<;>omega)|((try rw[hb]);(try simp only[Ad]at hb)))|(refine eI ?_ ?_;focus (and_intros<;>first|omega|exact rfl|(intro _ hh;cases hh;done)|(simp;done)|decide))|((with_reducible apply A5.B5);(focus kernel_rfl);intro Aa;(try simp only[dRS]at Aa))|((simp only[show D.at (0::[].append [2]) (D.ptr r.A6)=some (D.vec B3 5 (r.Ag.map Bc.A6))from rfl,Jb,show D.at [0] (D.ptr r.A6)=some r.A6 from rfl,Dr]))|(refine Aj.mk ⟨_,_,hf,?_⟩)|(refine Ac.mk ⟨_,n1,?_⟩;rintro _ _ ⟨rfl,rfl⟩)|(refine Ac.mk ⟨_,n2,?_⟩;rintro _ _ ⟨rfl,rfl⟩))
  all_goals(try(conv=>whnf))
  all_goals first|(exfalso;omega)|(apply dK<;>kernel_rfl)
 obtain⟨hL1,hL2⟩:=hL;have e1:decide (c.word.length≤64)=true:=by simp[hL1]
 have e2:decide (c.Bp.length≤64)=true:=by simp[hL2]
 rw[e1]at n1;rw[e2]at n2;cases hb:Et Bc.name r.Ag c.name with
 |false=>
  rw[hb]at hf;have hP:Fz r c=(r,16):=by simp only[Fz,hk,hL1,hL2,hb,Int.reduceEq,if_false,if_true,not_true_eq_false,and_self]
  rw[hP];repeat'((conv=>whnf);first|(apply aI<;>intro hb<;>first|exact absurd hb (by decide)|(exfalso;simp only[Az]at hb<;>omega)|((try rw[hb]);(try simp only[Ad]at hb)))|(refine eI ?_ ?_;focus (and_intros<;>first|omega|exact rfl|(intro _ hh;cases hh;done)|(simp;done)|decide))|((with_reducible apply A5.B5);(focus kernel_rfl);intro Aa;(try simp only[dRS]at Aa))|((simp only[show D.at (0::[].append [2]) (D.ptr r.A6)=some (D.vec B3 5 (r.Ag.map Bc.A6))from rfl,Jb,show D.at [0] (D.ptr r.A6)=some r.A6 from rfl,Dr]))|(refine Aj.mk ⟨_,_,hf,?_⟩)|(refine Ac.mk ⟨_,n1,?_⟩;rintro _ _ ⟨rfl,rfl⟩)|(refine Ac.mk ⟨_,n2,?_⟩;rintro _ _ ⟨rfl,rfl⟩))
  all_goals(try(conv=>whnf))
  all_goals(apply dK<;>kernel_rfl)
 |true=>
  rw[hb]at hf;obtain⟨x,hx, -⟩:=Lv hb;have hP:Fz r c=({r with Ag:=r.Ag.set (Ch Bc.name r.Ag c.name) {x with Bp:=c.Bp,hash:=Hj c.Bp c.word}},0):=by simp only[Fz,hk,hL1,hL2,hb,hx,Int.reduceEq,if_false,if_true,not_true_eq_false,and_self,Bool.true_eq_false]
  rw[hP];clear hP hU;have Ry:(r.Ag.map Bc.A6)[Ch Bc.name r.Ag c.name]?=some x.A6:=by simp[hx]
  have Bb:Ch Bc.name r.Ag c.name<r.Ag.length:=(List.getElem?_eq_some_iff.1 hx).1;have Cs:(r.Ag.set (Ch Bc.name r.Ag c.name) {x with Bp:=c.Bp,hash:=Hj c.Bp c.word}).map Bc.A6=(r.Ag.map Bc.A6).set (Ch Bc.name r.Ag c.name) (Bc.A6 {x with Bp:=c.Bp,hash:=Hj c.Bp c.word}):=by simp[List.map_set]
  have hD:A8.A6 {r with Ag:=r.Ag.set (Ch Bc.name r.Ag c.name) {x with Bp:=c.Bp,hash:=Hj c.Bp c.word}}= .st [.it (.int .i64 r.rev),.vec Cc 3 ((r.Be.map B7.Ae).map D.it),.vec B3 5 ((r.Ag.map Bc.A6).set (Ch Bc.name r.Ag c.name) (Bc.A6 {x with Bp:=c.Bp,hash:=Hj c.Bp c.word})),.vec B2 3 (r.Am.map Bh.A6)]:=by rw[←Cs]
  rw[hD];repeat'((conv=>whnf);first|(apply aI<;>intro hb<;>first|exact absurd hb (by decide)|(exfalso;simp only[Az]at hb<;>omega)|((try rw[hb]);(try simp only[Ad]at hb)))|(refine eI ?_ ?_;focus (and_intros<;>first|omega|exact rfl|(intro _ hh;cases hh;done)|(simp only[Az];omega)|(simp;done)|decide))|((with_reducible apply A5.B5);(focus kernel_rfl);intro Aa;(try simp only[dRS]at Aa))|((simp only[show D.at (0::[].append [2]) (D.ptr r.A6)=some (D.vec B3 5 (r.Ag.map Bc.A6))from rfl,Jb,show D.at [0] (D.ptr r.A6)=some r.A6 from rfl,Dr]))|(refine Aj.mk ⟨_,_,hf,?_⟩)|(refine Ac.mk ⟨_,n1,?_⟩;rintro _ _ ⟨rfl,rfl⟩)|(refine Ac.mk ⟨_,n2,?_⟩;rintro _ _ ⟨rfl,rfl⟩)|(refine Aj.mk ⟨_,_,hh,?_⟩)|((first|with_reducible apply Lr|((with_reducible apply D9);(focus rfl)));(focus (simp only[D.at,D.put,D.Dj,D.Db,List.cons_append,List.nil_append,List.append,List.getElem?_cons_zero,List.getElem?_cons_succ,Int.toNat_natCast,List.getElem?_set_self',Option.map_eq_map,Option.map_some,List.set_cons_zero,List.set_cons_succ,List.set_set,Function.const_apply,List.map_cons,List.map_nil,Cu,Cn,D.Ae,Bx,Bn,List.getElem?_map,List.length_map,List.length_set,Ry]<;>exact rfl));(try(focus exact rfl))))
  all_goals(try(conv=>whnf))
  (apply dK<;>kernel_rfl)
theorem A4b(r:A8)(hs:r.Small)(c:Ds)(hk:c.kind≠6∧c.kind≠7):Fn Tryz.prog Vj [.own [] (.ptr r.A6),.v c.Ae] (Is (.v (.int .i64 (Fz r c).2)) [.own [] (.ptr (Q4 r c)),.no]):=by
 refine Zs ?_ (by simp)
 have D0:=hs;obtain⟨b1,b2,b3,b4,b5⟩:=hs;obtain⟨k6,k7⟩:=hk;have hf:=T4 r.Ag c.name (by omega)
 have n1:=Ja c.word;have n2:=Ja c.Bp;have hD:Q4 r c=(Fz r c).1.A6:=by simp[Q4,k6]
 rw[hD];have hP:Fz r c=(if Et Bc.name r.Ag c.name=false then(r,16)else if c.name=Aw2 then(r,1)else({r with Ag:=H6 (Ch Bc.name r.Ag c.name) r.Ag},0)):=by simp only[Fz,k6,k7,if_false]
 rw[hP];cases hb:Et Bc.name r.Ag c.name with
 |false=>
  rw[hb]at hf;rw[if_pos rfl];repeat'((conv=>whnf);first|(apply aI<;>intro hb<;>first|exact absurd hb (by decide)|(exfalso;simp only[Az]at hb<;>omega)|((try rw[hb]);(try simp only[Ad]at hb)))|(refine eI ?_ ?_;focus (and_intros<;>first|omega|exact rfl|(intro _ hh;cases hh;done)|(simp;done)|decide))|((with_reducible apply A5.B5);(focus kernel_rfl);intro Aa;(try simp only[dRS]at Aa))|((simp only[show D.at (0::[].append [2]) (D.ptr r.A6)=some (D.vec B3 5 (r.Ag.map Bc.A6))from rfl,Jb,show D.at [0] (D.ptr r.A6)=some r.A6 from rfl,Dr]))|(refine Aj.mk ⟨_,_,hf,?_⟩)|(refine Ac.mk ⟨_,n1,?_⟩;rintro _ _ ⟨rfl,rfl⟩)|(refine Ac.mk ⟨_,n2,?_⟩;rintro _ _ ⟨rfl,rfl⟩))
  all_goals(try(conv=>whnf))
  all_goals(apply dK<;>kernel_rfl)
 |true=>
  rw[hb]at hf;rw[if_neg (by simp)]
  by_cases hr:c.name=Aw2
  ·rw[if_pos hr];repeat'((conv=>whnf);first|(apply aI<;>intro hb<;>first|exact absurd hb (by decide)|(exfalso;simp only[Az]at hb<;>omega)|((try rw[hb]);(try simp only[Ad]at hb)))|(refine eI ?_ ?_;focus (and_intros<;>first|omega|exact rfl|(intro _ hh;cases hh;done)|(simp;done)|decide))|((with_reducible apply A5.B5);(focus kernel_rfl);intro Aa;(try simp only[dRS]at Aa))|((simp only[show D.at (0::[].append [2]) (D.ptr r.A6)=some (D.vec B3 5 (r.Ag.map Bc.A6))from rfl,Jb,show D.at [0] (D.ptr r.A6)=some r.A6 from rfl,Dr]))|(refine Aj.mk ⟨_,_,hf,?_⟩)|(refine Ac.mk ⟨_,n1,?_⟩;rintro _ _ ⟨rfl,rfl⟩)|(refine Ac.mk ⟨_,n2,?_⟩;rintro _ _ ⟨rfl,rfl⟩))
   all_goals(try(conv=>whnf))
   all_goals first|contradiction|(apply dK<;>kernel_rfl)
  ·rw[if_neg hr];obtain⟨x,hx, -⟩:=Lv hb;have Bb:Ch Bc.name r.Ag c.name<r.Ag.length:=(List.getElem?_eq_some_iff.1 hx).1;have Ajf:=A1v (r.Ag.map Bc.A6) (Ch Bc.name r.Ag c.name) (by simpa using Bb) (by simp;omega)
   rw[Atv]at Ajf;have hw:IntKind.i64.wrap ((Ch Bc.name r.Ag c.name:Int)+1)=((Ch Bc.name r.Ag c.name+1:Nat):Int):=Ak Bb (by simp only[maxLen];omega)
   repeat'((conv=>whnf);first|(apply aI<;>intro hb<;>first|exact absurd hb (by decide)|(exfalso;simp only[Az]at hb<;>omega)|((try rw[hb]);(try simp only[Ad]at hb)))|(refine eI ?_ ?_;focus (and_intros<;>first|omega|exact rfl|(intro _ hh;cases hh;done)|(simp;done)|decide))|((with_reducible apply A5.B5);(focus kernel_rfl);intro Aa;(try simp only[dRS]at Aa))|((simp only[show D.at (0::[].append [2]) (D.ptr r.A6)=some (D.vec B3 5 (r.Ag.map Bc.A6))from rfl,Jb,show D.at [0] (D.ptr r.A6)=some r.A6 from rfl,Dr]))|(refine Aj.mk ⟨_,_,hf,?_⟩)|(refine Ac.mk ⟨_,n1,?_⟩;rintro _ _ ⟨rfl,rfl⟩)|(refine Ac.mk ⟨_,n2,?_⟩;rintro _ _ ⟨rfl,rfl⟩)|((simp only[List.tail,List.headD,hw]))|(refine Ac.mk ⟨_,Ajf,?_⟩;rintro _ _ ⟨rfl,rfl⟩))
   all_goals(try(conv=>whnf))
   all_goals first|contradiction|(apply dK<;>kernel_rfl)

open Go.Proofs
theorem A80(r:A8)(hs:r.Small)(c:Ds)(hc:c.Bp.length≤100000∧c.word.length≤100000):Fn Tryz.prog Vj [.own [] (.ptr r.A6),.v c.Ae] (Is (.v (.int .i64 (Fz r c).2)) [.own [] (.ptr (Q4 r c)),.no]):=by
 by_cases h6:c.kind=6
 ·exact A39 r hs c hc h6
 by_cases h7:c.kind=7
 ·exact A4a r hs c hc h7
 exact A4b r hs c ⟨h6,h7⟩
theorem A34(k:Ai):Fn Tryz.prog Aef [.v (.str k)] (Is (.v (.bool false)) [.no]):=by
 refine Adr ?_ (by simp)
 (conv=>whnf)
 all_goals(try(conv=>whnf))
 refine Bd.mk ⟨SV.Co ?_,by kernel_rfl⟩ (by kernel_rfl)
 simp
theorem Bch(a b:Ai):Fn Tryz.prog Amj [.v (.str a),.v (.str b)] (Is (.v (.bool (decide (a<b)))) [.no,.no]):=by
 refine Aj3 ?_ (by simp)
 repeat'((conv=>whnf);first|(apply aI<;>intro hb<;>first|exact absurd hb (by decide)|((try rw[hb]);(try simp only[Ad]at hb)))|(refine eI ?_ ?_;focus (and_intros<;>first|(intro _ hh;cases hh;done)|(simp;done)|decide))|(refine Ac.mk ⟨_,Aq8 _,?_⟩;rintro _ _ ⟨rfl,rfl⟩))
 all_goals(try(conv=>whnf))
 exact Bd.mk ⟨SV.Co (by rw[G5]),by kernel_rfl⟩ (by kernel_rfl)
theorem A6d{α β γ:Type}(g:β→γ)(f:α→β)(i:Nat)(l:List α):((l.map f).map g).take i++((l.map f).map g).drop (i+1)=((H6 i l).map f).map g:=by simp[H6,List.map_take,List.map_drop]
abbrev Gi(s:Ai):Ai:=s
theorem A8n(l:List Ai)(n:Ai)(hl:l.length≤100000):Fn Tryz.prog N0 [.v (.list (strs l)),.v (.str n)] (Is (.Dv [.i (.int .i64 (Ch Gi l n)),.i (.bool (Et Gi l n))]) [.no,.no]):=by
 refine Nc ?_ (by simp)
 repeat'((conv=>whnf);first|(refine eI ?_ ?_;focus (and_intros<;>exact rfl))|(intro Aa))
 all_goals(try(conv=>whnf))
 obtain⟨A,hA⟩:∃A,A=Ch Gi l n:=⟨_,rfl⟩;have hAF:Et Gi l n=(l[A]?).any (fun x=>decide (x=n)):=by rw[hA];rfl
 have Bdn:A≤l.length:=by rw[hA];exact S9 _ _ _
 rw[hAF, ←hA];unfold Ch at hA;refine Bq.by (X:=Nat × Nat × Nat) (fun x=>[(7,.v (.int .i64 x.2.1)),(8,.v (.int .i64 x.2.2))]) (fun x=>x.2.1≤x.2.2∧x.2.2≤l.length∧x.2.2 - x.2.1≤x.1∧Lg (K2 Gi l n) x.1 x.2.1 x.2.2=A) (fun x=>x.2.2 - x.2.1)
  (l.length,0,l.length) (by rw[List.length_map];kernel_rfl) ⟨Nat.zero_le _,Nat.le_refl _,Nat.sub_le _ _,hA.symm⟩ ?_
 rintro⟨f,i,j⟩ ⟨h1,h2,h3,h4⟩;dsimp only at h1 h2 h3 h4 ⊢;by_cases Gv:i<j
 case neg=>
  have Bb:¬decide ((i:Int)<(j:Int))=true:=by simp;omega
  obtain rfl:i=A:=by
   rw[←h4];cases f with
   |zero=>rfl
   |succ f=>rw[Lg,if_neg Gv]
  by_cases J4:i<l.length
  ·obtain⟨e,he⟩:∃e,l[i]?=some e:=⟨_,List.getElem?_eq_getElem J4⟩;have J5:¬decide ((i:Int)<((strs l).length:Int))=false:=by simp[J4]
   have hl3:¬decide ((i:Int)<(l.length:Int))=false:=by simp[J4]
   rw[he];simp only[Option.any_some];repeat'((conv=>whnf);first|(apply aI<;>intro hb<;>first|exact absurd hb (by first|assumption|decide)|((try rw[hb]);(try simp only[Ad]at hb);(try subst hb)))|(refine eI ?_ ?_;focus (and_intros<;>first|omega|exact rfl|(intro _ hh;cases hh;done)|(simp;done)|decide))|((try dsimp only);first|rw[Av he]|rw[An he]|rw[Ap he])|(refine Ac.mk ⟨_,A34 _,?_⟩;rintro _ _ ⟨rfl,rfl⟩))
   all_goals(try(conv=>whnf))
   all_goals exact Bd.mk ⟨rfl,by kernel_rfl⟩ (by kernel_rfl)
  ·have J5:¬decide ((i:Int)<((strs l).length:Int))=true:=by simp;omega
   have hl3:¬decide ((i:Int)<(l.length:Int))=true:=by simp;omega
   rw[List.getElem?_eq_none (by omega)]
   simp only[Option.any_none];repeat'((conv=>whnf);(apply aI<;>intro hb<;>first|exact absurd hb (by first|assumption|decide)|((try rw[hb]);(try simp only[Ad]at hb))))
   all_goals(try(conv=>whnf))
   (apply dK<;>kernel_rfl)
 have Bb:¬decide ((i:Int)<(j:Int))=false:=by simp[Gv]
 obtain⟨g,rfl⟩:∃g,f=g+1:=⟨f - 1,by omega⟩
 rw[Lg,if_pos Gv]at h4;have Sc:=Aqk (i:=i) (j:=j) (by omega)
 obtain⟨h,hh⟩:∃h,h=(i+j) / 2:=⟨_,rfl⟩;rw[←hh]at Sc h4;have hhj:h<j:=by omega
 obtain⟨e,he⟩:∃e,l[h]?=some e:=⟨_,List.getElem?_eq_getElem (by omega)⟩
 have hle:K2 Gi l n h=decide (e<n):=by unfold K2;rw[he];rfl
 have hw:IntKind.i64.wrap ((h:Int)+1)=((h+1:Nat):Int):=Ak (n:=1000000) (by omega) (by simp only[maxLen];omega)
 rw[hle]at h4;have Ei:=Bch e n;by_cases hc:e<n
 ·rw[if_pos (by simpa using hc)]at h4
  rw[show decide (e<n)=true by simp[hc]]at Ei
  repeat'((conv=>whnf);first|(apply aI<;>intro hb<;>first|exact absurd hb (by first|assumption|decide)|((try rw[hb]);(try simp only[Ad]at hb)))|(refine eI ?_ ?_;focus (and_intros<;>first|omega|exact rfl|(intro _ hh;cases hh;done)|(simp;done)|decide))|((try dsimp only);rw[Sc])|((try dsimp only);first|rw[Av he]|rw[An he]|rw[Ap he])|(refine Ac.mk ⟨_,Ei,?_⟩;rintro _ _ ⟨rfl,rfl⟩)|((try dsimp only);rw[hw]))
  all_goals(try(conv=>whnf))
  refine Round.by (g,h+1,j) ?_ ⟨by dsimp only;omega,h2,by dsimp only;omega,h4⟩ (by dsimp only;omega)
  dsimp only;show norm _ _=Bt _ _
  kernel_rfl
 ·rw[if_neg (by simpa using hc)]at h4
  rw[show decide (e<n)=false by simp[hc]]at Ei
  repeat'((conv=>whnf);first|(apply aI<;>intro hb<;>first|exact absurd hb (by first|assumption|decide)|((try rw[hb]);(try simp only[Ad]at hb)))|(refine eI ?_ ?_;focus (and_intros<;>first|omega|exact rfl|(intro _ hh;cases hh;done)|(simp;done)|decide))|((try dsimp only);rw[Sc])|((try dsimp only);first|rw[Av he]|rw[An he]|rw[Ap he])|(refine Ac.mk ⟨_,Ei,?_⟩;rintro _ _ ⟨rfl,rfl⟩))
  all_goals(try(conv=>whnf))
  refine Round.by (g,i,h) ?_ ⟨by dsimp only;omega,by dsimp only;omega,by dsimp only;omega,h4⟩ (by dsimp only;omega)
  dsimp only;show norm _ _=Bt _ _
  kernel_rfl
def J7(r:A8)(c:Ds):A8 × Int:=
 if Et Bc.name r.Ag c.name=false then(r,16)
 else match r.Ag[Ch Bc.name r.Ag c.name]? with
 |none=>(r,16)
 |some u=>
  if c.kind=14 then
   if Et Gi u.A2 c.other=false then(r,16)
   else({r with Ag:=r.Ag.set (Ch Bc.name r.Ag c.name) {u with A2:=H6 (Ch Gi u.A2 c.other) u.A2}},0)
  else if(F3 r.Am c.other).2=false then(r,16)
  else if(F3 r.Am c.other).1.Du≠u.Du then(r,18)
  else if Et Gi u.A2 c.other=true then(r,15)
  else if 4≤(u.A2.length:Int)then(r,17)
  else({r with Ag:=r.Ag.set (Ch Bc.name r.Ag c.name) {u with A2:=Hk (Ch Gi u.A2 c.other) c.other u.A2}},0)
theorem A8r(r:A8)(hs:r.Small)(c:Ds):Fn Tryz.prog A2x [.own [] (.ptr r.A6),.v c.Ae] (Is (.v (.int .i64 (J7 r c).2)) [.own [] (.ptr (J7 r c).1.A6),.no]):=by
 refine Az9 ?_ (by simp)
 have D0:=hs;obtain⟨b1,b2,b3,b4,b5⟩:=hs;have hf:=T4 r.Ag c.name (by omega)
 have ht:=Aig r D0 c.other;cases hb:Et Bc.name r.Ag c.name with
 |false=>
  rw[hb]at hf;rw[show J7 r c=(r,16)by simp only[J7,hb,if_true]]
  repeat'((conv=>whnf);first|(apply aI<;>intro hb<;>first|exact absurd hb (by decide)|((try rw[hb]);(try simp only[Ad]at hb)))|(refine eI ?_ ?_;focus (and_intros<;>first|omega|exact rfl|(simp;done)))|((with_reducible apply A5.B5);(focus kernel_rfl);intro Aa;(try simp only[dRS]at Aa))|((simp only[show D.at (0::[].append [2]) (D.ptr r.A6)=some (D.vec B3 5 (r.Ag.map Bc.A6))from rfl,Jb,show D.at [0] (D.ptr r.A6)=some r.A6 from rfl,Dr]))|(refine Aj.mk ⟨_,_,hf,?_⟩)|(refine Aj.mk ⟨_,_,ht,?_⟩))
  all_goals(try(conv=>whnf))
  all_goals(apply dK<;>kernel_rfl)
 |true=>
  rw[hb]at hf;obtain⟨u,hu, -⟩:=Lv hb;have Pw:=b4 u (List.mem_of_getElem? hu);have hbs:=A8n u.A2 c.other (by omega)
  have Bb:Ch Bc.name r.Ag c.name<r.Ag.length:=(List.getElem?_eq_some_iff.1 hu).1;obtain⟨i,hi⟩:∃i,i=Ch Bc.name r.Ag c.name:=⟨_,rfl⟩;have hP:J7 r c=(if c.kind=14 then
   if Et Gi u.A2 c.other=false then(r,16)
   else({r with Ag:=r.Ag.set i {u with A2:=H6 (Ch Gi u.A2 c.other) u.A2}},0)
   else if(F3 r.Am c.other).2=false then(r,16)
   else if(F3 r.Am c.other).1.Du≠u.Du then(r,18)
   else if Et Gi u.A2 c.other=true then(r,15)
   else if 4≤(u.A2.length:Int)then(r,17)
   else({r with Ag:=r.Ag.set i {u with A2:=Hk (Ch Gi u.A2 c.other) c.other u.A2}},0)):=by
   unfold J7;rw[hb,hu, ←hi];rfl
  rw[←hi]at hf Bb hu;clear hi;have Ry:(r.Ag.map Bc.A6)[i]?=some u.A6:=by simp[hu]
  repeat'((conv=>whnf);first|(apply aI<;>intro hb<;>first|exact absurd hb (by decide)|((try rw[hb]);(try simp only[Ad]at hb)))|(refine eI ?_ ?_;focus (and_intros<;>first|omega|exact rfl|exact F5 rfl|(simp only[Az];omega)|(simp;done)|decide))|(intro Aa)|((with_reducible apply A5.B5);(focus kernel_rfl);intro Aa;(try simp only[dRS]at Aa))|((simp only[show D.at (0::[].append [2]) (D.ptr r.A6)=some (D.vec B3 5 (r.Ag.map Bc.A6))from rfl,Jb,show D.at [0] (D.ptr r.A6)=some r.A6 from rfl,Dr]))|(refine Aj.mk ⟨_,_,hf,?_⟩)|(refine Aj.mk ⟨_,_,ht,?_⟩)|(refine Aj.mk ⟨_,_,hbs,?_⟩)|((first|with_reducible apply Ahs|with_reducible apply Lr|((first|with_reducible apply D9|with_reducible apply X8);(focus rfl)));(focus (simp only[D.at,D.put,D.Dj,D.Db,List.cons_append,List.nil_append,List.append,List.getElem?_cons_zero,List.getElem?_cons_succ,Int.toNat_natCast,List.getElem?_set_self',Option.map_eq_map,Option.map_some,List.set_cons_zero,List.set_cons_succ,List.set_set,Function.const_apply,List.map_cons,List.map_nil,Cu,Cn,D.Ae,Bx,Bn,List.getElem?_map,List.length_map,List.length_set,Ry]<;>exact rfl));(try(focus exact rfl))))
  all_goals(try(conv=>whnf))
  ·rw[show J7 r c=(r,16)by rw[hP];simp[*]]
   (apply dK<;>kernel_rfl)
  ·have hh:Et Gi u.A2 c.other=true:=by assumption
   obtain⟨x,hx, -⟩:=Lv hh;have Nq:Ch Gi u.A2 c.other<u.A2.length:=(List.getElem?_eq_some_iff.1 hx).1;have e:J7 r c=({r with Ag:=r.Ag.set i {u with A2:=H6 (Ch Gi u.A2 c.other) u.A2}},0):=by rw[hP];simp[*, -hu, -Ry, -hx]
   have Cs:(r.Ag.set i {u with A2:=H6 (Ch Gi u.A2 c.other) u.A2}).map Bc.A6=(r.Ag.map Bc.A6).set i (Bc.A6 {u with A2:=H6 (Ch Gi u.A2 c.other) u.A2}):=by simp[List.map_set]
   have hD:A8.A6 {r with Ag:=r.Ag.set i {u with A2:=H6 (Ch Gi u.A2 c.other) u.A2}}= .st [.it (.int .i64 r.rev),.vec Cc 3 ((r.Be.map B7.Ae).map D.it),.vec B3 5 ((r.Ag.map Bc.A6).set i (Bc.A6 {u with A2:=H6 (Ch Gi u.A2 c.other) u.A2})),.vec B2 3 (r.Am.map Bh.A6)]:=by rw[←Cs]
   rw[e];dsimp only;rw[hD];have Ajf:=A3v ((u.A2.map I.str).map D.it) (Ch Gi u.A2 c.other) (by simpa using Nq) (by simp;omega)
   rw[A6d D.it I.str]at Ajf;have hw:IntKind.i64.wrap ((Ch Gi u.A2 c.other:Int)+1)=((Ch Gi u.A2 c.other+1:Nat):Int):=Ak Nq (by simp only[maxLen];omega)
   repeat'((conv=>whnf);first|(refine eI ?_ ?_;focus (and_intros<;>first|exact rfl|(intro _ hh;cases hh;done)|(simp;done)))|((simp only[List.tail,List.headD,hw]))|(refine Ac.mk ⟨_,Ajf,?_⟩;rintro _ _ ⟨rfl,rfl⟩)|((first|with_reducible apply Ahs|((with_reducible apply D9);(focus rfl)));(focus (simp only[D.at,D.put,D.Dj,D.Db,List.cons_append,List.nil_append,List.append,List.getElem?_cons_zero,List.getElem?_cons_succ,Int.toNat_natCast,List.getElem?_set_self',Option.map_eq_map,Option.map_some,List.set_cons_zero,List.set_cons_succ,List.set_set,Function.const_apply,List.map_cons,List.map_nil,Cu,Cn,D.Ae,Bx,Bn,List.getElem?_map,List.length_map,List.length_set,Ry]<;>exact rfl));(try(focus exact rfl))))
   all_goals(try(conv=>whnf))
   (apply dK<;>kernel_rfl)
  ·rw[show J7 r c=(r,16)by rw[hP];simp[*]]
   (apply dK<;>kernel_rfl)
  ·rw[show J7 r c=(r,18)by rw[hP];simp[*]]
   (apply dK<;>kernel_rfl)
  ·rw[show J7 r c=(r,15)by rw[hP];simp[*]]
   (apply dK<;>kernel_rfl)
  ·rw[show J7 r c=(r,17)by rw[hP];simp[*]]
   (apply dK<;>kernel_rfl)
  ·have Nq:Ch Gi u.A2 c.other≤u.A2.length:=S9 _ _ _;have e:J7 r c=({r with Ag:=r.Ag.set i {u with A2:=Hk (Ch Gi u.A2 c.other) c.other u.A2}},0):=by rw[hP];simp[*, -hu, -Ry]
   have Cs:(r.Ag.set i {u with A2:=Hk (Ch Gi u.A2 c.other) c.other u.A2}).map Bc.A6=(r.Ag.map Bc.A6).set i (Bc.A6 {u with A2:=Hk (Ch Gi u.A2 c.other) c.other u.A2}):=by simp[List.map_set]
   have hD:A8.A6 {r with Ag:=r.Ag.set i {u with A2:=Hk (Ch Gi u.A2 c.other) c.other u.A2}}= .st [.it (.int .i64 r.rev),.vec Cc 3 ((r.Be.map B7.Ae).map D.it),.vec B3 5 ((r.Ag.map Bc.A6).set i (Bc.A6 {u with A2:=Hk (Ch Gi u.A2 c.other) c.other u.A2})),.vec B2 3 (r.Am.map Bh.A6)]:=by rw[←Cs]
   rw[e];dsimp only;rw[hD];have Rj:=A33 ((u.A2.map I.str).map D.it) (.it (.str c.other)) (Ch Gi u.A2 c.other) (by simpa using Nq) (by simp;omega)
   rw[Aqc D.it I.str]at Rj;repeat'((conv=>whnf);first|(refine eI ?_ ?_;focus (and_intros<;>first|exact rfl|(intro _ hh;cases hh;done)|(simp;done)))|((with_reducible apply A5.B5);(focus kernel_rfl);intro Aa;(try simp only[dRS]at Aa))|(refine Aj.mk ⟨_,_,Rj,?_⟩)|((first|with_reducible apply Lr|((with_reducible apply D9);(focus rfl)));(focus (simp only[D.at,D.put,D.Dj,D.Db,List.cons_append,List.nil_append,List.append,List.getElem?_cons_zero,List.getElem?_cons_succ,Int.toNat_natCast,List.getElem?_set_self',Option.map_eq_map,Option.map_some,List.set_cons_zero,List.set_cons_succ,List.set_set,Function.const_apply,List.map_cons,List.map_nil,Cu,Cn,D.Ae,Bx,Bn,List.getElem?_map,List.length_map,List.length_set,Ry]<;>exact rfl));(try(focus exact rfl))))
   all_goals(try(conv=>whnf))
   (apply dK<;>kernel_rfl)

open Go.Proofs
theorem Fn.Bjw{P:Program}{f:FuncId}{e:TypeId}{sz:Nat}{l:List I}{rest:List SV}{Cq:SV→List SV→Prop}(he:e<1000000)(h:Fn P f (.vec e sz l::rest) Cq):Fn P f (.own [] (.vec e sz (l.map D.it))::rest) Cq:=by
 intro G σ Fr w B6 Bu Bk E6;obtain⟨_,h0⟩:=E6 0 _ rfl;obtain⟨bs,r1,r2,r3,r4⟩:=h0;have hv:∃σ',Dt G σ' Fr ⟨w,0, #[]⟩ w∧Cw G σ' w (0,0) e sz l (B6.getD 0 undef)∧∀b i k,i≠0→σ b=some (i,k)→σ' b=some (i,k):=by
  have hc:(B6.getD 0 undef).cells.toList=[B6.getD 0 undef]:=by
   generalize B6.getD 0 undef=c at*;cases c<;>first|rfl|(simp[valOf,D.isAgg]at r2)
  rw[hc]at r1;obtain⟨xs,q1,q2,q3,q4⟩:=A3.A7f r1;have hor:Ew w e sz (B6.getD 0 undef) l.length xs:=by
   refine⟨q1.1,?_⟩;rcases q1.2 with⟨q,q'⟩|⟨g,off,cap,cur,a1,a2,a3,a4,a5,a6,a7⟩
   ·exact .inl ⟨q,q'⟩
   ·obtain⟨rfl,a8⟩:=a3 he;exact .inr ⟨g,cap,cur,a1,Nat.zero_le _,a2,a4,a5,a8,by simpa using a7⟩
  rcases q4 with⟨rfl,hb⟩|⟨g,rfl,hb⟩
  ·exact⟨σ,Bu,⟨xs,hor,q2,q3,fun b Br=>by rw[hb]at Br;cases Br⟩,fun _ _ _ _ h=>h⟩
  ·obtain⟨k,hk⟩:=r4 g (by simp)
   refine⟨fun b=>if b=g then some (0,0)else if σ b=some (0,0)then none else σ b,?_,⟨xs,hor,q2,q3,fun b Br=>?_⟩,fun b i k' hi Br=>?_⟩
   ·refine⟨Bu.fixed,?_,?_,Bu.frame,Bu.os,Bu.tape,Bu.output,Bu.size,Bu.apart,Bu.Jd⟩
    ·intro b Bg Br;split at Br
     ·rename_i e;subst e;exact Bu.own _ _ hk
     ·split at Br
      ·cases Br
      ·exact Bu.own _ _ Br
    ·intro b b' Bg h1 h2;split at h1<;>split at h2
     ·rename_i e1 e2;rw[e1,e2]
     ·split at h2
      ·cases h2
      ·rename_i n;rw[←h1]at h2;exact absurd h2 n
     ·split at h1
      ·cases h1
      ·rename_i n;rw[←h2]at h1;exact absurd h1 n
     ·split at h1
      ·cases h1
      ·split at h2
       ·cases h2
       ·exact Bu.inj _ _ _ h1 h2
   ·rw[hb]at Br;cases Br;simp
   ·dsimp only;rw[if_neg (by rintro rfl;rw[hk]at Br;cases Br;exact hi rfl),if_neg (by intro q;rw[Br]at q;cases q;exact hi rfl)]
    exact Br
 obtain⟨σ',g1,g2,g3⟩:=hv;have:=h G σ' Fr w B6 g1 (by simpa using Bk) (fun i sv hi=>by
  cases i with
  |zero=>cases hi;exact⟨rfl,g2⟩
  |succ i=>
   obtain⟨k1,k2⟩:=E6 (i+1) sv hi;exact⟨k1,k2.tr (Mem.le.refl G) fun b k hb=>⟨g3 b _ k (by omega) hb,rfl⟩⟩)
 simpa using this
theorem Ab5(g:Dg):Fn Tryz.prog Amk [.v g.Ae] (Is (.v (.bool (decide (Dk g.sp)&&(g.r||g.w)))) [.no]):=by
 refine Aj5 ?_ (by simp)
 have s1:=Rz g.sp;repeat'((conv=>whnf);first|(apply aI<;>intro hb<;>first|exact absurd hb (by decide)|((try rw[hb]);(try simp only[Ad]at hb)))|(refine eI ?_ ?_;focus (and_intros<;>first|omega|exact rfl|(intro _ hh;cases hh;done)|(simp;done)|decide))|(refine Ac.mk ⟨_,s1,?_⟩;rintro _ _ ⟨rfl,rfl⟩))
 all_goals(try(conv=>whnf))
 all_goals refine Bd.mk ⟨SV.Co ?_,by kernel_rfl⟩ (by kernel_rfl)
 all_goals simp[*]
def L1{α:Type}(p:α→Bool):Nat→List α→Int
 |_,[]=> -1
 |k,s::r=>if p s=true then k else L1 p (k+1) r
theorem Azi{α:Type}(p:α→Bool):∀(l:List α) (k:Nat),decide (0≤L1 p k l)=l.any p
 | [],_=>rfl
 |s::r,k=>by
  unfold L1;by_cases h:p s=true
  ·simp[h]
  ·rw[if_neg h,Azi p r (k+1)];simp[h]
theorem A31(l:List Dg)(g:Dg)(hl:l.length≤1000000):Fn Tryz.prog N8 [.v (.list (l.map Dg.Ae)),.v g.Ae] (Is (.v (.int .i64 (L1 (fun e=>decide (e=g)) 0 l))) [.no,.no]):=by
 refine N3 ?_ (by simp)
 have Gb:l.length≤maxLen:=by simp only[maxLen];omega
 repeat'((conv=>whnf);first|(refine eI ?_ ?_;focus (and_intros<;>exact rfl))|(intro Aa))
 all_goals(try(conv=>whnf))
 refine Bq.by (X:=Nat) (fun x=>[(8,.v (.int .i64 x))]) (fun x=>x≤l.length∧L1 (fun e=>decide (e=g)) x (l.drop x)=L1 (fun e=>decide (e=g)) 0 l) (fun x=>l.length - x)
  0 (by kernel_rfl) ⟨Nat.zero_le _,rfl⟩ ?_
 rintro k ⟨h1,h2⟩;by_cases hk:k<l.length
 ·obtain⟨e,he⟩:∃e,l[k]?=some e:=⟨_,List.getElem?_eq_getElem hk⟩;have Bb:¬decide ((k:Int)<((l.map Dg.Ae).length:Int))=false:=by simp[hk]
  have Ud:l[k]=e:=by rw[List.getElem?_eq_getElem hk]at he;simpa using he
  rw[List.drop_eq_getElem_cons hk,Ud]at h2;repeat'((conv=>whnf);first|(apply aI<;>intro hb<;>first|exact absurd hb (by assumption)|((try rw[hb]);(try simp only[Ad]at hb)))|(refine eI ?_ ?_;focus (and_intros<;>first|omega|exact rfl))|((with_reducible apply A5.B5);(focus kernel_rfl);intro Aa;(try simp only[dRS]at Aa))|((try dsimp only);first|rw[Av he]|rw[An he]|rw[Ap he]))
  all_goals(try(conv=>whnf))
  ·rw[Api]at hb;refine Bd.mk ⟨congrArg (fun n=>SV.v (.int .i64 n)) ?_,by kernel_rfl⟩ (by kernel_rfl)
   rw[←h2,L1,if_pos (by simpa[eq_comm]using hb)]
  ·rw[Api]at hb;refine Round.by (k+1) ?_ ⟨hk,?_⟩ (by omega)
   ·rw[Ak hk Gb];show norm _ _=Bt _ _
    kernel_rfl
   ·rw[←h2,L1,if_neg (by simpa[eq_comm]using hb)]
 ·have Bb:¬decide ((k:Int)<((l.map Dg.Ae).length:Int))=true:=by simp;omega
  repeat'((conv=>whnf);(apply aI<;>intro hb<;>first|exact absurd hb (by assumption)|((try rw[hb]);(try simp only[Ad]at hb))))
  all_goals(try(conv=>whnf))
  refine Bd.mk ⟨congrArg (fun n=>SV.v (.int .i64 n)) ?_,by kernel_rfl⟩ (by kernel_rfl)
  rw[←h2,List.drop_eq_nil_of_le (by omega)]
  rfl
theorem Q2(l:List Dg)(g:Dg)(hl:l.length≤1000000):Fn Tryz.prog Mr [.v (.list (l.map Dg.Ae)),.v g.Ae] (Is (.v (.bool (l.any fun e=>decide (e=g)))) [.no,.no]):=by
 refine Mo ?_ (by simp)
 have h:=A31 l g hl;rw[←Azi _ l 0];repeat'((conv=>whnf);first|(refine eI ?_ ?_;focus (and_intros<;>first|omega|exact rfl|(intro _ hh;cases hh;done)|(simp;done)|decide))|(refine Ac.mk ⟨_,h,?_⟩;rintro _ _ ⟨rfl,rfl⟩))
 all_goals(try(conv=>whnf))
 exact Bd.mk ⟨SV.Co (by simp),by kernel_rfl⟩ (by kernel_rfl)
theorem Ara(s:Ai)(c:Ds):Fn Tryz.prog Wf [.v (.str s),.rp c.Ae] (Is (.v (.bool (decide (s=c.name)))) [.no,.no]):=by
 refine Asw ?_ (by simp)
 repeat'((conv=>whnf);(refine eI ?_ ?_;focus (and_intros<;>exact rfl)))
 all_goals(try(conv=>whnf))
 exact Bd.mk ⟨SV.Co (by simp),by kernel_rfl⟩ (by kernel_rfl)
end Go.Ab
