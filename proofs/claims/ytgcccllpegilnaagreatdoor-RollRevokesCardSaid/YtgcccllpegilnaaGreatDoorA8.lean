/- Lemmas for the last text. -/
import Derived.Test.YtgcccllpegilnaaGreatDoorH3
import Derived.Shelf.SlSortCmp.WholeK
import Derived.Laws.Cover1
set_option linter.unusedVariables false
set_option linter.unusedSimpArgs false
set_option maxRecDepth 100000
set_option maxHeartbeats 8000000
namespace Go.Ab
open Go.Proofs
theorem Ahk (m:Ad) (q p:Nat):Cf (m.drop q) p=Cf m (q+p):=by
 simp[Cf,List.getD_eq_getElem?_getD,List.getElem?_drop]
theorem Ajx {m:Ad} {p:Nat} (h:p<m.length) (t:Ad):Cf (m++t) p=Cf m p:=by
 simp[Cf,List.getD_eq_getElem?_getD,List.getElem?_append_left h]
def Like (m m':Ad) (p p':Nat):Prop:=∀k,k<64→Cf m (p+k)=Cf m' (p'+k)
theorem Zv {m m':Ad} {p p':Nat} (h:Like m m' p p') (q:Nat):∀i,q+i≤64→Hh m (p+q) i=Hh m' (p'+q) i
 |0,_=>rfl
 |i+1,hi=>by
  simp only[Hh]
  rw[Zv h q i (by omega),Nat.add_assoc,Nat.add_assoc,h (q+i) (by omega)]
theorem Y6 {m m':Ad} {p p':Nat} (h:Like m m' p p'):∀t,sched m p t=sched m' p' t
 |0=>rfl
 |t+1=>by
  simp only[sched]
  rw[Y6 h t]
  split
  ·rw[Zv h (4*t) 4 (by omega)]
  ·rfl
theorem Wm {m m':Ad} {p p':Nat} (h:Like m m' p p') (x:H8):H4 m p x=H4 m' p' x:=by
 unfold H4
 rw[Y6 h]
theorem Js (h:H8) (m:Ad) (a:Nat):∀b,A4 h m (a+b)=A4 (A4 h m a) (m.drop (64*a)) b
 |0=>rfl
 |b+1=>by
  rw[←Nat.add_assoc,A4,A4,Js h m a b]
  exact Wm (fun k _=>by rw[Ahk];congr 1;omega) _
theorem Jt (h:H8) (m t:Ad):∀n,64*n≤m.length→A4 h (m++t) n=A4 h m n
 |0,_=>rfl
 |n+1,hn=>by
  rw[A4,A4,Jt h m t n (by omega)]
  exact Wm (fun k hk=>Ajx (by omega) t) _
theorem Wn (m:Ad):∀n,blocks m n=A4 H0 m n
 |0=>rfl
 |n+1=>by rw[blocks,A4,Wn m n]
def Ch (T:Ad):Strm:=⟨A4 H0 T (T.length / 64),if T.length<64 then 5 else 1000005,T.drop (64*(T.length / 64)),(T.length:Int)⟩
theorem Aqo (T:Ad):(Ch T).e<1000000→(Ch T).e=5:=by
 unfold Ch
 dsimp only
 split
 ·intro _;rfl
 ·intro h;exact absurd h (by decide)
theorem Rb (T:Ad):(Ch T).rest.length=T.length % 64:=by
 show(T.drop _).length=_
 rw[List.length_drop]
 omega
theorem Ahb (T t:Ad) (h:T.length+t.length≤1000000000):(Ch T).write t=Ch (T++t):=by
 have hd:T.drop (64*(T.length / 64))++t=(T++t).drop (64*(T.length / 64)):=(List.drop_append_of_le_length (by omega)).symm
 have hl:((T++t).drop (64*(T.length / 64))).length / 64=(T++t).length / 64 - T.length / 64:=by
  rw[List.length_drop,List.length_append];omega
 have hle:T.length / 64≤(T++t).length / 64:=by rw[List.length_append];omega
 unfold Ch Strm.write
 simp only[hd,hl]
 congr 1
 ·rw[←Jt H0 T t (T.length / 64) (by omega), ←Js]
  congr 1
  omega
 ·rw[List.length_append]at hle ⊢
  by_cases h1:T.length<64
  ·by_cases h2:T.length+t.length<64
   ·rw[if_pos h1,if_pos h2,show(T.length+t.length) / 64 - T.length / 64=0 by omega];rfl
   ·rw[if_pos h1,if_neg h2,ee,if_neg (by omega)];rfl
  ·rw[if_neg h1,if_neg (by omega),ee]
   split
   ·rfl
   ·rfl
 ·rw[List.drop_drop]
  congr 1
  omega
 ·rw[List.length_append,wrap_u64,wrap_u64];omega
theorem Aco (T:Ad) (h:T.length≤1000000000):(Ch T).digest=sumB T:=by
 have hz:zeros (Ch T).rest.length=zeros T.length:=by rw[Rb];unfold zeros;omega
 have ht:(Ch T).tail=(padB T).drop (64*(T.length / 64)):=by
  unfold Strm.tail
  rw[hz]
  unfold padB Ch
  dsimp only
  rw[List.append_assoc,List.append_assoc,List.append_assoc,List.append_assoc,List.drop_append_of_le_length (by omega),Int.toNat_natCast]
 unfold Strm.digest sumB
 congr 1
 have hp:=Wu T
 have hpl:T.length / 64≤(padB T).length / 64:=by
  have:T.length≤(padB T).length:=by unfold padB;simp only[List.length_append];omega
  exact Nat.div_le_div_right this
 have hl:(Ch T).tail.length / 64=(padB T).length / 64 - T.length / 64:=by rw[ht,List.length_drop];omega
 rw[hl,ht,Wn]
 have e1:(Ch T).w=A4 H0 (padB T) (T.length / 64):=by
  show A4 H0 T (T.length / 64)=_
  unfold padB
  rw[List.append_assoc,List.append_assoc,Jt H0 T _ _ (by omega)]
 rw[e1, ←Js]
 congr 1
 omega
theorem Wv (T t:Ad) (h:T.length+t.length≤90000000):Fn Tryz.prog Jn [.own [] (Ch T).toD,.v (.str t)] (Is (resD []) [.own [] (Ch (T++t)).toD,.no]):=by
 have:=Amt (Ch T) t (Aqo T) (by rw[Rb];omega)
 rwa [Ahb T t (by omega)]at this
theorem Agv (T:Ad) (h:T.length≤90000000):Fn Tryz.prog Lb [.own [] (Ch T).toD] (Is (.v (.str (sumB T))) [.own [] (Ch T).toDF]):=by
 have:=Ao4 (Ch T) (by rw[Rb];omega) (by show 0≤(T.length:Int)∧(T.length:Int)≤1000000000;omega)
 rwa [Aco T (by omega)]at this
theorem Ami:Fn Tryz.prog X0 [] (Is (.own [] (Ch []).toD) []):=Ao3
theorem Ahr {l:List Ad} {k:Nat} {s:Ad} (h:l[k]?=some s):Bo (l.take (k+1))=Bo (l.take k)++numB s.length 8++s:=by
 unfold Bo
 rw[List.take_add_one,h,List.flatMap_append]
 simp
theorem Aac (l:List Ad) (k:Nat):(Bo (l.take k)).length≤(Bo l).length:=by
 have:Bo l=Bo (l.take k)++Bo (l.drop k):=by
  unfold Bo
  rw[←List.flatMap_append,List.take_append_drop]
 rw[this,List.length_append]
 omega
theorem Aqb (M j:Nat) (hj:j<8):IntKind.u8.wrap (shrI .u64 (M:Int) (56 - 8*(j:Int)))=((UInt8.ofNat (M / 256^(7 - j) % 256)).toNat:Int):=by
 have h1:(56 - 8*(j:Int)).toNat=8*(7 - j):=by omega
 have h2:shrI .u64 (M:Int) (56 - 8*(j:Int))=((M / 256^(7 - j):Nat):Int):=by
  unfold shrI
  rw[h1,Nat.min_eq_left (by show _≤64;omega),show(2:Int)^(8*(7 - j))=((256^(7 - j):Nat):Int)by rw[show(256:Nat)=2^8 from rfl, ←Nat.pow_mul];push_cast;rfl]
  exact(Int.ofNat_fdiv _ _).symm
 rw[h2,wrap_u8]
 have h3:(UInt8.ofNat (M / 256^(7 - j) % 256)).toNat=M / 256^(7 - j) % 256:=by
  rw[UInt8.toNat_ofNat'];omega
 rw[h3]
 omega
theorem Zh (l:List Ad) (hn:l.length≤1000) (hl:(Bo l).length≤90000000):Fn Tryz.prog Adt [.v (.list (strs l))] (Is (.v (.str (sumB (Bo l)))) [.no]):=by
 refine Ac1 ?_ (by simp)
 repeat'((conv=>whnf);first|(refine eI ?_ ?_;focus (and_intros<;>first|exact rfl|(intro _ hh;cases hh;done)|decide))|(intro hfact)|(refine CallWp.mk ⟨_,Ami,?_⟩;rintro _ _ ⟨rfl,rfl⟩))
 all_goals(try(conv=>whnf))
 refine LoopWq.by (X:=Nat) (fun k=>[(3,.own [] (Ch (Bo (l.take k))).toD),(11,.v (.int .i64 k))]) (fun k=>k≤l.length) (fun k=>l.length - k)
  0 (by rw[List.take_zero];kernel_rfl) (by omega) ?_
 intro k hk
 have hlt0:((strs l).length:Int)=(l.length:Int):=by simp
 by_cases hk2:k<l.length
 case neg=>
  have hlt:¬decide ((k:Int)<((strs l).length:Int))=true:=by rw[hlt0,decide_eq_true_eq];omega
  obtain rfl:k=l.length:=by omega
  rw[List.take_length]
  repeat'((conv=>whnf);first|(apply aI<;>intro hb<;>first|exact absurd hb (by assumption)|((try rw[hb]);(try simp only[Aa]at hb)))|(refine eI ?_ ?_;focus (and_intros<;>first|exact rfl|(intro _ hh;cases hh;done)|(simp;done)|decide))|(refine CallWp.mk ⟨_,(Agv (Bo l) hl),?_⟩;rintro _ _ ⟨rfl,rfl⟩))
  all_goals(try(conv=>whnf))
  exact Done.mk ⟨by kernel_rfl,by kernel_rfl⟩ (by kernel_rfl)
 have hlt:¬decide ((k:Int)<((strs l).length:Int))=false:=by rw[hlt0,decide_eq_false_iff_not];omega
 obtain⟨s,hs⟩:∃s,l[k]?=some s:=⟨_,List.getElem?_eq_getElem hk2⟩
 have hg:(strs l)[Int.toNat (k:Int)]?=some (.str s):=Nj hs
 have hkl:Int.toNat (k:Int)<(strs l).length:=by simp[hk2]
 have hj1:=Ahr hs
 have hj2:=Aac l (k+1)
 rw[hj1]at hj2
 obtain⟨T,hT⟩:∃T,T=Bo (l.take k):=⟨_,rfl⟩
 rw[←hT]at hj1 hj2 ⊢
 simp only[List.length_append,Bh]at hj2
 repeat'((conv=>whnf);first|(apply aI<;>intro hb<;>first|exact absurd hb (by assumption)|((try rw[hb]);(try simp only[Aa]at hb)))|(refine eI ?_ ?_;focus (and_intros<;>first|omega|exact rfl))|((try dsimp only);rw[hg]))
 all_goals(try(conv=>whnf))
 obtain⟨M,hM⟩:∃M,M=s.length:=⟨_,rfl⟩
 have hMs:IntKind.u64.wrap (s.length:Int)=(M:Int):=by rw[wrap_u64];omega
 refine LoopWq.by (X:=Nat) (fun j=>[(6,.vec 5 1 (((numB M 8).take j).map A2)),(7,.v (.int .i64 (56 - 8*(j:Int))))]) (fun j=>j≤8) (fun j=>8 - j)
  0 (by rw[List.take_zero];kernel_rfl) (by omega) ?_
 intro j hj
 obtain⟨F,hF⟩:∃F,F=(numB M 8).take j:=⟨_,rfl⟩
 have hFl:F.length=j:=by rw[hF,List.length_take,Bh];omega
 rw[←hF]
 by_cases hj8:j<8
 case pos=>
  have e1:((F.map A2).length+1)*1≤140737488355328:=by simp[hFl];omega
  have e2:(F.map A2).length+1≤maxLen:=by simp[hFl,maxLen];omega
  have hge:¬decide (56 - 8*(j:Int)≥0)=false:=by simp;omega
  have hge':¬decide ((0:Int)≤56 - 8*(j:Int))=false:=by simp;omega
  have h0j:(0:Int)≤56 - 8*(j:Int):=by omega
  repeat'((conv=>whnf);first|(apply aI<;>intro hb<;>first|exact absurd hb (by assumption)|((try rw[hb]);(try simp only[Aa]at hb)))|(refine eI ?_ ?_;focus (and_intros<;>first|omega|exact rfl|assumption|exact A0 (by rfl)|(simp;done)))|(intro hfact))
  all_goals(try(conv=>whnf))
  have hF3:List.map A2 ((numB M 8).take (j+1))=List.map A2 F++(List.replicate 1 (I.int IntKind.u8 0)).set 0 (I.int IntKind.u8 (IntKind.u8.wrap (shrI .u64 (IntKind.u64.wrap (s.length:Int)) (56 - 8*(j:Int))))):=by
   rw[hMs,Aqb M j hj8,List.take_add_one,Xi 8 M j hj8, ←hF,List.map_append]
   rfl
  have hs4:IntKind.i64.wrap (56 - 8*(j:Int) - 8)=56 - 8*((j+1:Nat):Int):=by rw[IntKind.wrap_i64];omega
  refine Round.by (j+1) ?_ (by omega) (by omega)
  rw[hs4,hF3]
  show norm _ _=upd _ _
  kernel_rfl
 have hge:¬decide (56 - 8*(j:Int)≥0)=true:=by simp;omega
 have hge':¬decide ((0:Int)≤56 - 8*(j:Int))=true:=by simp;omega
 obtain rfl:j=8:=by omega
 have hF8:F=numB s.length 8:=by rw[hF,hM];exact List.take_of_length_le (by rw[Bh];exact Nat.le_refl _)
 have hFm:F.length≤maxLen:=by rw[hFl];simp[maxLen]
 have w1:=Wv T F (by omega)
 have w2:=Wv (T++F) s (by rw[List.length_append];omega)
 repeat'((conv=>whnf);first|(apply aI<;>intro hb<;>first|exact absurd hb (by assumption)|((try rw[hb]);(try simp only[Aa]at hb)))|(refine eI ?_ ?_;focus (and_intros<;>first|omega|exact rfl|(intro _ hh;cases hh;done)|(simp;done)|decide))|((simp only[SV.vecAt,K1]))|(refine CallWp.mk ⟨_,w1,?_⟩;rintro _ _ ⟨rfl,rfl⟩)|(refine CallWp.mk ⟨_,w2,?_⟩;rintro _ _ ⟨rfl,rfl⟩))
 all_goals(try(conv=>whnf))
 refine Round.by (k+1) ?_ (by omega) (by omega)
 rw[Ae hk2 (by simp only[maxLen];omega),hj1, ←hF8]
 show norm _ _=upd _ _
 kernel_rfl

open Go.Proofs Go.Shelf
def Aas:Ren:=⟨fun n=>if n=6 then 140 else if n=14 then 148 else if n=15 then 149 else if n=20 then 153 else if n=21 then 154 else if n=22 then 155 else if n=23 then 156 else if n=24 then 157 else if n=25 then 158 else if n=26 then 159 else if n=27 then 160 else if n=28 then 161 else if n=29 then 162 else if n=46 then 163 else if n=47 then 164 else if n=48 then 165 else if n=49 then 166 else if n=50 then 167 else if n=57 then 168 else n,fun n=>if n=0 then 0 else if n=3 then 3 else if n=4 then 4 else if n=5 then 5 else if n=9 then 9 else if n=22 then 97 else if n=24 then 34 else if n=25 then 181 else if n=39 then 145 else if n=45 then 194 else if n=46 then 195 else if n=50 then 117 else if n=53 then 141 else if n=55 then 114 else if n=66 then 202 else if n=70 then 206 else if n=76 then 208 else if n=77 then 209 else n,fun n=>n⟩
theorem Aq1:SlLaysF0.n6 Tryz.prog Aas where
 mixed:=by kernel_rfl
 f6:=⟨Tryz.f140.name,by kernel_rfl,by kernel_rfl⟩
 f14:=⟨Tryz.f148.name,by kernel_rfl,by kernel_rfl⟩
 f15:=by kernel_rfl
 f20:=⟨Tryz.f153.name,by kernel_rfl,by kernel_rfl⟩
 f21:=⟨Tryz.f154.name,by kernel_rfl,by kernel_rfl⟩
 f22:=⟨Tryz.f155.name,by kernel_rfl,by kernel_rfl⟩
 f23:=⟨Tryz.f156.name,by kernel_rfl,by kernel_rfl⟩
 f24:=⟨Tryz.f157.name,by kernel_rfl,by kernel_rfl⟩
 f25:=⟨Tryz.f158.name,by kernel_rfl,by kernel_rfl⟩
 f26:=⟨Tryz.f159.name,by kernel_rfl,by kernel_rfl⟩
 f27:=⟨Tryz.f160.name,by kernel_rfl,by kernel_rfl⟩
 f28:=by kernel_rfl
 f29:=by kernel_rfl
 f46:=⟨Tryz.f163.name,by kernel_rfl,by kernel_rfl⟩
 f47:=by kernel_rfl
 f48:=by kernel_rfl
 f49:=⟨Tryz.f166.name,by kernel_rfl,by kernel_rfl⟩
 f50:=⟨Tryz.f167.name,by kernel_rfl,by kernel_rfl⟩
 f57:=⟨Tryz.f168.name,by kernel_rfl,by kernel_rfl⟩
 t0:=by kernel_rfl
 a0:=fun _=>by kernel_rfl
 z0:=fun _=>by kernel_rfl
 v0:=fun _=>by kernel_rfl
 t3:=by kernel_rfl
 a3:=fun _=>by kernel_rfl
 z3:=fun _=>by kernel_rfl
 v3:=fun _=>by kernel_rfl
 t4:=by kernel_rfl
 a4:=fun _=>by kernel_rfl
 z4:=fun _=>by kernel_rfl
 v4:=fun _=>by kernel_rfl
 t5:=by kernel_rfl
 a5:=fun _=>by kernel_rfl
 z5:=fun _=>by kernel_rfl
 v5:=fun _=>by kernel_rfl
 t9:=by kernel_rfl
 a9:=fun _=>by kernel_rfl
 z9:=fun _=>by kernel_rfl
 v9:=fun _=>by kernel_rfl
 t22:=by kernel_rfl
 a22:=fun _=>by kernel_rfl
 z22:=fun _=>by kernel_rfl
 v22:=fun _=>by kernel_rfl
 t25:=by kernel_rfl
 a25:=fun _=>by kernel_rfl
 z25:=fun _=>by kernel_rfl
 v25:=fun _=>by kernel_rfl
 t39:=by kernel_rfl
 a39:=fun _=>by kernel_rfl
 z39:=fun _=>by kernel_rfl
 v39:=fun _=>by kernel_rfl
 t45:=by kernel_rfl
 a45:=fun _=>by kernel_rfl
 z45:=fun _=>by kernel_rfl
 v45:=fun _=>by kernel_rfl
 t46:=by kernel_rfl
 a46:=fun _=>by kernel_rfl
 z46:=fun _=>by kernel_rfl
 v46:=fun _=>by kernel_rfl
 t50:=by kernel_rfl
 a50:=fun _=>by kernel_rfl
 z50:=fun _=>by kernel_rfl
 v50:=fun _=>by kernel_rfl
 t53:=by kernel_rfl
 a53:=fun _=>by kernel_rfl
 z53:=fun _=>by kernel_rfl
 v53:=fun _=>by kernel_rfl
 t55:=by kernel_rfl
 a55:=fun _=>by kernel_rfl
 z55:=fun _=>by kernel_rfl
 v55:=fun _=>by kernel_rfl
 t66:=by kernel_rfl
 a66:=fun _=>by kernel_rfl
 z66:=fun _=>by kernel_rfl
 v66:=fun _=>by kernel_rfl
 t70:=by kernel_rfl
 a70:=fun _=>by kernel_rfl
 z70:=fun _=>by kernel_rfl
 v70:=fun _=>by kernel_rfl
 t76:=by kernel_rfl
 a76:=fun _=>by kernel_rfl
 z76:=fun _=>by kernel_rfl
 v76:=fun _=>by kernel_rfl
 t77:=by kernel_rfl
 a77:=fun _=>by kernel_rfl
 z77:=fun _=>by kernel_rfl
 v77:=fun _=>by kernel_rfl

open Go.Proofs Go.Shelf Go.RowKit Go.Lib Go.Sort
set_option maxHeartbeats 1000000 in
theorem Anr (x:ByteArray) (w:World):Calls Tryz.prog 129 #[.string x] w fun e w'=>e= .returned (.bool false)∧w'=w:=by
 go_enter Tryz.func129,Tryz.ntmps129
 go_wp2
 go_ret
 exact⟨by simp,rfl⟩
set_option maxHeartbeats 1000000 in
theorem Ahs (x y:Ad) (w:World):Calls Tryz.prog 111 #[.string ⟨⟨x⟩⟩,.string ⟨⟨y⟩⟩] w fun e w'=>e= .returned (.int .i64 (cmpS x y))∧w'=w:=by
 go_enter Tryz.func111,Tryz.ntmps111
 go_wp2_with (go_at_call 129;refine(Anr _ _).mono ?_;rintro e w' ⟨rfl,hw⟩;rw[hw])
 all_goals(go_ret;refine⟨?_,rfl⟩)
 all_goals(refine congrArg (fun n=>Ending.returned (Value.int .i64 n)) ?_)
 all_goals(simp[cmpS,Cu]at*)
 all_goals grind
def Bs (s:Sp):List Value:=[.string ⟨⟨s.f⟩⟩,.string ⟨⟨s.t⟩⟩]
set_option maxHeartbeats 1000000 in
theorem Arz (x y:Sp) (w:World):Calls Tryz.prog 141 #[.agg (Bs x).toArray,.agg (Bs y).toArray] w fun e w'=>e= .returned (.int .i64 (cmpS x.f y.f))∧∃q os',w'=grow (w.drewN q) os':=by
 have hcon:=fun W'=>Ahs x.f y.f W'
 generalize cmpS x.f y.f=r at hcon ⊢
 unfold Bs
 go_enter Tryz.func141,Tryz.ntmps141
 go_wp2_with (go_at_call 111;refine(hcon _).mono ?_;rintro e w' ⟨rfl,rfl⟩)
 go_ret
 exact⟨rfl,0,_,by rw[alloc_eq_grow,alloc_eq_grow,grow_grow];rfl⟩
instance:Inhabited Sp:=⟨⟨[],[]⟩⟩
theorem Ap1 (blk off size:Nat) (w:World):CmpLays Tryz.prog 141 #[] Bs 2 (fun x y=>cmpS x.f y.f) blk off size w:=
 fun _ _ _ _ x y=>Arz x y _
theorem ltF (x y:Sp):ltOf (fun x y:Sp=>cmpS x.f y.f) x y=decide (x.f<y.f):=by
 unfold ltOf cmpS
 by_cases h:x.f<y.f
 ·simp[h]
 ·by_cases h2:y.f<x.f<;>simp[h,h2]
theorem swoF:SWO (ltOf fun x y:Sp=>cmpS x.f y.f) where
 irrefl x:=by rw[ltF];simp
 trans x y z h1 h2:=by rw[ltF]at*;simp at*;grind
 ntrans x y z h1 h2:=by rw[ltF]at*;simp at*;grind
set_option maxHeartbeats 1000000

open Go.Proofs
theorem Afe {l:List I} {n:Nat} {y u:I} (h:l[n]?=some y):putV l [n] u=l.set n u:=by
 have:y.put [] u=u:=by cases y<;>rfl
 simp[putV,h,this]
def Dn (s:Sp):Bool:=decide (Bj s)
theorem Abc:∀{l:List Sp} {k:Nat},idxF badB k l= -1→l.filter Dn=l
 | [],_,_=>rfl
 |s::r,k,h=>by
  unfold idxF at h
  split at h
  ·omega
  ·rename_i hs
   have hg:Dn s=true:=by simpa[badB,Dn]using hs
   rw[List.filter_cons,if_pos hg,Abc h]
theorem Abd:∀{l:List Sp} {k:Nat},idxF badB k l≠ -1→∃i:Nat,idxF badB k l=k+i∧i<l.length∧(l.take i).filter Dn=l.take i∧∃s,l[i]?=some s∧badB s=true
 | [],k,h=>by simp[idxF]at h
 |s::r,k,h=>by
  unfold idxF at h ⊢
  split
  ·rename_i hs
   exact⟨0,by simp,by simp,rfl,s,rfl,hs⟩
  ·rename_i hs
   rw[if_neg hs]at h
   obtain⟨i,h1,h2,h3,h4⟩:=Abd h
   have hg:Dn s=true:=by simpa[badB,Dn]using hs
   refine⟨i+1,by rw[h1];simp;omega,by simpa using h2,?_,by simpa using h4⟩
   rw[List.take_succ_cons,List.filter_cons,if_pos hg,h3]
theorem Aig (l:List Sp) (hl:l.length≤1000000):Fn Tryz.prog E1 [.vec 34 2 (sps l),.v (.fn 139)] (Is (.vec 34 2 (sps (l.filter Dn))) [.no,.no]):=by
 refine Eu ?_ (by simp)
 have hidx:=Amj l hl
 by_cases hn:idxF badB 0 l= -1
 ·rw[hn]at hidx
  repeat'((conv=>whnf);first|(apply aI<;>intro hb<;>first|exact absurd hb (by decide)|((try rw[hb]);(try simp only[Aa]at hb)))|(refine eI ?_ ?_;focus (and_intros<;>first|omega|exact rfl|(simp;done)))|(refine CallWp.mk ⟨_,hidx,?_⟩;rintro _ _ ⟨rfl,rfl⟩))
  all_goals(try(conv=>whnf))
  exact Done.mk ⟨by rw[Abc hn],by kernel_rfl⟩ (by kernel_rfl)
 obtain⟨i0,hi0,hlt0,hf0,b0,hb0,hbad0⟩:=Abd hn
 rw[hi0,show((0:Nat):Int)+(i0:Int)=(i0:Int)from by omega]at hidx
 have n1:¬decide ((i0:Int)= -1)=true:=by simp
 have hw0:IntKind.i64.wrap ((i0:Int)+1)=((i0+1:Nat):Int):=(A5 (by omega)).trans (by omega)
 repeat'((conv=>whnf);first|(apply aI<;>intro hb<;>first|exact absurd hb (by assumption)|((try rw[hb]);(try simp only[Aa]at hb)))|(refine eI ?_ ?_;focus (and_intros<;>first|omega|(simp;done)))|(refine CallWp.mk ⟨_,hidx,?_⟩;rintro _ _ ⟨rfl,rfl⟩)|((try dsimp only);rw[hw0]))
 all_goals(try(conv=>whnf))
 have hmax:l.length≤maxLen:=by simp only[maxLen];omega
 refine LoopWq.by (X:=Nat × Nat × List Sp) (fun x=>[(42,.vec 34 2 (sps x.2.2)),(5,.v (.int .i64 x.2.1)),(6,.v (.int .i64 x.1))])
  (fun x=>x.2.1<x.1∧x.1≤l.length∧x.2.2.length=l.length∧x.2.2.drop x.1=l.drop x.1∧x.2.2.take x.2.1=(l.take x.1).filter Dn) (fun x=>l.length - x.1)
  (i0+1,i0,l) (by kernel_rfl) ⟨Nat.lt_succ_self _,hlt0,rfl,rfl,by
    have hbg:¬Dn b0=true:=by simpa[badB,Dn]using hbad0
    rw[List.take_add_one,hb0,List.filter_append,hf0]
    simp[hbg]⟩ ?_
 rintro⟨j,i,c⟩ ⟨h1,h2,h3,h4,h5⟩
 dsimp only at h1 h2 h3 h4 h5 ⊢
 by_cases hj:j<l.length
 case neg=>
  have hlt:¬decide ((j:Int)<((sps c).length:Int))=true:=by simp;omega
  have hle:(i:Int)≤((sps c).length:Int):=by simp;omega
  have hle0:Int.toNat (i:Int)≤(sps c).length:=by simp;omega
  rw[show l.take j=l from List.take_of_length_le (by omega)]at h5
  have hle2:(i:Int)≤(((sps c).take (i:Int).toNat++List.replicate ((sps c).length - (i:Int).toNat) (I.agg [I.str [],I.str []])).length:Int):=by
   simp only[List.length_append,List.length_take,List.length_replicate,List.length_map];omega
  repeat'((conv=>whnf);first|(apply aI<;>intro hb<;>first|exact absurd hb (by assumption)|((try rw[hb]);(try simp only[Aa]at hb)))|(refine eI ?_ ?_;focus (and_intros<;>first|omega|exact rfl|(simp;done)))|(intro hfact))
  all_goals(try(conv=>whnf))
  refine Done.mk ⟨congrArg (fun l=>SV.vec 34 2 l) ?_,by kernel_rfl⟩ (by kernel_rfl)
  rw[←h5,Int.toNat_natCast,List.take_append_of_le_length (by simp;omega),List.take_take,Nat.min_self]
  simp[sps]
 obtain⟨e,he⟩:∃e,l[j]?=some e:=⟨_,List.getElem?_eq_getElem hj⟩
 have hce:c[j]?=some e:=by
  have:=congrArg (fun q=>q[0]?) h4
  simp only[List.getElem?_drop,Nat.add_zero]at this
  rw[this,he]
 have hlt:¬decide ((j:Int)<((sps c).length:Int))=false:=by simp;omega
 have hgc:(sps c)[Int.toNat (j:Int)]?=some e.toI:=J8 hce
 have hh:=Kn (e:=34) (sz:=2) hgc
 have hkl:Int.toNat (j:Int)<(sps c).length:=by simp;omega
 have hki:Int.toNat (i:Int)<(sps c).length:=by simp;omega
 obtain⟨y,hy⟩:∃y,c[i]?=some y:=⟨_,List.getElem?_eq_getElem (by omega)⟩
 have hgi:(sps c)[Int.toNat (i:Int)]?=some y.toI:=J8 hy
 have hhi:=Kn (e:=34) (sz:=2) hgi
 have hround:l.length - (j+1)<l.length - j:=by omega
 have hwj:IntKind.i64.wrap ((j:Int)+1)=((j+1:Nat):Int):=(A5 (by omega)).trans (by omega)
 have hwi:IntKind.i64.wrap ((i:Int)+1)=((i+1:Nat):Int):=(A5 (by omega)).trans (by omega)
 have htk:(l.take (j+1)).filter Dn=(l.take j).filter Dn++[e].filter Dn:=by rw[List.take_add_one,he,List.filter_append];rfl
 by_cases hr:Bj e
 ·have n2:¬(!(!decide (Bj e)))=false:=by simp[hr]
  have hg2:Dn e=true:=by simp[Dn,hr]
  repeat'((conv=>whnf);first|(apply aI<;>intro hb<;>first|exact absurd hb (by assumption)|((try rw[hb]);(try simp only[Aa]at hb)))|(refine eI ?_ ?_;focus (and_intros<;>first|omega|exact rfl|(intro _ hh;cases hh;done)|(simp;done)|decide))|(intro hfact)|((try dsimp only);rw[hh])|((try dsimp only);rw[hhi])|(refine CallWp.mk ⟨_,Aa0 _,?_⟩;rintro _ _ ⟨rfl,rfl⟩))
  all_goals(try(conv=>whnf))
  refine Round.by (j+1,i+1,c.set i e) ?_ ⟨by dsimp only;omega,hj,by simp[h3],?_,?_⟩ hround
  ·have hput:sps (c.set i e)=putV (sps c) [Int.toNat (i:Int)] ((I.agg [I.str [],I.str []]).put [] e.toI):=by
    rw[Afe hgi,Int.toNat_natCast]
    simp only[sps,List.map_set]
    rfl
   dsimp only
   rw[hwj,hwi,hput]
   show norm _ _=upd _ _
   kernel_rfl
  ·dsimp only
   have:=congrArg (List.drop 1) h4
   rw[List.drop_set_of_lt (by omega)]
   simpa[List.drop_drop]using this
  ·dsimp only
   rw[htk, ←h5,List.take_add_one,List.getElem?_set_self (by omega),List.take_set_of_le (by omega)]
   simp[hg2]
 ·have n2:¬(!(!decide (Bj e)))=true:=by simp[hr]
  have hg2:¬Dn e=true:=by simp[Dn,hr]
  repeat'((conv=>whnf);first|(apply aI<;>intro hb<;>first|exact absurd hb (by assumption)|((try rw[hb]);(try simp only[Aa]at hb)))|(refine eI ?_ ?_;focus (and_intros<;>first|omega|exact rfl|(intro _ hh;cases hh;done)|(simp;done)|decide))|(intro hfact)|((try dsimp only);rw[hh])|(refine CallWp.mk ⟨_,Aa0 _,?_⟩;rintro _ _ ⟨rfl,rfl⟩))
  all_goals(try(conv=>whnf))
  refine Round.by (j+1,i,c) ?_ ⟨by dsimp only;omega,hj,h3,?_,?_⟩ hround
  ·rw[hwj]
   show norm _ _=upd _ _
   kernel_rfl
  ·have:=congrArg (List.drop 1) h4
   simpa[List.drop_drop]using this
  ·rw[htk,h5]
   simp[hg2]

open Go.Proofs Go.Shelf Go.RowKit Go.Lib Go.Sort
theorem W8:∀(l:List Sp) (t:Nat),t<l.length*2→((l.map Bs).flatten)[t]?=some ((Bs (l[t / 2]!))[t % 2]!)
 | [],t,h=>by simp at h
 |s::r,0,_=>by simp[Bs]
 |s::r,1,_=>by simp[Bs]
 |s::r,t+2,h=>by
  have:=W8 r t (by simp at h;omega)
  rw[show(t+2) / 2=t / 2+1 by omega,show(t+2) % 2=t % 2 by omega]
  simp only[List.map_cons,List.flatten_cons]
  rw[List.getElem?_append_right (by simp[Bs])]
  simpa[Bs]using this
theorem P9:∀l:List Sp,((l.map Bs).flatten).length=l.length*2
 | []=>rfl
 |s::r=>by
  simp only[List.map_cons,List.flatten_cons,List.length_append,P9 r,List.length_cons]
  simp[Bs]
  omega
theorem Ane (l:List Sp):(flatK Bs 2 l.toArray).toList=(l.map Bs).flatten:=by
 apply List.ext_getElem?
 intro t
 by_cases h:t<l.length*2
 ·rw[W8 l t h]
  have hs:t<(flatK Bs 2 l.toArray).size:=by simpa using h
  have:=get_flatK Bs 2 l.toArray t (by simpa using h)
  rw[getElem!_pos _ t hs]at this
  rw[Array.getElem?_toList,Array.getElem?_eq_getElem hs,this]
  simp
 ·rw[List.getElem?_eq_none (by simp;omega),List.getElem?_eq_none (by rw[P9];omega)]
theorem An6 {G:Mem} {s:Sp} {cs:List Value}:RepI G s.toI cs↔cs=Bs s∧s.f.length≤maxLen∧s.t.length≤maxLen:=by
 unfold Sp.toI Bs
 simp only[RepI,RepIs]
 constructor
 ·rintro⟨c,d,rfl,⟨rfl,h1⟩,c',d',rfl,⟨rfl,h2⟩,rfl⟩
  exact⟨rfl,h1,h2⟩
 ·rintro⟨rfl,h1,h2⟩
  exact⟨_,_,rfl,⟨rfl,h1⟩,_,_,rfl,⟨rfl,h2⟩,rfl⟩
theorem V8 {G:Mem}:∀{l:List Sp} {cs:List Value},RepIs G (sps l) cs↔cs=(l.map Bs).flatten∧∀s∈l,s.f.length≤maxLen∧s.t.length≤maxLen
 | [],cs=>by simp[RepIs,sps]
 |s::r,cs=>by
  simp only[sps,List.map_cons,RepIs,List.flatten_cons]
  constructor
  ·rintro⟨c,d,rfl,h1,h2⟩
   obtain⟨rfl,h3⟩:=An6.1 h1
   obtain⟨rfl,h4⟩:=V8.1 h2
   refine⟨rfl,fun x hx=>?_⟩
   rcases List.mem_cons.1 hx with rfl|hx
   ·exact h3
   ·exact h4 x hx
  ·rintro⟨rfl,h⟩
   exact⟨_,_,rfl,An6.2 ⟨rfl,h s (List.mem_cons_self ..)⟩,V8.2 ⟨rfl,fun x hx=>h x (List.mem_cons_of_mem _ hx)⟩⟩
theorem Yi {w:World} {g:Nat} {cur:Array Value} {e:TypeId} {l:List Sp} (hb:w.heap[g]?=some (.cells cur e (0,0))) (ht:cur.toList.take (l.length*2)=(l.map Bs).flatten):HoldsK Bs 2 w g 0 l.toArray:=by
 intro j hj
 have hj':j<l.length*2:=by simpa using hj
 refine⟨?_,by simp[World.frozen?,hb]⟩
 have h1:(cur.toList.take (l.length*2))[j]?=((l.map Bs).flatten)[j]?:=by rw[ht]
 rw[List.getElem?_take_of_lt hj',W8 l j hj']at h1
 simp only[World.cell?,hb,Nat.zero_add]
 simp only[Option.isSome_none,Bool.false_eq_true,if_false]
 rw[←Array.getElem?_toList,h1,get_flatK Bs 2 l.toArray j (by simpa using hj')]
 simp
theorem Aen {w:World} {g n:Nat} {os:Array Obj} {cur:Array Value} {e:TypeId} {fr:Nat × Nat} (d:Array Sp) (hb:w.heap[g]?=some (.cells cur e fr)):
 (sortWorldK Bs 2 w g 0 n d os).heap[g]?=some (.cells (putCells id 0 (flatK Bs 2 d) cur) e fr):=by
 have hg:g<w.heap.size:=(Array.getElem?_eq_some_iff.1 hb).1
 unfold sortWorldK putRowK
 rw[heap_grow_old _ _ (by simpa using hg)]
 simp[putRow,mapBlock,Sort.ahead,Array.getElem?_modify,hb,onCells]
theorem Yh {w:World} {g n:Nat} {os:Array Obj} (d:Array Sp):w.grownBy (sortWorldK Bs 2 w g 0 n d os) (some g):=by
 unfold sortWorldK putRowK
 refine⟨rfl,rfl,rfl,by simp,fun k hk hne=>?_⟩
 rw[heap_grow_old _ _ (by simpa using hk)]
 have:g≠k:=fun e=>hne (by rw[e])
 simp[putRow,mapBlock,Sort.ahead,Array.getElem?_modify,this]
theorem Aa1 (cur:Array Value) (F:Array Value) (h:F.size≤cur.size):(putCells id 0 F cur).toList.take F.size=F.toList:=by
 apply List.ext_getElem?
 intro j
 by_cases hj:j<F.size
 ·rw[List.getElem?_take_of_lt hj,Array.getElem?_toList]
  simp[putCells,hj,show j<cur.size by omega]
 ·rw[List.getElem?_take_eq_none (by omega),List.getElem?_eq_none (by simp;omega)]
theorem Ao8 (l:List Sp) (hne:l≠[]) (hlen:l.length≤1000000):Fn Tryz.prog 140 [.vec 34 2 (sps l),.v (.fn 141)]
 (fun r outs=>∃p:List Sp,p.Perm l∧(p.Pairwise fun x y=>x.f≤y.f)∧r= .tup []∧outs=[.vec 34 2 (sps p),.no]):=by
 intro G σ Fr w cargs hok hcl hargs
 have hc0:=(hargs 0 _ rfl).2
 have hc1:RepV G (.fn 141) (cargs.getD 1 undef):=(hargs 1 _ rfl).2
 rw[RepV.fn]at hc1
 have hca:cargs= #[cargs.getD 0 undef,.func (.func 141) #[] #[]]:=by
  rw[←hc1]
  apply Array.ext
  ·simpa using hcl
  ·intro j h1 h2
   have:j=0∨j=1:=by simp at h2;omega
   rcases this with rfl|rfl<;>simp[Array.getD,h1]
 generalize cargs.getD 0 undef=c0 at hc0 hca
 obtain⟨xs,hown,hrep,hsz,hlab⟩:=(show VecAt G σ w (0,0) 34 2 (sps l) c0 from hc0)
 obtain⟨hxs,hlens⟩:=V8.1 hrep
 have hlm:(sps l).length=l.length:=List.length_map ..
 rcases hown.2 with⟨_,h0⟩|⟨g,cap,cur,rfl,_,hrow,hn,hcm,hcur,htk⟩
 ·rw[hlm]at h0
  exact absurd (List.eq_nil_of_length_eq_zero h0) hne
 have hg:=hrow.to (by decide)
 rw[hlm]at hn htk
 have hgs:g<w.heap.size:=(Array.getElem?_eq_some_iff.1 hg).1
 have hH:HoldsK Bs 2 w g 0 l.toArray:=Yi hg (by rw[htk,hxs])
 have hlb:σ g=some (0,0):=hlab g rfl
 have eg:∀args w,(callFunc 141 args).run Tryz.prog w= .ok (.enter 141 args) w:=enters_of Tryz.func141 (by kernel_rfl) rfl
 have aE:∀w,(isAgg (Aas.t 24)).run Tryz.prog w= .ok true w:=fun _=>by kernel_rfl
 have zE:∀w,(Go.sizeOf (Aas.t 24)).run Tryz.prog w= .ok 2 w:=fun _=>by kernel_rfl
 have hcall:=AnyQ.slices_SortFunc Aq1 2 aE zE Bs (fun _=>rfl) (fun x v hv=>by simp[Bs]at hv;rcases hv with rfl|rfl<;>rfl) (fun x y=>cmpS x.f y.f) swoF 141 #[] g 0 cap l.toArray w eg (Ap1 g 0 _ w) hH hgs (by simp;omega)
 rw[hca]
 rw[hlm]
 have hsize:l.toArray.size=l.length:=by simp
 rw[hsize]at hcall
 refine Calls.mono hcall ?_
 rintro e w' ⟨rfl,d',n,os,hperm,hsorted,rfl⟩
 obtain⟨hps,_,hpp⟩:=hperm
 have hd:d'.size=l.length:=by rw[hps];simp
 have hp:d'.toList.Perm l:=by
  have e1:(d'.extract 0 l.length).toList=d'.toList:=by
   rw[←hd];simp
  have e2:(l.toArray.extract 0 l.length).toList=l:=by simp
  rw[e1,e2]at hpp
  exact hpp
 have hgr:=Yh (w:=w) (g:=g) (n:=n) (os:=os) d'
 have hnew:=Aen (n:=n) (os:=os) d' hg
 have hdl:d'=d'.toList.toArray:=by simp
 have hplen:d'.toList.length=l.length:=by simpa using hd
 have hok':WOk G σ Fr ⟨w,0, #[]⟩ (sortWorldK Bs 2 w g 0 n d' os):=by
  refine⟨?_,?_,hok.inj,?_,hgr.os,hgr.tape,hgr.output,hgr.size,hok.apart,hok.amb⟩
  ·intro b o hb
   have:=hok.fixed b o hb
   rw[hgr.block b (Array.getElem?_eq_some_iff.1 this).1 (by rintro e;cases e;rw[(hok.own g _ hlb).1]at hb;cases hb)]
   exact this
  ·intro b lab hb
   obtain⟨h1,h2,h3⟩:=hok.own b lab hb
   exact⟨h1,h2,Nat.lt_of_lt_of_le h3 hgr.size⟩
  ·intro b o hb
   have:=hok.frame b o hb
   rw[hgr.block b (Array.getElem?_eq_some_iff.1 this).1 (by rintro e;cases e;rw[(hok.own g _ hlb).2.1]at hb;cases hb)]
   exact this
 refine⟨_,_,_,G,σ,rfl,⟨d'.toList,hp,?_,rfl,rfl⟩,Mem.le.refl G,hok',rfl,⟨#[],rfl,rfl⟩,by simp,?_⟩
 ·rw[List.pairwise_iff_getElem]
  intro i j hi hj hij
  have:=hsorted i j (Nat.zero_le _) hij (by simpa[hd]using hj)
  rw[ltF]at this
  have hi':i<d'.size:=by simpa using hi
  have hj':j<d'.size:=by simpa using hj
  rw[getElem!_pos d' j hj',getElem!_pos d' i hi']at this
  simp at this
  simpa using this
 ·intro i sv hi
  have hi2:i=0∨i=1:=by
   have:=(List.getElem?_eq_some_iff.1 hi).1
   simp at this
   omega
  rcases hi2 with rfl|rfl
  ·cases hi
   refine⟨rfl,?_⟩
   have hpl:(sps d'.toList).length=l.length:=by rw[List.length_map,hplen]
   show VecAt G σ _ (0,0) 34 2 (sps d'.toList) _
   refine⟨(d'.toList.map Bs).flatten,⟨by rw[P9,hpl,hplen],.inr ⟨g,cap,_,by rw[hpl];rfl,Nat.zero_le _,Row.of hnew,by rw[hpl];exact hn,hcm,by simpa[putCells]using hcur,?_⟩⟩,V8.2 ⟨rfl,fun s hs=>hlens s (hp.mem_iff.1 hs)⟩,J9 _,fun b hb=>?_⟩
   ·have hF:(flatK Bs 2 d').size=l.length*2:=by simp[hd]
    have:=Aa1 cur (flatK Bs 2 d') (by rw[hF,hcur];exact Nat.mul_le_mul_right _ hn)
    rw[hpl, ←hF,this]
    conv=>lhs;rw[hdl]
    rw[Ane]
   ·cases hb
    exact hlb
  ·cases hi
   exact⟨rfl,trivial⟩
set_option maxHeartbeats 2000000

open Go.Proofs
theorem Jw (a b:Ad):0<Fm a b↔Cn a b:=by
 unfold Fm Cn cmpS
 have h1:a<b∨a=b∨b<a:=by grind
 split
 ·simp_all
 ·split
  ·simp_all
  ·split
   ·simp_all
   ·split
    ·simp_all;grind
    ·split<;>simp_all
def Aiz:Prop:=Fn Tryz.prog 140 [.v (.list []),.v (.fn 141)] (Is (.tup []) [.no,.no])
theorem CallWp.sort {l:List Sp} {args:List SV} {Q:SV→List SV→Prop} (h:Fn Tryz.prog 140 args fun r outs=>∃p:List Sp,p.Perm l∧(p.Pairwise fun x y=>x.f≤y.f)∧r= .tup []∧outs=[.vec 34 2 (sps p),.no])
 (k:∀p:List Sp,p.Perm l→(p.Pairwise fun x y=>x.f≤y.f)→Q (.tup []) [.vec 34 2 (sps p),.no]):CallWp Tryz.prog 140 args Q:=by
 refine CallWp.mk ⟨_,h,?_⟩
 rintro _ _ ⟨p,h1,h2,rfl,rfl⟩
 exact k p h1 h2
theorem Ar8 (u:Sp):u.toI.sub [1]=some (1+0,.str u.t):=rfl
theorem Aqu {e:Nat} {l:List I} {n:Nat} {u:Sp} (h:l[n]?=some u.toI):(SV.vec e 2 l).hit 0 ([n]++[1])=some (n*2+(1+0),.item (.str u.t)):=by
 simp[SV.hit,hitV,h,hitI,Ar8]
theorem Aqw {l:List I} {n:Nat} {u:Sp} {s:Ad} (h:l[n]?=some u.toI):putV l ([n]++[1]) (.str s)=l.set n (⟨u.f,s⟩:Sp).toI:=by
 simp[putV,h]
 rfl
theorem Amr (hnil:Aiz) (l:List Sp) (hl:l.length≤1000):Fn Tryz.prog Ad2 [.v (.list (sps l))] (Is (.v (.list (sps (uni l)))) [.no]):=by
 refine Ac9 ?_ (by simp)
 have hcl:=Ait l (by omega)
 have hdl:=Aig l (by omega)
 have hql:(l.filter Dn).length≤1000:=Nat.le_trans (List.length_filter_le ..) hl
 rcases hq:l.filter Dn with _|⟨q0,q'⟩
 ·rw[hq]at hdl
  have hu:uni l=[]:=by
   unfold uni
   have:(l.filter fun s=>decide (Bj s))=[]:=hq
   rw[this,List.mergeSort_nil]
   rfl
  rw[hu]
  repeat'((conv=>whnf);first|(refine eI ?_ ?_;focus (and_intros<;>first|omega|exact rfl|(intro _ hh;cases hh;done)|(simp;done)|decide))|(intro hfact)|(refine CallWp.mk ⟨_,hcl,?_⟩;rintro _ _ ⟨rfl,rfl⟩)|(refine CallWp.mk ⟨_,hdl,?_⟩;rintro _ _ ⟨rfl,rfl⟩)|(refine CallWp.mk ⟨_,hnil,?_⟩;rintro _ _ ⟨rfl,rfl⟩))
  all_goals(try(conv=>whnf))
  refine LoopWq.by (X:=Unit) (fun _=>[]) (fun _=>True) (fun _=>0) () (by kernel_rfl) trivial ?_
  rintro _ _
  repeat'((conv=>whnf);first|(apply aI<;>intro hb<;>first|exact absurd hb (by decide)|((try rw[hb]);(try simp only[Aa]at hb)))|(refine eI ?_ ?_;focus (and_intros<;>first|omega|exact rfl|(simp;done))))
  all_goals(try(conv=>whnf))
  exact Done.mk ⟨rfl,by kernel_rfl⟩ (by kernel_rfl)
 ·rw[hq]at hdl hql
  have hsort:=Ao8 (q0::q') (by simp) (by omega)
  repeat'((conv=>whnf);first|(refine eI ?_ ?_;focus (and_intros<;>first|omega|exact rfl|(intro _ hh;cases hh;done)|(simp;done)|decide))|(intro hfact)|(refine CallWp.mk ⟨_,hcl,?_⟩;rintro _ _ ⟨rfl,rfl⟩)|(refine CallWp.mk ⟨_,hdl,?_⟩;rintro _ _ ⟨rfl,rfl⟩)|(refine CallWp.sort hsort (fun p hp1 hp2=>?_)))
  all_goals(try(conv=>whnf))
  have hpl:p.length≤1000:=by rw[hp1.length_eq];exact hql
  have hmax:p.length≤maxLen:=by simp only[maxLen];omega
  have hres:Hv p=uni l:=Apf (by rw[show(l.filter fun s=>decide (Bj s))=l.filter Dn from rfl,hq];exact hp1) hp2
  refine LoopWq.by (X:=Nat × List Sp) (fun x=>[(3,.vec 34 2 (sps x.2)),(14,.v (.int .i64 x.1))]) (fun x=>x.1≤p.length∧x.2=Hv (p.take x.1)∧x.2.length≤x.1) (fun x=>p.length - x.1)
   (0,[]) (by kernel_rfl) ⟨Nat.zero_le _,rfl,Nat.le_refl _⟩ ?_
  rintro⟨k,out⟩ ⟨h1,h2,h3⟩
  dsimp only at h1 h2 h3 ⊢
  by_cases hk:k<p.length
  case neg=>
   have hlt:¬decide ((k:Int)<((sps p).length:Int))=true:=by simp;omega
   rw[show p.take k=p from List.take_of_length_le (by omega),hres]at h2
   subst h2
   repeat'((conv=>whnf);first|(apply aI<;>intro hb<;>first|exact absurd hb (by assumption)|((try rw[hb]);(try simp only[Aa]at hb)))|(refine eI ?_ ?_;focus (and_intros<;>first|omega|exact rfl|(simp;done))))
   all_goals(try(conv=>whnf))
   exact Done.mk ⟨rfl,by kernel_rfl⟩ (by kernel_rfl)
  obtain⟨e,he⟩:∃e,p[k]?=some e:=⟨_,List.getElem?_eq_getElem hk⟩
  have hlt:¬decide ((k:Int)<((sps p).length:Int))=false:=by simp[hk]
  have hg:(sps p)[Int.toNat (k:Int)]?=some e.toI:=J8 he
  have hh:=Kn (e:=34) (sz:=2) hg
  have hkl:Int.toNat (k:Int)<(sps p).length:=by simp[hk]
  have hround:p.length - (k+1)<p.length - k:=by omega
  have hsucc:Hv (p.take (k+1))=Jm out e:=by
   rw[h2]
   unfold Hv
   rw[List.take_add_one,he,List.foldl_append]
   rfl
  have hl1:((sps out).length+[e.toI].length)*32≤140737488355328:=by simp;omega
  have hl2:(sps out).length+[e.toI].length≤maxLen:=by simp[maxLen];omega
  have hl3:∀u∈[e.toI],u.size=2:=J9 [e]
  have hap:sps out++[e.toI]=sps (out++[e]):=by simp
  rcases List.eq_nil_or_concat out with rfl|⟨o,lst,ho⟩
  ·repeat'((conv=>whnf);first|(apply aI<;>intro hb<;>first|exact absurd hb (by first|assumption|decide)|((try rw[hb]);(try simp only[Aa]at hb)))|(refine eI ?_ ?_;focus (and_intros<;>first|omega|exact rfl|assumption|(simp;done)))|(intro hfact)|((with_reducible apply Drawn.by0);(focus kernel_rfl);intro hfact;(try simp only[dRS]at hfact))|((try dsimp only);rw[hh]))
   all_goals(try(conv=>whnf))
   refine Round.by (k+1,[e]) ?_ ⟨hk,by rw[hsucc];rfl,by simp⟩ hround
   rw[Ae hk hmax]
   show norm _ _=upd _ _
   kernel_rfl
  rw[List.concat_eq_append]at ho
  subst ho
  have hol:(sps (o++[lst])).length=o.length+1:=by simp
  have n1:¬decide (((sps (o++[lst])).length:Int)=0)=true:=by rw[hol];simp;omega
  have hw:IntKind.i64.wrap (((sps (o++[lst])).length:Int) - 1)=(o.length:Int):=by
   rw[hol]
   exact(A5 (by simp at h3;omega)).trans (by omega)
  have h0:0≤IntKind.i64.wrap (((sps (o++[lst])).length:Int) - 1):=by rw[hw];omega
  have hlt2:Int.toNat (IntKind.i64.wrap (((sps (o++[lst])).length:Int) - 1))<(sps (o++[lst])).length:=by rw[hw,hol];omega
  have hgl:(sps (o++[lst]))[Int.toNat (IntKind.i64.wrap (((sps (o++[lst])).length:Int) - 1))]?=some lst.toI:=by
   rw[hw]
   simp
  have hhl:=Aqu (e:=34) hgl
  rw[Vy]at hsucc
  have hput:putV (sps (o++[lst])) ([Int.toNat (IntKind.i64.wrap (((sps (o++[lst])).length:Int) - 1))]++[1]) (.str e.t)=sps (o++[⟨lst.f,e.t⟩]):=by
   rw[Aqw hgl,hw]
   simp
  by_cases c1:lst.t=[]
  ·have n2:¬(!decide (lst.t=[]))=true:=by simp[c1]
   by_cases c2:Cn e.t lst.t
   ·have n3:¬decide (0<Fm e.t lst.t)=false:=by simp[Jw,c2]
    rw[if_neg (fun h=>h.1 c1),if_pos c2]at hsucc
    repeat'((conv=>whnf);first|(apply aI<;>intro hb<;>first|exact absurd hb (by first|assumption|decide)|((try rw[hb]);(try simp only[Aa]at hb)))|(refine eI ?_ ?_;focus (and_intros<;>first|omega|exact rfl|(intro _ hh;cases hh;done)|(simp;done)|decide))|(intro hfact)|((with_reducible apply Drawn.by0);(focus kernel_rfl);intro hfact;(try simp only[dRS]at hfact))|((try dsimp only);rw[hh])|((try dsimp only);rw[hhl])|(refine CallIs.mk ⟨_,_,Kv _ _,?_⟩))
    all_goals(try(conv=>whnf))
    refine Round.by (k+1,o++[⟨lst.f,e.t⟩]) ?_ ⟨hk,hsucc.symm,by simp at h3 ⊢;omega⟩ hround
    dsimp only
    rw[Ae hk hmax, ←hput]
    show norm _ _=upd _ _
    kernel_rfl
   ·have n3:¬decide (0<Fm e.t lst.t)=true:=by simp[Jw,c2]
    rw[if_neg (fun h=>h.1 c1),if_neg c2]at hsucc
    repeat'((conv=>whnf);first|(apply aI<;>intro hb<;>first|exact absurd hb (by first|assumption|decide)|((try rw[hb]);(try simp only[Aa]at hb)))|(refine eI ?_ ?_;focus (and_intros<;>first|omega|exact rfl|(intro _ hh;cases hh;done)|(simp;done)|decide))|(intro hfact)|((with_reducible apply Drawn.by0);(focus kernel_rfl);intro hfact;(try simp only[dRS]at hfact))|((try dsimp only);rw[hh])|((try dsimp only);rw[hhl])|(refine CallIs.mk ⟨_,_,Kv _ _,?_⟩))
    all_goals(try(conv=>whnf))
    refine Round.by (k+1,o++[lst]) ?_ ⟨hk,hsucc.symm,by simp at h3 ⊢;omega⟩ hround
    dsimp only
    rw[Ae hk hmax]
    show norm _ _=upd _ _
    kernel_rfl
  have n2:¬(!decide (lst.t=[]))=false:=by simp[c1]
  by_cases c3:lst.t<e.f
  ·have n4:¬Op.bytesLess lst.t e.f=false:=by simp[Cu,c3]
   rw[if_pos ⟨c1,c3⟩]at hsucc
   repeat'((conv=>whnf);first|(apply aI<;>intro hb<;>first|exact absurd hb (by first|assumption|decide)|((try rw[hb]);(try simp only[Aa]at hb)))|(refine eI ?_ ?_;focus (and_intros<;>first|omega|exact rfl|assumption|(simp;done)))|(intro hfact)|((with_reducible apply Drawn.by0);(focus kernel_rfl);intro hfact;(try simp only[dRS]at hfact))|((try dsimp only);rw[hh])|((try dsimp only);rw[hhl]))
   all_goals(try(conv=>whnf))
   refine Round.by (k+1,o++[lst]++[e]) ?_ ⟨hk,hsucc.symm,by simp at h3 ⊢;omega⟩ hround
   dsimp only
   rw[Ae hk hmax, ←hap]
   show norm _ _=upd _ _
   kernel_rfl
  ·have n4:¬Op.bytesLess lst.t e.f=true:=by simp[Cu,c3]
   by_cases c2:Cn e.t lst.t
   ·have n3:¬decide (0<Fm e.t lst.t)=false:=by simp[Jw,c2]
    rw[if_neg (fun h=>c3 h.2),if_pos c2]at hsucc
    repeat'((conv=>whnf);first|(apply aI<;>intro hb<;>first|exact absurd hb (by first|assumption|decide)|((try rw[hb]);(try simp only[Aa]at hb)))|(refine eI ?_ ?_;focus (and_intros<;>first|omega|exact rfl|(intro _ hh;cases hh;done)|(simp;done)|decide))|(intro hfact)|((with_reducible apply Drawn.by0);(focus kernel_rfl);intro hfact;(try simp only[dRS]at hfact))|((try dsimp only);rw[hh])|((try dsimp only);rw[hhl])|(refine CallIs.mk ⟨_,_,Kv _ _,?_⟩))
    all_goals(try(conv=>whnf))
    refine Round.by (k+1,o++[⟨lst.f,e.t⟩]) ?_ ⟨hk,hsucc.symm,by simp at h3 ⊢;omega⟩ hround
    dsimp only
    rw[Ae hk hmax, ←hput]
    show norm _ _=upd _ _
    kernel_rfl
   ·have n3:¬decide (0<Fm e.t lst.t)=true:=by simp[Jw,c2]
    rw[if_neg (fun h=>c3 h.2),if_neg c2]at hsucc
    repeat'((conv=>whnf);first|(apply aI<;>intro hb<;>first|exact absurd hb (by first|assumption|decide)|((try rw[hb]);(try simp only[Aa]at hb)))|(refine eI ?_ ?_;focus (and_intros<;>first|omega|exact rfl|(intro _ hh;cases hh;done)|(simp;done)|decide))|(intro hfact)|((with_reducible apply Drawn.by0);(focus kernel_rfl);intro hfact;(try simp only[dRS]at hfact))|((try dsimp only);rw[hh])|((try dsimp only);rw[hhl])|(refine CallIs.mk ⟨_,_,Kv _ _,?_⟩))
    all_goals(try(conv=>whnf))
    refine Round.by (k+1,o++[lst]) ?_ ⟨hk,hsucc.symm,by simp at h3 ⊢;omega⟩ hround
    dsimp only
    rw[Ae hk hmax]
    show norm _ _=upd _ _
    kernel_rfl
set_option maxHeartbeats 1000000

open Go.Proofs
instance (l:List Sp) (k:Ad):Decidable (AnyH l k):=by unfold AnyH;infer_instance
set_option maxHeartbeats 4000000

open Go.Proofs
theorem Xe {l:List Ad} {m:Nat} (h:∀s∈l,s.length≤m):(Bo l).length≤l.length*(m+8):=by
 induction l with
 |nil=>simp[Bo]
 |cons a r ih=>
  have h1:=ih fun s hs=>h s (List.mem_cons_of_mem _ hs)
  have h2:=h a (List.mem_cons_self ..)
  have:Bo (a::r)=numB a.length 8++a++Bo r:=by simp[Bo]
  rw[this]
  simp only[List.length_append,Bh,List.length_cons,Nat.add_mul]
  omega
set_option maxHeartbeats 40000000

open Go.Proofs
theorem Abk {h:H8} {t:Nat} {x:Int} (hx:h.l[t]?=some x):outB h (t+1)=outB h t++numB x.toNat 4:=by
 unfold outB
 rw[List.take_add_one,hx]
 simp
theorem Q6 (h:H8):∀t,t≤8→(outB h t).length=4*t
 |0,_=>rfl
 |t+1,ht=>by
  obtain⟨x,hx⟩:∃x,h.l[t]?=some x:=⟨_,List.getElem?_eq_getElem (show t<8 by omega)⟩
  rw[Abk hx,List.length_append,Q6 h t (by omega),Bh]
  omega
def pre (s:Ad) (x:Nat):Ad:=s++[128]++List.replicate x 0
set_option maxHeartbeats 8000000

open Go.Proofs
theorem Wz (s:Ad):(sumB s).length=32:=Q6 _ 8 (by omega)
def Apx (salt h:Ad):Ad:=sumB (Bo [h,salt])
def H9 (salt word:Ad):Nat→Ad
 |0=>sumB (Bo [salt,word])
 |n+1=>Apx salt (H9 salt word n)
def C1 (salt word:Ad):Ad:=H9 salt word 8
theorem U6 (salt word:Ad):∀n,(H9 salt word n).length=32
 |0=>Wz _
 |_+1=>Wz _
def Ea (salt word:Ad):Roll:=⟨1,[],[⟨[114,111,111,116],[],salt,C1 salt word,[]⟩],[]⟩
end Go.Ab
