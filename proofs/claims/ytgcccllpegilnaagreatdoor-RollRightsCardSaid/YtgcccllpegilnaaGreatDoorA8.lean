/- Lemmas -/
import Derived.Test.YtgcccllpegilnaaGreatDoorA1
set_option linter.unusedVariables false
set_option linter.unusedSimpArgs false
set_option maxRecDepth 100000
set_option maxHeartbeats 4000000
namespace Go.Ab
open Go.Proofs
def Ko(s:Ai):Bool:=match s with
 | []=>false
 | [c]=>decide (32≤(c.toNat:Int))&&decide ((c.toNat:Int)≤126)&& !decide ((c.toNat:Int)=92)
 | [c,d]=>if(c.toNat:Int)=194 then decide (161≤(d.toNat:Int))else true
 |_=>true
theorem A35(s:Ai):Fn Tryz.prog Z7 [.v (.str s)] (Is (.v (.bool (Ko s))) [.no]):=by
 refine Zo ?_ (by simp)
 rcases s with _|⟨c,_|⟨d,_|⟨e,r⟩⟩⟩
 ·repeat'((conv=>whnf);first|(apply aI<;>intro hb<;>first|exact absurd hb (by decide)|((try rw[hb]);(try simp only[Ad]at hb)))|(refine eI ?_ ?_;focus (and_intros<;>exact rfl))|(intro Aa))
  all_goals(try(conv=>whnf))
  exact Bd.mk ⟨rfl,by kernel_rfl⟩ (by kernel_rfl)
 ·have h1:¬decide ((([c]:Ai).length:Int)=1)=false:=by simp
  repeat'((conv=>whnf);first|(apply aI<;>intro hb<;>first|exact absurd hb (by first|assumption|decide)|((try rw[hb]);(try simp only[Ad]at hb)))|(refine eI ?_ ?_;focus (and_intros<;>first|omega|exact rfl))|(intro Aa))
  all_goals(try(conv=>whnf))
  all_goals(refine Bd.mk ⟨SV.Co ?_,by kernel_rfl⟩ (by kernel_rfl))
  all_goals(simp[Ko]at*;grind)
 ·have h1:¬decide ((([c,d]:Ai).length:Int)=1)=true:=by simp
  have h2:¬decide ((([c,d]:Ai).length:Int)=2)=false:=by simp
  have h3:¬decide (1<(([c,d]:Ai).length:Int))=false:=by simp
  repeat'((conv=>whnf);first|(apply aI<;>intro hb<;>first|exact absurd hb (by assumption)|((try rw[hb]);(try simp only[Ad]at hb)))|(refine eI ?_ ?_;focus (and_intros<;>first|omega|exact rfl))|(intro Aa))
  all_goals(try(conv=>whnf))
  all_goals(refine Bd.mk ⟨SV.Co ?_,by kernel_rfl⟩ (by kernel_rfl))
  all_goals(simp[Ko]at*;grind)
 ·have h1:¬decide (((c::d::e::r:Ai).length:Int)=1)=true:=by simp;omega
  have h2:¬decide (((c::d::e::r:Ai).length:Int)=2)=true:=by simp;omega
  repeat'((conv=>whnf);first|(apply aI<;>intro hb<;>first|exact absurd hb (by assumption)|((try rw[hb]);(try simp only[Ad]at hb)))|(refine eI ?_ ?_;focus (and_intros<;>exact rfl))|(intro Aa))
  all_goals(try(conv=>whnf))
  all_goals(refine Bd.mk ⟨SV.Co ?_,by kernel_rfl⟩ (by kernel_rfl))
  all_goals(simp[Ko]at*;try grind)

open Go.Proofs
theorem Arp{s:Ai}{k:Nat}{lo hi:Int}(h:Cz s k lo hi=true):k<s.length:=by
 unfold Cz at h;split at h
 ·rename_i c hc;have:=(List.getElem?_eq_some_iff.1 hc).1;simpa using this
 ·cases h
theorem Aon{s:Ai}{k n:Nat}(h:Ld s k n=true)(hn:0<n):k+n≤s.length:=by
 simp only[Ld,List.all_eq_true,List.mem_range]at h;have:=Arp (h (n - 1) (by omega))
 omega
theorem Be0(s:Ai):0≤Lq s∧Lq s≤s.length:=by
 unfold Lq;split
 ·rename_i h;have:=Arp (k:=0) h;omega
 split
 ·rename_i h;simp only[Bool.and_eq_true]at h;have:=Aon h.2 (by omega);omega
 split
 ·rename_i h;simp only[Bool.and_eq_true]at h;have:=Aon h.1 (by omega);omega
 split
 ·rename_i h;simp only[Bool.and_eq_true]at h;have:=Aon h.1 (by omega);omega
 omega
def Yi(k:Nat)(c:Int)(at':Nat)(piece:Ai):Bool:=
 (decide (k=1)&& !((decide (97≤c)&&decide (c≤122))||(decide (48≤c)&&decide (c≤57))||decide (c=95)||(decide (c=45)&&decide (0<at'))))
 ||(decide (1<k)&& !Ko piece)
def L5:Nat→Ai→Nat→Nat→Bool
 |0,_,_,_=>false
 |f+1,s,at',n=>match s[at']? with
  |none=>decide (0<n)
  |some c=>
   let k:=(Lq (s.drop at')).toNat
   if k=0 then false
   else if Yi k c.toNat at' ((s.drop at').take k)=true then false
   else if 24<n+1 then false
   else L5 f s (at'+k) (n+1)
def D2(s:Ai):Bool:=L5 (s.length+1) s 0 0
theorem S1(s:Ai):Fn Tryz.prog Aca [.v (.str s)] (Is (.v (.bool (D2 s))) [.no]):=by
 refine Aas ?_ (by simp)
 (conv=>whnf)
 all_goals(try(conv=>whnf))
 refine Bq.by (X:=Nat × Nat × Nat) (fun x=>[(3,.v (.int .i64 x.2.2)),(4,.v (.int .i64 x.2.1))]) (fun x=>L5 x.1 s x.2.1 x.2.2=D2 s∧s.length<x.1+x.2.1∧x.2.1≤s.length∧x.2.2≤24) (fun x=>s.length - x.2.1)
  (s.length+1,0,0) (by kernel_rfl) ⟨rfl,by dsimp only;omega,Nat.zero_le _,Nat.zero_le _⟩ ?_
 rintro⟨f,p,n⟩ ⟨h1,h2,h3,h4⟩;dsimp only at h1 h2 h3 h4 ⊢;obtain⟨f,rfl⟩:∃g,f=g+1:=⟨f - 1,by omega⟩
 by_cases hp:p<s.length
 case neg=>
  have Bb:¬decide ((p:Int)<(s.length:Int))=true:=by simp;omega
  repeat'((conv=>whnf);first|(apply aI<;>intro hb<;>first|exact absurd hb (by assumption)|((try rw[hb]);(try simp only[Ad]at hb)))|(refine eI ?_ ?_;focus (and_intros<;>exact rfl))|(intro Aa))
  all_goals(try(conv=>whnf))
  refine Bd.mk ⟨SV.Co ?_,by kernel_rfl⟩ (by kernel_rfl)
  rw[←h1,L5,List.getElem?_eq_none (by omega)]
  simp
 obtain⟨c,hc⟩:∃c,s[p]?=some c:=⟨_,List.getElem?_eq_getElem hp⟩;have hg:s[Int.toNat (p:Int)]?=some c:=hc;have Bb:¬decide ((p:Int)<(s.length:Int))=false:=by simp[hp]
 have Bk:=Be0 (s.drop p);have hs:=Bck (s.drop p);rw[L5,hc]at h1;dsimp only at h1;obtain⟨k,hk⟩:∃k:Nat,Lq (s.drop p)=k:=⟨(Lq (s.drop p)).toNat,by omega⟩
 rw[hk]at hs h1 Bk;have D0:Fn Tryz.prog Sk [.v (.str ((s.take s.length).drop p))] (Is (.v (.int .i64 k)) [.no]):=by rw[List.take_length];exact hs
 rw[List.length_drop]at Bk;simp only[Int.toNat_natCast]at h1;have hw:s.length≤maxLen→IntKind.i64.wrap ((p:Int)+(k:Int))=((p+k:Nat):Int):=fun hm=>by
  rw[show(p:Int)+(k:Int)=((p+k:Nat):Int)by omega];exact Cf (by simp only[maxLen]at hm;omega)
 have hwn:IntKind.i64.wrap ((n:Int)+1)=((n+1:Nat):Int):=Ak (n:=25) (by omega) (by simp only[maxLen];omega)
 have hpc:((s.drop p).take k)=(s.take (p+k)).drop p:=by rw[List.drop_take];congr 1;omega
 have hit:=A35 ((s.take (p+k)).drop p);have hpk:((p+k:Nat):Int)≤(s.length:Int):=by omega
 have hpp:(p:Int)≤((p+k:Nat):Int):=by omega
 rw[hpc]at h1;obtain⟨b,Y0⟩:∃b,Ko ((s.take (p+k)).drop p)=b:=⟨_,rfl⟩;rw[Y0]at hit;unfold Yi at h1;rw[Y0]at h1;rcases Nat.lt_or_ge k 1 with hk0|hk0
 ·have n1:¬decide ((k:Int)=0)=false:=by simp;omega
  rw[if_pos (by omega)]at h1
  repeat'((conv=>whnf);first|(apply aI<;>intro hb<;>first|exact absurd hb (by assumption)|((try rw[hb]);(try simp only[Ad]at hb)))|(refine eI ?_ ?_;focus (and_intros<;>first|omega|exact rfl|(intro _ hh;cases hh;done)|(simp;done)|decide))|(intro Aa)|(refine Ac.mk ⟨_,D0,?_⟩;rintro _ _ ⟨rfl,rfl⟩))
  all_goals(try(conv=>whnf))
  exact Bd.mk ⟨SV.Co h1,by kernel_rfl⟩ (by kernel_rfl)
 rw[if_neg (by omega)]at h1
 have n1:¬decide ((k:Int)=0)=true:=by simp;omega
 rcases Nat.lt_or_ge 1 k with hk1|hk1
 ·have n2:¬decide ((k:Int)=1)=true:=by simp;omega
  have n3:¬decide (1<(k:Int))=false:=by simp;omega
  repeat'((conv=>whnf);first|(apply aI<;>intro hb<;>first|exact absurd hb (by first|assumption|decide)|((try rw[hb]);(try simp only[Ad]at hb);(try subst hb)))|(refine eI ?_ ?_;focus (and_intros<;>first|omega|exact rfl|(intro _ hh;cases hh;done)|(simp;done)|decide))|(intro Aa)|((try dsimp only);rw[hg])|(refine Ac.mk ⟨_,D0,?_⟩;rintro _ _ ⟨rfl,rfl⟩)|(refine Ac.mk ⟨_,hit,?_⟩;rintro _ _ ⟨rfl,rfl⟩)|((try dsimp only);rw[hw (by assumption)])|((try dsimp only);rw[hwn]))
  all_goals(try(conv=>whnf))
  all_goals first
   |(refine Bd.mk ⟨SV.Co ?_,by kernel_rfl⟩ (by kernel_rfl);rw[←h1];simp at*;grind)
   |(refine Round.by (f,p+k,n+1) ?_ ⟨?_,by dsimp only;omega,by dsimp only;omega,?_⟩ (by dsimp only;omega)
     ·dsimp only;show norm _ _=Bt _ _
      kernel_rfl
     ·dsimp only;rw[←h1];simp at*;grind
     ·dsimp only;simp at*;omega)
 ·have n2:¬decide ((k:Int)=1)=false:=by simp;omega
  have n3:¬decide (1<(k:Int))=true:=by simp;omega
  repeat'((conv=>whnf);first|(apply aI<;>intro hb<;>first|exact absurd hb (by first|assumption|decide)|(exfalso;simp only[Az]at hb<;>omega)|((try rw[hb]);(try simp only[Ad]at hb)))|(refine eI ?_ ?_;focus (and_intros<;>first|omega|exact rfl|(intro _ hh;cases hh;done)|(simp;done)|decide))|(intro Aa)|((try dsimp only);rw[hg])|(refine Ac.mk ⟨_,D0,?_⟩;rintro _ _ ⟨rfl,rfl⟩)|((try dsimp only);rw[hw (by assumption)])|((try dsimp only);rw[hwn]))
  all_goals(try(conv=>whnf))
  all_goals first
   |(refine Bd.mk ⟨SV.Co ?_,by kernel_rfl⟩ (by kernel_rfl);rw[←h1];simp at*;grind)
   |(refine Round.by (f,p+k,n+1) ?_ ⟨?_,by dsimp only;omega,by dsimp only;omega,?_⟩ (by dsimp only;omega)
     ·dsimp only;show norm _ _=Bt _ _
      kernel_rfl
     ·dsimp only;rw[←h1];simp at*;grind
     ·dsimp only;simp at*;omega)

open Go.Op
theorem wrap_u8(n:Int):IntKind.u8.wrap n=n % 256:=by simp[IntKind.wrap,IntKind.bits,IntKind.signed]
theorem wrap_u32(n:Int):IntKind.u32.wrap n=n % 4294967296:=by simp[IntKind.wrap,IntKind.bits,IntKind.signed]
theorem wrap_u64(n:Int):IntKind.u64.wrap n=n % 18446744073709551616:=by simp[IntKind.wrap,IntKind.bits,IntKind.signed]
def Ee(n:Nat):Nat→Ai
 |0=>[]
 |k+1=>Ee (n / 256) k++[UInt8.ofNat (n % 256)]
theorem D4:∀(n k:Nat),(Ee n k).length=k
 |_,0=>rfl
 |n,k+1=>by simp[Ee,D4 (n / 256) k]
def Nx(x n:Int):Int:=D1 .or .u32 (L9 .u32 x n) (Akd .u32 x (IntKind.u64.wrap (32 - n)))
def L2:List Int:=[1116352408,1899447441,3049323471,3921009573,961987163,1508970993,2453635748,2870763221,3624381080,310598401,607225278,1426881987,1925078388,2162078206,2614888103,3248222580,3835390401,4022224774,264347078,604807628,770255983,1249150122,1555081692,1996064986,2554220882,2821834349,2952996808,3210313671,3336571891,3584528711,113926993,338241895,666307205,773529912,1294757372,1396182291,1695183700,1986661051,2177026350,2456956037,2730485921,2820302411,3259730800,3345764771,3516065817,3600352804,4094571909,275423344,430227734,506948616,659060556,883997877,958139571,1322822218,1537002063,1747873779,1955562222,2024104815,2227730452,2361852424,2428436474,2756734187,3204031479,3329325298]
abbrev Fk(n:Int):Int:=IntKind.u32.wrap n
def F9(m:Ai)(p:Nat):Int:=((m.getD p 0).toNat:Int)
def R9(m:Ai)(p:Nat):Nat→Int
 |0=>0
 |i+1=>Fk (Fk (R9 m p i*256)+Fk (F9 m (p+i)))
def Gz(w:List Int)(t:Nat):Int:=w.getD t 0
def Bj7(x:Int):Int:=D1 .xor .u32 (D1 .xor .u32 (Nx x 17) (Nx x 19)) (L9 .u32 x 10)
def Bj6(x:Int):Int:=D1 .xor .u32 (D1 .xor .u32 (Nx x 7) (Nx x 18)) (L9 .u32 x 3)
def Ar7(w:List Int)(t:Nat):Int:=Fk (Fk (Fk (Bj7 (Gz w (t - 2))+Gz w (t - 7))+Bj6 (Gz w (t - 15)))+Gz w (t - 16))
def sched(m:Ai)(p:Nat):Nat→List Int
 |0=>[]
 |t+1=>sched m p t++[if t<16 then R9 m (p+4*t) 4 else Ar7 (sched m p t) t]
theorem Fo(m:Ai)(p:Nat):∀t,(sched m p t).length=t
 |0=>rfl
 |t+1=>by simp[sched,Fo m p t]
structure H8 where
 (a b c d e f g i:Int)
def H8.l(h:H8):List Int:=[h.a,h.b,h.c,h.d,h.e,h.f,h.g,h.i]
def Bj3(h:H8)(k w:Int):Int:=
 Fk (Fk (Fk (Fk (h.i+D1 .xor .u32 (D1 .xor .u32 (Nx h.e 6) (Nx h.e 11)) (Nx h.e 25))+D1 .xor .u32 (D1 .and .u32 h.e h.f) (D1 .and .u32 (D1 .xor .u32 4294967295 h.e) h.g))+k)+w)
def Bpi(h:H8):Int:=Fk (D1 .xor .u32 (D1 .xor .u32 (Nx h.a 2) (Nx h.a 13)) (Nx h.a 22)+D1 .xor .u32 (D1 .xor .u32 (D1 .and .u32 h.a h.b) (D1 .and .u32 h.a h.c)) (D1 .and .u32 h.b h.c))
def rnd(h:H8)(k w:Int):H8:=⟨Fk (Bj3 h k w+Bpi h),h.a,h.b,h.c,Fk (h.d+Bj3 h k w),h.e,h.f,h.g⟩
def Jh(w:List Int)(h:H8):Nat→H8
 |0=>h
 |t+1=>rnd (Jh w h t) (Gz L2 t) (Gz w t)
def Ang(x y:H8):H8:=⟨Fk (x.a+y.a),Fk (x.b+y.b),Fk (x.c+y.c),Fk (x.d+y.d),Fk (x.e+y.e),Fk (x.f+y.f),Fk (x.g+y.g),Fk (x.i+y.i)⟩
def S8(m:Ai)(p:Nat)(h:H8):H8:=Ang h (Jh (sched m p 64) h 64)
def H0:H8:=⟨0x6a09e667,0xbb67ae85,0x3c6ef372,0xa54ff53a,0x510e527f,0x9b05688c,0x1f83d9ab,0x5be0cd19⟩
def blocks(m:Ai):Nat→H8
 |0=>H0
 |n+1=>S8 m (64*n) (blocks m n)
def Gf(n:Nat):Nat:=(119 - n % 64) % 64
def L6(s:Ai):Ai:=s++[128]++List.replicate (Gf s.length) 0++Ee (8*s.length) 8
def Mq(h:H8)(t:Nat):Ai:=(h.l.take t).flatMap fun x=>Ee x.toNat 4
def Z2(s:Ai):Ai:=Mq (blocks (L6 s) ((L6 s).length / 64)) 8
theorem Aoy(n:Int):0≤Fk n∧Fk n<4294967296:=by unfold Fk;rw[wrap_u32];omega
theorem Am3(s:Ai):(L6 s).length=64*((L6 s).length / 64):=by
 simp only[L6,List.length_append,List.length_replicate,D4,Gf,List.length_singleton];omega
def Eb(l:List Ai):Ai:=l.flatMap fun s=>Ee s.length 8++s
def Ct(h:H8)(m:Ai):Nat→H8
 |0=>h
 |n+1=>S8 m (64*n) (Ct h m n)

open Go.Op
theorem Bgn(op:BinOp)(x y:Nat)(hx:x<4294967296)(hy:y<4294967296):D1 .or .u32 (x:Int) (y:Int)=((x ||| y:Nat):Int):=by
 have h1:(BitVec.ofInt 32 (x:Int)).toNat=x:=by rw[BitVec.ofInt_natCast,BitVec.toNat_ofNat];exact Nat.mod_eq_of_lt hx
 have h2:(BitVec.ofInt 32 (y:Int)).toNat=y:=by rw[BitVec.ofInt_natCast,BitVec.toNat_ofNat];exact Nat.mod_eq_of_lt hy
 show IntKind.u32.wrap (((BitVec.ofInt 32 (x:Int)) ||| (BitVec.ofInt 32 (y:Int))).toNat:Int)=_;rw[BitVec.toNat_or,h1,h2,wrap_u32];have:x ||| y<2^32:=Nat.or_lt_two_pow (by omega) (by omega)
 omega
theorem As0(a y s:Nat)(hy:y<2^s)(hl:a*2^s+y<4294967296):D1 .or .u32 ((a*2^s:Nat):Int) (y:Int)=((a*2^s+y:Nat):Int):=by
 rw[Bgn .or _ _ (by omega) (by omega), ←Nat.shiftLeft_eq, ←Nat.shiftLeft_add_eq_or_of_lt hy]
theorem Bba(x y:Int):D1 .or .u32 x y=D1 .or .u32 y x:=by
 unfold D1;simp only[BitVec.or_comm]
def Arr(m:Ai)(p:Nat):Int:=D1 .or .u32 (D1 .or .u32 (D1 .or .u32 (Akd .u32 (Fk (F9 m p)) 24) (Akd .u32 (Fk (F9 m (p+1))) 16)) (Akd .u32 (Fk (F9 m (p+2))) 8)) (Fk (F9 m (p+3)))
theorem Aa5(m:Ai)(p:Nat):∃b:Nat,F9 m p=(b:Int)∧b<256:=⟨_,rfl,(m.getD p 0).toNat_lt⟩
theorem A2j(m:Ai)(p:Nat):Arr m p=R9 m p 4:=by
 obtain⟨b0,e0,h0⟩:=Aa5 m p;obtain⟨b1,e1,h1⟩:=Aa5 m (p+1);obtain⟨b2,e2,h2⟩:=Aa5 m (p+2);obtain⟨b3,e3,h3⟩:=Aa5 m (p+3);have hw:∀b:Nat,b<4294967296→Fk (b:Int)=(b:Int):=fun b h=>by unfold Fk;rw[wrap_u32];omega
 have hs:∀b k:Nat,b*2^k<4294967296→k≤32→Akd .u32 (b:Int) (k:Int)=((b*2^k:Nat):Int):=fun b k h hk=>by
  show Fk ((b:Int)*2^(min (Int.toNat (k:Int)) 32))=_;rw[Int.toNat_natCast,Nat.min_eq_left hk];have:(b:Int)*2^k=((b*2^k:Nat):Int):=by push_cast;rfl
  rw[this];exact hw _ h
 have c1:=As0 b0 (b1*65536) 24 (by omega) (by omega)
 have c2:=As0 (b0*256+b1) (b2*256) 16 (by omega) (by omega)
 have c3:=As0 (b0*65536+b1*256+b2) b3 8 (by omega) (by omega)
 have s0:=hs b0 24 (by omega) (by omega)
 have s1:=hs b1 16 (by omega) (by omega)
 have s2:=hs b2 8 (by omega) (by omega)
 have l:Arr m p=((b0*16777216+b1*65536+b2*256+b3:Nat):Int):=by
  unfold Arr;rw[e0,e1,e2,e3,hw b0 (by omega),hw b1 (by omega),hw b2 (by omega),hw b3 (by omega)]
  rw[show((24:Int))=((24:Nat):Int)from rfl,s0,show((16:Int))=((16:Nat):Int)from rfl,s1,show((8:Int))=((8:Nat):Int)from rfl,s2];rw[show b1*2^16=b1*65536 from rfl,c1,show b0*2^24+b1*65536=(b0*256+b1)*2^16 by omega,show b2*2^8=b2*256 from rfl,c2,
   show(b0*256+b1)*2^16+b2*256=(b0*65536+b1*256+b2)*2^8 by omega,c3]
 rw[l];simp only[R9,Nat.add_zero,e0,e1,e2,e3,Fk,wrap_u32];omega
def Hh(l:List Int):List Int:=l++List.replicate (64 - l.length) 0
theorem Vp{l:List Int}(h:l.length≤64):(Hh l).length=64:=by simp[Hh];omega
theorem P9{l:List Int}{k:Nat}{x:Int}(h:l[k]?=some x):(Hh l)[k]?=some x:=by
 rw[Hh,List.getElem?_append_left (by rw[List.getElem?_eq_some_iff]at h;exact h.1)]
 exact h
theorem Ag9{l:List Int}{x:Int}(h:l.length<64):(Hh l).set l.length x=Hh (l++[x]):=by
 obtain⟨k,hk⟩:∃k,64 - l.length=k+1:=⟨63 - l.length,by omega⟩
 have E7:64 - (l++[x]).length=k:=by simp;omega
 rw[Hh,Hh,hk,E7,List.set_append_right _ _ (Nat.le_refl _),Nat.sub_self,List.replicate_succ,List.set_cons_zero,List.append_assoc];rfl
theorem A4k(w:List Int)(t:Nat):Fk (Fk (Fk (Gz w (t - 16)+Bj6 (Gz w (t - 15)))+Gz w (t - 7))+Bj7 (Gz w (t - 2)))=Ar7 w t:=by
 unfold Ar7 Fk;simp only[wrap_u32];omega
abbrev Ng(l:List Int):I:=.arr 1 (l.map (I.int .u32))
theorem Jt{l:List Int}{k:Nat}{x:Int}(h:l[k]?=some x):(SV.box (T.one (F.i (Ng l)))).hit 0 ([]++[Int.toNat (k:Int)])=some (k*1,.item (.int .u32 x)):=by
 show Acu 0 ((Ng l).sub [Int.toNat (k:Int)])=_;rw[Int.toNat_natCast];simp[I.sub,Acu,h]
theorem Aku{l:List Int}{k:Nat}{x:Int}(h:l[k]?=some x)(y:Int):(Ng l).put ([]++[Int.toNat (k:Int)]) (.int .u32 y)=Ng (l.set k y):=by
 rw[Int.toNat_natCast];simp[I.put,h]

open Go.Proofs
abbrev En(s:Ai):List I:=s.map Cr
theorem Acj:∀s:Ai,bytesOf (En s)=some s
 | []=>rfl
 |b::s=>by simp[En,Cr,bytesOf,Acj s]
theorem Bgo{s:Ai}{k:Nat}{x:UInt8}(h:s[k]?=some x):(En s)[k]?=some (.int .u8 x.toNat):=by simp[h,Cr]
theorem Anj(s:Ai):∀u∈En s,u.size=1:=by
 intro u hu;obtain⟨b,_,rfl⟩:=List.mem_map.1 hu;rfl
theorem Ady(n k:Nat)(hn:n<18446744073709551616)(hk:k≤1000):Fn Tryz.prog Z6 [.v (.int .u64 n),.v (.int .i64 k)] (Is (.vec 5 1 (En (Ee n k))) [.no,.no]):=by
 refine Xv ?_ (by simp)
 have hw0:IntKind.i64.wrap ((k:Int) - 1)=(k:Int) - 1:=Cf (by omega)
 repeat'((conv=>whnf);first|(refine eI ?_ ?_;focus (and_intros<;>omega))|((try dsimp only);rw[hw0]))
 all_goals(try(conv=>whnf))
 refine Bq.by (X:=Nat × Nat × Ai) (fun x=>[(0,.v (.int .u64 x.2.1)),(5,.vec 5 1 (List.replicate x.1 (.int .u8 0)++En x.2.2)),(6,.v (.int .i64 ((x.1:Int) - 1)))])
  (fun x=>x.1≤k∧x.2.1<18446744073709551616∧Ee x.2.1 x.1++x.2.2=Ee n k) (fun x=>x.1)
  (k,n,[]) (by simp only[En,List.map_nil,List.append_nil];kernel_rfl) ⟨Nat.le_refl _,hn,by simp⟩ ?_
 rintro⟨j,m,t⟩ ⟨h1,h2,h3⟩;dsimp only at h1 h2 h3 ⊢;rcases j with _|j
 ·simp only[List.replicate_zero,List.nil_append];repeat'((conv=>whnf);first|(apply aI<;>intro hb<;>first|exact absurd hb (by decide)|((try rw[hb]);(try simp only[Ad]at hb)))|(refine eI ?_ ?_;focus (and_intros<;>first|omega|exact rfl|(simp;done))))
  all_goals(try(conv=>whnf))
  refine Bd.mk ⟨congrArg (fun l=>SV.vec 5 1 (En l)) ?_,by kernel_rfl⟩ (by kernel_rfl)
  simpa[Ee]using h3
 ·rw[show((j+1:Nat):Int) - 1=(j:Int)by omega]
  have n1:¬decide (0≤(j:Int))=false:=by simp
  have hgl:j<(List.replicate (j+1) (I.int .u8 0)++En t).length:=by simp;omega
  have hg:(List.replicate (j+1) (I.int .u8 0)++En t)[Int.toNat (j:Int)]?=some (.int .u8 0):=by
   rw[Int.toNat_natCast,List.getElem?_append_left (by simp),List.getElem?_replicate,if_pos (by omega)]
  have hh:=V1 (e:=5) (sz:=1) hg;have Nq:Int.toNat (j:Int)<(List.replicate (j+1) (I.int .u8 0)++En t).length:=hgl;have hq:IntKind.u64.wrap (Int.tdiv (m:Int) 256)=((m / 256:Nat):Int):=by
   rw[wrap_u64,Int.tdiv_eq_ediv_of_nonneg (by omega)];omega
  have hr:IntKind.u8.wrap (Int.tmod (m:Int) 256)=(((UInt8.ofNat (m % 256)).toNat:Nat):Int):=by
   rw[wrap_u8,Int.tmod_eq_emod_of_nonneg (by omega)]
   simp
  repeat'((conv=>whnf);first|(apply aI<;>intro hb<;>first|exact absurd hb (by assumption)|((try rw[hb]);(try simp only[Ad]at hb)))|(refine eI ?_ ?_;focus (and_intros<;>first|omega|exact rfl|(simp;done)))|((try dsimp only);rw[hh]))
  all_goals(try(conv=>whnf))
  refine Round.by (j,m / 256,UInt8.ofNat (m % 256)::t) ?_ ⟨by dsimp only;omega,by dsimp only;omega,?_⟩ (Nat.lt_succ_self j)
  ·dsimp only;have hwj:IntKind.i64.wrap ((j:Int) - 1)=(j:Int) - 1:=Cf (by omega)
   have Fe:List.replicate j (I.int .u8 0)++En (UInt8.ofNat (m % 256)::t)=Nf (List.replicate (j+1) (I.int .u8 0)++En t) [Int.toNat (j:Int)] ((I.int .u8 0).put [] (.int .u8 (IntKind.u8.wrap (Int.tmod (m:Int) 256)))):=by
    rw[A0j hg,hr,Int.toNat_natCast,List.set_append_left _ _ (by simp),List.replicate_succ',List.set_append_right _ _ (by simp)]
    simp[En,Cr,I.put]
   rw[Fe,hwj,hq];show norm _ _=Bt _ _
   kernel_rfl
  ·dsimp only;rw[←h3,Ee];simp

open Go.Proofs
theorem Avh(e:TypeId)(sz:Nat)(l:List I):(SV.vec e sz l).Cx 0=some (e,sz,l):=rfl
theorem Aki(x n:Int)(h0:0≤n):Fn Tryz.prog Ad4 [.v (.int .u32 x),.v (.int .u64 n)] (Is (.v (.int .u32 (Nx x n))) [.no,.no]):=by
 refine Ade ?_ (by simp)
 have h1:0≤IntKind.u64.wrap (32 - n):=by rw[wrap_u64];omega
 repeat'((conv=>whnf);(refine eI ?_ ?_;focus (and_intros<;>first|omega|exact rfl)))
 all_goals(try(conv=>whnf))
 exact Bd.mk ⟨rfl,by kernel_rfl⟩ (by kernel_rfl)
theorem Atf:Fn Tryz.prog Wd [] (Is (.vec Bc4 1 (L2.map (I.int .u32))) []):=by
 refine U5 ?_ (by simp)
 repeat'((conv=>whnf);(refine eI ?_ ?_;focus (and_intros<;>first|omega|exact rfl|exact B8 (by rfl))))
 all_goals(try(conv=>whnf))
 (apply dK<;>kernel_rfl)
theorem A68{l:List Ai}{k:Nat}{e:Ai}(h:l[k]?=some e):Eb (l.take (k+1))=Eb (l.take k)++Ee e.length 8++e:=by
 unfold Eb;rw[List.take_add_one,h];simp
theorem An6{l:List Ai}{m:Nat}(h:∀s∈l,s.length≤m):(Eb l).length≤l.length*(m+8):=by
 induction l with
 |nil=>simp[Eb]
 |cons a r ih=>
  have h1:=ih fun s hs=>h s (List.mem_cons_of_mem _ hs)
  have h2:=h a (List.mem_cons_self ..);have:Eb (a::r)=Ee a.length 8++a++Eb r:=by simp[Eb]
  rw[this];simp only[List.length_append,D4,List.length_cons,Nat.add_mul];omega
theorem Am5(l:List Ai)(hl:l.length≤1000)(he:∀s∈l,s.length≤1000000):Fn Tryz.prog Z5 [.v (.list (strs l))] (Is (.v (.str (Eb l))) [.no]):=by
 refine Zn ?_ (by simp)
 have hm:l.length≤maxLen:=by simp only[maxLen];omega
 repeat'((conv=>whnf);(refine eI ?_ ?_;focus (and_intros<;>omega)))
 all_goals(try(conv=>whnf))
 refine Bq.by (X:=Nat) (fun x=>[(3,.vec 5 1 (En (Eb (l.take x)))),(4,.v (.int .i64 x))]) (fun x=>x≤l.length) (fun x=>l.length - x)
  0 (by rw[List.take_zero];kernel_rfl) (Nat.zero_le _) ?_
 intro k h1;have hjl:(Eb (l.take k)).length≤1000*1000008:=by
  have:=An6 (l:=l.take k) (m:=1000000) fun s hs=>he s (List.mem_of_mem_take hs)
  rw[List.length_take]at this;exact Nat.le_trans this (Nat.mul_le_mul_right _ (by omega))
 by_cases hk:k<l.length
 case neg=>
  have Bb:¬decide ((k:Int)<((strs l).length:Int))=true:=by simp;omega
  rw[show l.take k=l from List.take_of_length_le (by omega)]at hjl ⊢
  have hml:(Eb l).length≤maxLen:=by simp only[maxLen];omega
  repeat'((conv=>whnf);first|(apply aI<;>intro hb<;>first|exact absurd hb (by assumption)|((try rw[hb]);(try simp only[Ad]at hb)))|(refine eI ?_ ?_;focus (and_intros<;>first|omega|exact rfl|(simp;done)))|(intro Aa)|((try dsimp only);rw[Avh])|((try dsimp only);rw[Acj]))
  all_goals(try(conv=>whnf))
  exact Bd.mk ⟨rfl,by kernel_rfl⟩ (by kernel_rfl)
 obtain⟨e,Rx⟩:∃e,l[k]?=some e:=⟨_,List.getElem?_eq_getElem hk⟩;have hel:=he e (List.mem_of_getElem? Rx);have hg:(strs l)[Int.toNat (k:Int)]?=some (.str e):=Z1 Rx;have Bb:¬decide ((k:Int)<((strs l).length:Int))=false:=by simp[hk]
 have Di:l.length - (k+1)<l.length - k:=by omega
 have hw:IntKind.u64.wrap (e.length:Int)=(e.length:Int):=by rw[wrap_u64];omega
 have Asd:=Ady e.length 8 (by omega) (by omega)
 have Ly:=D4 e.length 8;have Bk:=Anj (Ee e.length 8);obtain⟨J,hJ⟩:∃J,J=Eb (l.take k):=⟨_,rfl⟩;have hjs:=A68 Rx;rw[←hJ]at hjl hjs ⊢;have e1:((En J).length+(En (Ee e.length 8)).length)*1≤140737488355328:=by simp only[List.length_map,Ly];omega
 have e2:(En J).length+(En (Ee e.length 8)).length≤maxLen:=by simp only[List.length_map,Ly,maxLen];omega
 have e3:((En J++En (Ee e.length 8)).length+e.length)*1≤140737488355328:=by simp only[List.length_append,List.length_map,Ly];omega
 have e4:(En J++En (Ee e.length 8)).length+e.length≤maxLen:=by simp only[List.length_append,List.length_map,Ly,maxLen];omega
 repeat'((conv=>whnf);first|(apply aI<;>intro hb<;>first|exact absurd hb (by assumption)|((try rw[hb]);(try simp only[Ad]at hb)))|(refine eI ?_ ?_;focus (and_intros<;>first|omega|exact rfl|(intro _ hh;cases hh;done)|(simp;done)|decide))|(intro Aa)|((with_reducible apply A5.B5);(focus kernel_rfl);intro Aa;(try simp only[dRS]at Aa))|((try dsimp only);rw[hg])|((try dsimp only);rw[hw])|(refine Aj.mk ⟨_,_,Asd,?_⟩))
 all_goals(try(conv=>whnf))
 refine Round.by (k+1) ?_ hk Di;rw[Ak hk hm,hjs];simp only[En,List.map_append];show norm _ _=Bt _ _
 kernel_rfl
set_option maxHeartbeats 40000000

open Go.Proofs
abbrev Jk(l:List Int):List I:=l.map (I.int .u32)
theorem Sj{l:List Int}{k:Nat}{e:Int}(h:l[k]?=some e):(Jk l)[k]?=some (.int .u32 e):=by simp[h]
theorem Ux{e sz:Nat}{l:List I}{n:Nat}{u:I}(h:l[n]?=some u):(SV.vec e sz l).hit 0 [Int.toNat (n:Int)]=some (Int.toNat (n:Int)*sz+0,.item u):=
 V1 (by rw[Int.toNat_natCast];exact h)
theorem Axr(m:Ai):∀n,∀x∈(blocks m n).l,0≤x∧x<4294967296
 |0=>(by decide:∀x∈H0.l,0≤x∧x<4294967296)
 |n+1=>by
  intro x hx;simp only[blocks,S8,Ang,H8.l,List.mem_cons,List.not_mem_nil,or_false]at hx;rcases hx with rfl|rfl|rfl|rfl|rfl|rfl|rfl|rfl<;>exact Aoy _
theorem Aui{h:H8}{t:Nat}{x:Int}(hx:h.l[t]?=some x):Mq h (t+1)=Mq h t++Ee x.toNat 4:=by
 unfold Mq;rw[List.take_add_one,hx];simp
theorem Adt(h:H8):∀t,t≤8→(Mq h t).length=4*t
 |0,_=>rfl
 |t+1,ht=>by
  obtain⟨x,hx⟩:∃x,h.l[t]?=some x:=⟨_,List.getElem?_eq_getElem (show t<8 by omega)⟩
  rw[Aui hx,List.length_append,Adt h t (by omega),D4]
  omega
def pre(s:Ai)(x:Nat):Ai:=s++[128]++List.replicate x 0
theorem Ty(s:Ai)(x:Nat):(pre s x).length=s.length+1+x:=by simp[pre];omega
theorem A2b(s:Ai)(hl:s.length≤100000000):Fn Tryz.prog Afy [.v (.str s)] (Is (.v (.str (Z2 s))) [.no]):=by
 refine Aff ?_ (by simp)
 have e1:((List.map Cr s).length+1)*1≤140737488355328:=by simp only[List.length_map];omega
 have e2:(List.map Cr s).length+1≤maxLen:=by simp only[List.length_map,maxLen];omega
 repeat'((conv=>whnf);(refine eI ?_ ?_;focus (and_intros<;>first|omega|exact rfl|assumption|exact B8 (by rfl)|(simp;done))))
 all_goals(try(conv=>whnf))
 refine Bq.by (X:=Nat) (fun x=>[(3,.vec 1000005 1 (En (pre s x)))]) (fun x=>x≤Gf s.length) (fun x=>Gf s.length - x)
  0 (by simp only[pre,List.replicate_zero,List.append_nil,En,List.map_append];kernel_rfl) (Nat.zero_le _) ?_
 intro x hx;have htm:Int.tmod ((En (pre s x)).length:Int) 64=(((s.length+1+x) % 64:Nat):Int):=by
  rw[List.length_map,Ty,Int.tmod_eq_emod_of_nonneg (by omega)];omega
 have hzl:Gf s.length≤63:=by unfold Gf;omega
 by_cases hz:x<Gf s.length
 ·have n1:¬(!decide (Int.tmod ((En (pre s x)).length:Int) 64=56))=false:=by
   rw[htm];simp;unfold Gf at hz;omega
  have e3:((En (pre s x)).length+1)*1≤140737488355328:=by simp only[List.length_map,Ty];omega
  have e4:(En (pre s x)).length+1≤maxLen:=by simp only[List.length_map,Ty,maxLen];omega
  repeat'((conv=>whnf);first|(apply aI<;>intro hb<;>first|exact absurd hb (by assumption)|((try rw[hb]);(try simp only[Ad]at hb)))|(refine eI ?_ ?_;focus (and_intros<;>first|omega|exact rfl|assumption|exact B8 (by rfl)|(simp;done)))|(intro Aa))
  all_goals(try(conv=>whnf))
  refine Round.by (x+1) ?_ hz (by omega)
  have hp:En (pre s (x+1))=En (pre s x)++(List.replicate 1 (I.int .u8 0)).set 0 (.int .u8 0):=by
   simp only[pre,List.replicate_succ',En,List.map_append,List.append_assoc];rfl
  rw[hp];show norm _ _=Bt _ _
  kernel_rfl
 have n1:¬(!decide (Int.tmod ((En (pre s x)).length:Int) 64=56))=true:=by
  rw[htm];simp;unfold Gf at hz hx;omega
 have hxz:x=Gf s.length:=by omega
 have hw8:IntKind.u64.wrap (8*IntKind.u64.wrap (s.length:Int))=((8*s.length:Nat):Int):=by rw[wrap_u64,wrap_u64];omega
 have Asd:=Ady (8*s.length) 8 (by omega) (by omega)
 have Ly:=D4 (8*s.length) 8;have Bk:=Anj (Ee (8*s.length) 8);have e3:((En (pre s x)).length+(En (Ee (8*s.length) 8)).length)*1≤140737488355328:=by simp only[List.length_map,Ty,Ly];omega
 have e4:(En (pre s x)).length+(En (Ee (8*s.length) 8)).length≤maxLen:=by simp only[List.length_map,Ty,Ly,maxLen];omega
 repeat'((conv=>whnf);first|(apply aI<;>intro hb<;>first|exact absurd hb (by assumption)|((try rw[hb]);(try simp only[Ad]at hb)))|(refine eI ?_ ?_;focus (and_intros<;>first|omega|exact rfl|(intro _ hh;cases hh;done)|exact B8 (by rfl)|(simp;done)|decide))|(intro Aa)|((try dsimp only);rw[hw8])|(refine Ac.mk ⟨_,Asd,?_⟩;rintro _ _ ⟨rfl,rfl⟩)|(refine Ac.mk ⟨_,Atf,?_⟩;rintro _ _ ⟨rfl,rfl⟩))
 all_goals(try(conv=>whnf))
 have hM:En (pre s x)++En (Ee (8*s.length) 8)=En (L6 s):=by
  rw[hxz];simp only[pre,L6,En,List.map_append]
 rw[hM];have hMl:=Am3 s;have hMm:(L6 s).length≤100000300:=by
  simp only[L6,List.length_append,List.length_replicate,D4,List.length_singleton];omega
 have Ay8:Z2 s=Mq (blocks (L6 s) ((L6 s).length / 64)) 8:=rfl;rw[Ay8];clear Ay8 hM Asd Ly Bk e1 e2 e3 e4 hw8 htm n1;obtain⟨M,hMd⟩:∃M,M=L6 s:=⟨_,rfl⟩;rw[←hMd]at hMl hMm ⊢;obtain⟨N,hN⟩:∃N,N=M.length / 64:=⟨_,rfl⟩;rw[←hN]at hMl ⊢;refine Bq.by (X:=Nat) (fun n=>[(4,.vec 141 1 (Jk (blocks M n).l)),(6,.v (.int .i64 ((64*n:Nat):Int)))]) (fun n=>n≤N) (fun n=>N - n)
  0 (by kernel_rfl) (Nat.zero_le _) ?_
 intro n hn;by_cases hnN:n<N
 case neg=>
  have Bb:¬decide (((64*n:Nat):Int)<((En M).length:Int))=true:=by simp;omega
  have:n=N:=by omega
  subst this;obtain⟨H,hH⟩:∃H,H=blocks M n:=⟨_,rfl⟩;have hbd:∀x∈H.l,0≤x∧x<4294967296:=by rw[hH];exact Axr M n
  rw[←hH];repeat'((conv=>whnf);first|(apply aI<;>intro hb<;>first|exact absurd hb (by assumption)|((try rw[hb]);(try simp only[Ad]at hb)))|(refine eI ?_ ?_;focus (and_intros<;>first|omega|exact rfl|(simp;done)))|(intro Aa))
  all_goals(try(conv=>whnf))
  refine Bq.by (X:=Nat) (fun t=>[(25,.vec 5 1 (En (Mq H t))),(26,.v (.int .i64 t))]) (fun t=>t≤8) (fun t=>8 - t)
   0 (by kernel_rfl) (by omega) ?_
  intro t ht;have Jx:=Adt H t ht;by_cases ht8:t<8
  case pos=>
   have Ga:¬decide ((t:Int)<8)=false:=by simp;omega
   obtain⟨x,hx⟩:∃x,H.l[t]?=some x:=⟨_,List.getElem?_eq_getElem (show t<8 by omega)⟩
   obtain⟨hx0,hx1⟩:=hbd x (List.mem_of_getElem? hx);have hh:=Ux (e:=141) (sz:=1) (Sj hx);have hl8:(Jk H.l).length=8:=rfl;have bk:Int.toNat (t:Int)<(Jk H.l).length:=by rw[Int.toNat_natCast,hl8];exact ht8
   have bk2:(t:Int)<((Jk H.l).length:Int):=by rw[hl8];exact_mod_cast ht8
   have hw:IntKind.u64.wrap x=((x.toNat:Nat):Int):=by rw[wrap_u64];omega
   have Asd:=Ady x.toNat 4 (by omega) (by omega)
   have Ly:=D4 x.toNat 4;have Bk:=Anj (Ee x.toNat 4);have hos:=Aui hx;obtain⟨O,hO⟩:∃O,O=Mq H t:=⟨_,rfl⟩;rw[←hO]at Jx hos ⊢;have e1:((En O).length+(En (Ee x.toNat 4)).length)*1≤140737488355328:=by simp only[List.length_map,Ly];omega
   have e2:(En O).length+(En (Ee x.toNat 4)).length≤maxLen:=by simp only[List.length_map,Ly,maxLen];omega
   repeat'((conv=>whnf);first|(apply aI<;>intro hb<;>first|exact absurd hb (by assumption)|((try rw[hb]);(try simp only[Ad]at hb)))|(refine eI ?_ ?_;focus (and_intros<;>first|omega|exact rfl|(intro _ hh;cases hh;done)|(simp;done)|decide))|((try dsimp only);rw[hh])|((try dsimp only);rw[hw])|(refine Ac.mk ⟨_,Asd,?_⟩;rintro _ _ ⟨rfl,rfl⟩))
   all_goals(try(conv=>whnf))
   refine Round.by (t+1) ?_ ht8 (by omega)
   rw[Ak ht8 (by simp only[maxLen];omega),hos,show En (O++Ee x.toNat 4)=En O++En (Ee x.toNat 4)from List.map_append]
   show norm _ _=Bt _ _
   kernel_rfl
  have Ga:¬decide ((t:Int)<8)=true:=by simp;omega
  have Tn:t=8:=by omega
  subst Tn;obtain⟨O,hO⟩:∃O,O=Mq H 8:=⟨_,rfl⟩;rw[←hO]at Jx ⊢;have hml:O.length≤maxLen:=by rw[Jx];simp only[maxLen];omega
  repeat'((conv=>whnf);first|(apply aI<;>intro hb<;>first|exact absurd hb (by assumption)|((try rw[hb]);(try simp only[Ad]at hb)))|(refine eI ?_ ?_;focus (and_intros<;>first|omega|(simp;done)))|((try dsimp only);rw[Avh])|((try dsimp only);rw[Acj]))
  all_goals(try(conv=>whnf))
  exact Bd.mk ⟨rfl,by kernel_rfl⟩ (by kernel_rfl)
 have Bb:¬decide (((64*n:Nat):Int)<((En M).length:Int))=false:=by simp;omega
 have Bo9:IntKind.i64.wrap (((64*n:Nat):Int)+64)=((64*(n+1):Nat):Int):=by
  rw[show((64*n:Nat):Int)+64=((64*(n+1):Nat):Int)by omega];exact Cf (by omega)
 have Mk:blocks M (n+1)=S8 M (64*n) (blocks M n):=rfl;obtain⟨H,hH⟩:∃H,H=blocks M n:=⟨_,rfl⟩;rw[←hH]at Mk ⊢;have Akw:Jk H.l=[.int .u32 H.a,.int .u32 H.b,.int .u32 H.c,.int .u32 H.d,.int .u32 H.e,.int .u32 H.f,.int .u32 H.g,.int .u32 H.i]:=rfl;rw[Akw];repeat'((conv=>whnf);first|(apply aI<;>intro hb<;>first|exact absurd hb (by assumption)|((try rw[hb]);(try simp only[Ad]at hb)))|(refine eI ?_ ?_;focus (and_intros<;>first|omega|exact rfl|(simp;done)))|(intro Aa))
 all_goals(try(conv=>whnf))
 refine Bq.by (X:=Nat) (fun t=>[(7,.vec 141 1 (Jk (sched M (64*n) t))),(8,.v (.int .i64 t))]) (fun t=>t≤16) (fun t=>16 - t)
  0 (by kernel_rfl) (by omega) ?_
 intro t ht;by_cases Bd7:t<16
 case pos=>
  have Ga:¬decide ((t:Int)<16)=false:=by simp;omega
  repeat'((conv=>whnf);(apply aI<;>intro hb<;>first|exact absurd hb (by assumption)|((try rw[hb]);(try simp only[Ad]at hb))))
  all_goals(try(conv=>whnf))
  refine Bq.by (X:=Nat) (fun i=>[(9,.v (.int .u32 (R9 M (64*n+4*t) i))),(10,.v (.int .i64 i))]) (fun i=>i≤4) (fun i=>4 - i)
   0 (by kernel_rfl) (by omega) ?_
  intro i hi;by_cases hi4:i<4
  case pos=>
   have Rk:¬decide ((i:Int)<4)=false:=by simp;omega
   obtain⟨b,Y0⟩:∃b,M[64*n+4*t+i]?=some b:=⟨_,List.getElem?_eq_getElem (by omega)⟩
   have hg:(En M)[Int.toNat ((64*n+4*t+i:Nat):Int)]?=some (.int .u8 b.toNat):=Bgo Y0;have hh:=V1 (e:=1000005) (sz:=1) hg;have Nq:Int.toNat ((64*n+4*t+i:Nat):Int)<(En M).length:=by simp;omega
   have Bsy:((64*n+4*t+i:Nat):Int)<((En M).length:Int):=by simp;omega
   have hw4:IntKind.i64.wrap (4*(t:Int))=((4*t:Nat):Int):=by
    rw[show 4*(t:Int)=((4*t:Nat):Int)by omega];exact Cf (by omega)
   have hw5:IntKind.i64.wrap (((64*n:Nat):Int)+((4*t:Nat):Int))=((64*n+4*t:Nat):Int):=by
    rw[show((64*n:Nat):Int)+((4*t:Nat):Int)=((64*n+4*t:Nat):Int)by omega];exact Cf (by omega)
   have hw6:IntKind.i64.wrap (((64*n+4*t:Nat):Int)+(i:Int))=((64*n+4*t+i:Nat):Int):=by
    rw[show((64*n+4*t:Nat):Int)+(i:Int)=((64*n+4*t+i:Nat):Int)by omega];exact Cf (by omega)
   have Vy:R9 M (64*n+4*t) (i+1)=Fk (Fk (R9 M (64*n+4*t) i*256)+Fk (b.toNat:Int)):=by
    rw[R9,F9,List.getD_eq_getElem?_getD,Y0];rfl
   repeat'((conv=>whnf);first|(apply aI<;>intro hb<;>first|exact absurd hb (by assumption)|((try rw[hb]);(try simp only[Ad]at hb)))|(refine eI ?_ ?_;focus (and_intros<;>first|omega|exact rfl|(simp;done)))|((try dsimp only);rw[hw4])|((try dsimp only);rw[hw5])|((try dsimp only);rw[hw6])|((try dsimp only);rw[hh]))
   all_goals(try(conv=>whnf))
   refine Round.by (i+1) ?_ hi4 (by omega)
   rw[Ak hi4 (by simp only[maxLen];omega),Vy]
   show norm _ _=Bt _ _
   kernel_rfl
  have Rk:¬decide ((i:Int)<4)=true:=by simp;omega
  have hi4:i=4:=by omega
  subst hi4;have e1:((Jk (sched M (64*n) t)).length+1)*4≤140737488355328:=by simp only[List.length_map,Fo];omega
  have e2:(Jk (sched M (64*n) t)).length+1≤maxLen:=by simp only[List.length_map,Fo,maxLen];omega
  repeat'((conv=>whnf);first|(apply aI<;>intro hb<;>first|exact absurd hb (by assumption)|((try rw[hb]);(try simp only[Ad]at hb)))|(refine eI ?_ ?_;focus (and_intros<;>first|omega|exact rfl|assumption|exact B8 (by rfl)|(simp;done))))
  all_goals(try(conv=>whnf))
  refine Round.by (t+1) ?_ Bd7 (by omega)
  have Tm:Jk (sched M (64*n) (t+1))=Jk (sched M (64*n) t)++(List.replicate 1 (I.int .u32 0)).set 0 (.int .u32 (R9 M (64*n+4*t) 4)):=by
   rw[sched,if_pos Bd7,Jk,List.map_append];rfl
  rw[Ak Bd7 (by simp only[maxLen];omega),Tm]
  show norm _ _=Bt _ _
  kernel_rfl
 have Tn:t=16:=by omega
 subst Tn;repeat'((conv=>whnf);(apply aI<;>intro hb<;>first|exact absurd hb (by decide)|((try rw[hb]);(try simp only[Ad]at hb))))
 all_goals(try(conv=>whnf))
 refine Bq.by (X:=Nat) (fun t=>[(7,.vec 141 1 (Jk (sched M (64*n) t))),(11,.v (.int .i64 t))]) (fun t=>16≤t∧t≤64) (fun t=>64 - t)
  16 (by kernel_rfl) (by omega) ?_
 rintro t ⟨ht1,ht2⟩;by_cases J8:t<64
 case pos=>
  have Ga:¬decide ((t:Int)<64)=false:=by simp;omega
  have Tm:Jk (sched M (64*n) (t+1))=Jk (sched M (64*n) t)++(List.replicate 1 (I.int .u32 0)).set 0 (.int .u32 (Ar7 (sched M (64*n) t) t)):=by
   rw[sched,if_neg (by omega),Jk,List.map_append]
   rfl
  have Ei:=Fo M (64*n) t;obtain⟨w,hw⟩:∃w,w=sched M (64*n) t:=⟨_,rfl⟩;rw[←hw]at Ei Tm ⊢;have g:∀j,j<t→w[j]?=some (Gz w j):=fun j hj=>by
   rw[Gz,List.getD_eq_getElem?_getD,List.getElem?_eq_getElem (by omega)];rfl
  have hwr:∀j:Nat,j≤t→IntKind.i64.wrap ((t:Int) - (j:Int))=((t - j:Nat):Int):=fun j hj=>by
   rw[show(t:Int) - (j:Int)=((t - j:Nat):Int)by omega];exact Cf (by omega)
  have w2:IntKind.i64.wrap ((t:Int) - 2)=((t - 2:Nat):Int):=hwr 2 (by omega)
  have w7:IntKind.i64.wrap ((t:Int) - 7)=((t - 7:Nat):Int):=hwr 7 (by omega)
  have w15:IntKind.i64.wrap ((t:Int) - 15)=((t - 15:Nat):Int):=hwr 15 (by omega)
  have w16:IntKind.i64.wrap ((t:Int) - 16)=((t - 16:Nat):Int):=hwr 16 (by omega)
  have h2:=Ux (e:=141) (sz:=1) (Sj (g (t - 2) (by omega)))
  have h7:=Ux (e:=141) (sz:=1) (Sj (g (t - 7) (by omega)))
  have h15:=Ux (e:=141) (sz:=1) (Sj (g (t - 15) (by omega)))
  have h16:=Ux (e:=141) (sz:=1) (Sj (g (t - 16) (by omega)))
  have b2:Int.toNat ((t - 2:Nat):Int)<(Jk w).length:=by simp;omega
  have b7:Int.toNat ((t - 7:Nat):Int)<(Jk w).length:=by simp;omega
  have b15:Int.toNat ((t - 15:Nat):Int)<(Jk w).length:=by simp;omega
  have b16:Int.toNat ((t - 16:Nat):Int)<(Jk w).length:=by simp;omega
  have e1:((Jk w).length+1)*4≤140737488355328:=by simp only[List.length_map];omega
  have e2:(Jk w).length+1≤maxLen:=by simp only[List.length_map,maxLen];omega
  repeat'((conv=>whnf);first|(apply aI<;>intro hb<;>first|exact absurd hb (by assumption)|((try rw[hb]);(try simp only[Ad]at hb)))|(refine eI ?_ ?_;focus (and_intros<;>first|omega|exact rfl|assumption|(intro _ hh;cases hh;done)|exact B8 (by rfl)|(simp;done)|decide))|((with_reducible apply A5.B5);(focus kernel_rfl);intro Aa;(try simp only[dRS]at Aa))|((try dsimp only);rw[w2])|((try dsimp only);rw[w7])|((try dsimp only);rw[w15])|((try dsimp only);rw[w16])|((try dsimp only);rw[h2])|((try dsimp only);rw[h7])|((try dsimp only);rw[h15])|((try dsimp only);rw[h16])|(refine Aj.mk ⟨_,_,Aki _ _ (by decide),?_⟩))
  all_goals(try(conv=>whnf))
  refine Round.by (t+1) ?_ ⟨by omega,J8⟩ (by omega)
  rw[Ak J8 (by simp only[maxLen];omega),Tm]
  show norm _ _=Bt _ _
  kernel_rfl
 have Tn:t=64:=by omega
 subst Tn;have Ei:=Fo M (64*n) 64;unfold S8 at Mk;obtain⟨w,hw⟩:∃w,w=sched M (64*n) 64:=⟨_,rfl⟩;rw[←hw]at Ei Mk ⊢;repeat'((conv=>whnf);first|(apply aI<;>intro hb<;>first|exact absurd hb (by decide)|((try rw[hb]);(try simp only[Ad]at hb)))|(refine eI ?_ ?_;focus (and_intros<;>first|omega|exact rfl|(simp only[Az];omega)|(simp;done)))|((with_reducible apply A5.B5);(focus kernel_rfl);intro Aa;(try simp only[dRS]at Aa)))
 all_goals(try(conv=>whnf))
 refine Bq.by (X:=Nat) (fun t=>[(14,.v (.int .u32 (Jh w H t).a)),(15,.v (.int .u32 (Jh w H t).b)),(16,.v (.int .u32 (Jh w H t).c)),(17,.v (.int .u32 (Jh w H t).d)),(18,.v (.int .u32 (Jh w H t).e)),(19,.v (.int .u32 (Jh w H t).f)),(20,.v (.int .u32 (Jh w H t).g)),(21,.v (.int .u32 (Jh w H t).i)),(22,.v (.int .i64 t))]) (fun t=>t≤64) (fun t=>64 - t)
  0 (by kernel_rfl) (by omega) ?_
 intro t ht;by_cases J8:t<64
 case pos=>
  have Ga:¬decide ((t:Int)<64)=false:=by simp;omega
  have hgk:L2[t]?=some (Gz L2 t):=by
   rw[Gz,List.getD_eq_getElem?_getD,List.getElem?_eq_getElem (show t<L2.length from J8)];rfl
  have hgw:w[t]?=some (Gz w t):=by
   rw[Gz,List.getD_eq_getElem?_getD,List.getElem?_eq_getElem (by omega)];rfl
  have hk:=Ux (e:=141) (sz:=1) (Sj hgk);have hh:=Ux (e:=141) (sz:=1) (Sj hgw);have bk:Int.toNat (t:Int)<(Jk L2).length:=by rw[Int.toNat_natCast,List.length_map];exact J8
  have bk2:(t:Int)<((Jk L2).length:Int):=by rw[List.length_map];exact_mod_cast J8
  have bw:Int.toNat (t:Int)<(Jk w).length:=by simp;omega
  have bw2:(t:Int)<((Jk w).length:Int):=by simp;omega
  have hr:Jh w H (t+1)=rnd (Jh w H t) (Gz L2 t) (Gz w t):=rfl;obtain⟨R,hR⟩:∃R,R=Jh w H t:=⟨_,rfl⟩;rw[←hR]at hr ⊢;obtain⟨kt,hkt⟩:∃k,k=Gz L2 t:=⟨_,rfl⟩;rw[←hkt]at hr hk;obtain⟨wt,hwt⟩:∃k,k=Gz w t:=⟨_,rfl⟩;rw[←hwt]at hr hh;repeat'((conv=>whnf);first|(apply aI<;>intro hb<;>first|exact absurd hb (by assumption)|((try rw[hb]);(try simp only[Ad]at hb)))|(refine eI ?_ ?_;focus (and_intros<;>first|omega|exact rfl|(intro _ hh;cases hh;done)|(simp;done)|decide))|((with_reducible apply A5.B5);(focus kernel_rfl);intro Aa;(try simp only[dRS]at Aa))|((try dsimp only);rw[hk])|((try dsimp only);rw[hh])|(refine Aj.mk ⟨_,_,Aki _ _ (by decide),?_⟩)|(refine Ac.mk ⟨_,Aki _ _ (by decide),?_⟩;rintro _ _ ⟨rfl,rfl⟩))
  all_goals(try(conv=>whnf))
  refine Round.by (t+1) ?_ J8 (by omega)
  rw[Ak J8 (by simp only[maxLen];omega),hr]
  show norm _ _=Bt _ _
  kernel_rfl
 have Tn:t=64:=by omega
 subst Tn;obtain⟨R,hR⟩:∃R,R=Jh w H 64:=⟨_,rfl⟩;rw[←hR]at Mk ⊢;repeat'((conv=>whnf);first|(apply aI<;>intro hb<;>first|exact absurd hb (by decide)|((try rw[hb]);(try simp only[Ad]at hb)))|(refine eI ?_ ?_;focus (and_intros<;>first|omega|exact rfl|exact B8 (by rfl)|(simp only[Az];omega)|(simp;done)))|((with_reducible apply A5.B5);(focus kernel_rfl);intro Aa;(try simp only[dRS]at Aa)))
 all_goals(try(conv=>whnf))
 refine Round.by (n+1) ?_ hnN (by omega)
 rw[Bo9,Mk];show norm _ _=Bt _ _
 kernel_rfl
set_option maxHeartbeats 8000000

open Go.Proofs
theorem Am9(s:Ai):(Z2 s).length=32:=Adt _ 8 (by omega)
def Bdr(Bp h:Ai):Ai:=Z2 (Eb [h,Bp])
def Tf(Bp word:Ai):Nat→Ai
 |0=>Z2 (Eb [Bp,word])
 |n+1=>Bdr Bp (Tf Bp word n)
def Hj(Bp word:Ai):Ai:=Tf Bp word 8
theorem Tg(Bp word:Ai):∀n,(Tf Bp word n).length=32
 |0=>Am9 _
 |_+1=>Am9 _
theorem Auf(a b:Ai)(ha:a.length≤1000000)(hb:b.length≤1000000):(Eb [a,b]).length≤100000000:=by
 have:=An6 (l:=[a,b]) (m:=1000000) (by intro s hs;simp at hs;rcases hs with rfl|rfl<;>assumption)
 simp at this;omega
theorem Ava(Bp word:Ai)(h1:Bp.length≤1000000)(h2:word.length≤1000000):Fn Tryz.prog Ad8 [.v (.str Bp),.v (.str word)] (Is (.v (.str (Hj Bp word))) [.no,.no]):=by
 refine Adj ?_ (by simp)
 have j0:=Am5 [Bp,word] (by simp) (by intro s hs;simp at hs;rcases hs with rfl|rfl<;>assumption)
 have s0:=A2b (Eb [Bp,word]) (Auf _ _ h1 h2);repeat'((conv=>whnf);first|(refine eI ?_ ?_;focus (and_intros<;>first|exact rfl|(intro _ hh;cases hh;done)|exact B8 (by rfl)|(simp;done)|decide))|(refine Ac.mk ⟨_,j0,?_⟩;rintro _ _ ⟨rfl,rfl⟩)|(refine Ac.mk ⟨_,s0,?_⟩;rintro _ _ ⟨rfl,rfl⟩))
 all_goals(try(conv=>whnf))
 refine Bq.by (X:=Nat) (fun t=>[(5,.v (.str (Tf Bp word t))),(6,.v (.int .i64 t))]) (fun t=>t≤8) (fun t=>8 - t)
  0 (by kernel_rfl) (by omega) ?_
 intro t ht;by_cases ht8:t<8
 case pos=>
  have Ga:¬decide ((t:Int)<8)=false:=by simp;omega
  have hl:=Tg Bp word t;have hs:Tf Bp word (t+1)=Z2 (Eb [Tf Bp word t,Bp]):=rfl;obtain⟨h,hh⟩:∃h,h=Tf Bp word t:=⟨_,rfl⟩;rw[←hh]at hl hs ⊢;have j1:=Am5 [h,Bp] (by simp) (by intro s hs;simp at hs;rcases hs with rfl|rfl<;>first|omega|assumption)
  have s1:=A2b (Eb [h,Bp]) (Auf _ _ (by omega) h1)
  repeat'((conv=>whnf);first|(apply aI<;>intro hb<;>first|exact absurd hb (by assumption)|((try rw[hb]);(try simp only[Ad]at hb)))|(refine eI ?_ ?_;focus (and_intros<;>first|exact rfl|(intro _ hh;cases hh;done)|exact B8 (by rfl)|(simp;done)|decide))|(refine Ac.mk ⟨_,j1,?_⟩;rintro _ _ ⟨rfl,rfl⟩)|(refine Ac.mk ⟨_,s1,?_⟩;rintro _ _ ⟨rfl,rfl⟩))
  all_goals(try(conv=>whnf))
  refine Round.by (t+1) ?_ ht8 (by omega)
  rw[Ak ht8 (by simp only[maxLen];omega),hs]
  show norm _ _=Bt _ _
  kernel_rfl
 have Ga:¬decide ((t:Int)<8)=true:=by simp;omega
 have Tn:t=8:=by omega
 subst Tn;repeat'((conv=>whnf);(apply aI<;>intro hb<;>first|exact absurd hb (by assumption)|((try rw[hb]);(try simp only[Ad]at hb))))
 all_goals(try(conv=>whnf))
 exact Bd.mk ⟨rfl,by kernel_rfl⟩ (by kernel_rfl)
def A5b(Bp word:Ai):A8:=⟨1,[],[⟨[114,111,111,116],[],Bp,Hj Bp word,[]⟩],[]⟩
end Go.Ab
