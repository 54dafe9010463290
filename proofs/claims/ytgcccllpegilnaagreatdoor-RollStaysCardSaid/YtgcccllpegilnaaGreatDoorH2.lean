/- Lemmas -/
import Derived.Test.YtgcccllpegilnaaGreatDoorH0
set_option linter.unusedVariables false
set_option linter.unusedSimpArgs false
set_option maxRecDepth 100000
set_option maxHeartbeats 4000000
namespace Go.Ab
open Go.Op
theorem wrap_u8 (n:Int):IntKind.u8.wrap n=n % 256:=by simp[IntKind.wrap,IntKind.bits,IntKind.signed]
theorem wrap_u32 (n:Int):IntKind.u32.wrap n=n % 4294967296:=by simp[IntKind.wrap,IntKind.bits,IntKind.signed]
theorem wrap_u64 (n:Int):IntKind.u64.wrap n=n % 18446744073709551616:=by simp[IntKind.wrap,IntKind.bits,IntKind.signed]
def numB (n:Nat):Nat→Ai
 |0=>[]
 |k+1=>numB (n / 256) k++[UInt8.ofNat (n % 256)]
theorem D4:∀(n k:Nat),(numB n k).length=k
 |_,0=>rfl
 |n,k+1=>by simp[numB,D4 (n / 256) k]
def Nx (x n:Int):Int:=D1 .or .u32 (shrI .u32 x n) (shlI .u32 x (IntKind.u64.wrap (32 - n)))
def kays:List Int:=[1116352408,1899447441,3049323471,3921009573,961987163,1508970993,2453635748,2870763221,3624381080,310598401,607225278,1426881987,1925078388,2162078206,2614888103,3248222580,3835390401,4022224774,264347078,604807628,770255983,1249150122,1555081692,1996064986,2554220882,2821834349,2952996808,3210313671,3336571891,3584528711,113926993,338241895,666307205,773529912,1294757372,1396182291,1695183700,1986661051,2177026350,2456956037,2730485921,2820302411,3259730800,3345764771,3516065817,3600352804,4094571909,275423344,430227734,506948616,659060556,883997877,958139571,1322822218,1537002063,1747873779,1955562222,2024104815,2227730452,2361852424,2428436474,2756734187,3204031479,3329325298]
abbrev Fk (n:Int):Int:=IntKind.u32.wrap n
def F9 (m:Ai) (p:Nat):Int:=((m.getD p 0).toNat:Int)
def R9 (m:Ai) (p:Nat):Nat→Int
 |0=>0
 |i+1=>Fk (Fk (R9 m p i*256)+Fk (F9 m (p+i)))
def wAt (w:List Int) (t:Nat):Int:=w.getD t 0
def sig1 (x:Int):Int:=D1 .xor .u32 (D1 .xor .u32 (Nx x 17) (Nx x 19)) (shrI .u32 x 10)
def sig0 (x:Int):Int:=D1 .xor .u32 (D1 .xor .u32 (Nx x 7) (Nx x 18)) (shrI .u32 x 3)
def extI (w:List Int) (t:Nat):Int:=Fk (Fk (Fk (sig1 (wAt w (t - 2))+wAt w (t - 7))+sig0 (wAt w (t - 15)))+wAt w (t - 16))
def sched (m:Ai) (p:Nat):Nat→List Int
 |0=>[]
 |t+1=>sched m p t++[if t<16 then R9 m (p+4*t) 4 else extI (sched m p t) t]
theorem Fo (m:Ai) (p:Nat):∀t,(sched m p t).length=t
 |0=>rfl
 |t+1=>by simp[sched,Fo m p t]
structure H8 where
 (a b c d e f g i:Int)
def H8.l (h:H8):List Int:=[h.a,h.b,h.c,h.d,h.e,h.f,h.g,h.i]
def rnd1 (h:H8) (k w:Int):Int:=
 Fk (Fk (Fk (Fk (h.i+D1 .xor .u32 (D1 .xor .u32 (Nx h.e 6) (Nx h.e 11)) (Nx h.e 25))+D1 .xor .u32 (D1 .and .u32 h.e h.f) (D1 .and .u32 (D1 .xor .u32 4294967295 h.e) h.g))+k)+w)
def rnd2 (h:H8):Int:=Fk (D1 .xor .u32 (D1 .xor .u32 (Nx h.a 2) (Nx h.a 13)) (Nx h.a 22)+D1 .xor .u32 (D1 .xor .u32 (D1 .and .u32 h.a h.b) (D1 .and .u32 h.a h.c)) (D1 .and .u32 h.b h.c))
def rnd (h:H8) (k w:Int):H8:=⟨Fk (rnd1 h k w+rnd2 h),h.a,h.b,h.c,Fk (h.d+rnd1 h k w),h.e,h.f,h.g⟩
def rnds (w:List Int) (h:H8):Nat→H8
 |0=>h
 |t+1=>rnd (rnds w h t) (wAt kays t) (wAt w t)
def addH (x y:H8):H8:=⟨Fk (x.a+y.a),Fk (x.b+y.b),Fk (x.c+y.c),Fk (x.d+y.d),Fk (x.e+y.e),Fk (x.f+y.f),Fk (x.g+y.g),Fk (x.i+y.i)⟩
def S8 (m:Ai) (p:Nat) (h:H8):H8:=addH h (rnds (sched m p 64) h 64)
def H0:H8:=⟨0x6a09e667,0xbb67ae85,0x3c6ef372,0xa54ff53a,0x510e527f,0x9b05688c,0x1f83d9ab,0x5be0cd19⟩
def blocks (m:Ai):Nat→H8
 |0=>H0
 |n+1=>S8 m (64*n) (blocks m n)
def zeros (n:Nat):Nat:=(119 - n % 64) % 64
def padB (s:Ai):Ai:=s++[128]++List.replicate (zeros s.length) 0++numB (8*s.length) 8
def outB (h:H8) (t:Nat):Ai:=(h.l.take t).flatMap fun x=>numB x.toNat 4
def sumB (s:Ai):Ai:=outB (blocks (padB s) ((padB s).length / 64)) 8
theorem Aoy (n:Int):0≤Fk n∧Fk n<4294967296:=by unfold Fk;rw[wrap_u32];omega
theorem Am3 (s:Ai):(padB s).length=64*((padB s).length / 64):=by
 simp only[padB,List.length_append,List.length_replicate,D4,zeros,List.length_singleton]
 omega
def Eb (l:List Ai):Ai:=l.flatMap fun s=>numB s.length 8++s
def Ct (h:H8) (m:Ai):Nat→H8
 |0=>h
 |n+1=>S8 m (64*n) (Ct h m n)

open Go.Op
theorem Bgn (op:BinOp) (x y:Nat) (hx:x<4294967296) (hy:y<4294967296):D1 .or .u32 (x:Int) (y:Int)=((x ||| y:Nat):Int):=by
 have h1:(BitVec.ofInt 32 (x:Int)).toNat=x:=by rw[BitVec.ofInt_natCast,BitVec.toNat_ofNat];exact Nat.mod_eq_of_lt hx
 have h2:(BitVec.ofInt 32 (y:Int)).toNat=y:=by rw[BitVec.ofInt_natCast,BitVec.toNat_ofNat];exact Nat.mod_eq_of_lt hy
 show IntKind.u32.wrap (((BitVec.ofInt 32 (x:Int)) ||| (BitVec.ofInt 32 (y:Int))).toNat:Int)=_
 rw[BitVec.toNat_or,h1,h2,wrap_u32]
 have:x ||| y<2^32:=Nat.or_lt_two_pow (by omega) (by omega)
 omega
theorem As0 (a y s:Nat) (hy:y<2^s) (hl:a*2^s+y<4294967296):D1 .or .u32 ((a*2^s:Nat):Int) (y:Int)=((a*2^s+y:Nat):Int):=by
 rw[Bgn .or _ _ (by omega) (by omega), ←Nat.shiftLeft_eq, ←Nat.shiftLeft_add_eq_or_of_lt hy]
theorem Bba (x y:Int):D1 .or .u32 x y=D1 .or .u32 y x:=by
 unfold D1
 simp only[BitVec.or_comm]
def Arr (m:Ai) (p:Nat):Int:=D1 .or .u32 (D1 .or .u32 (D1 .or .u32 (shlI .u32 (Fk (F9 m p)) 24) (shlI .u32 (Fk (F9 m (p+1))) 16)) (shlI .u32 (Fk (F9 m (p+2))) 8)) (Fk (F9 m (p+3)))
theorem Aa5 (m:Ai) (p:Nat):∃b:Nat,F9 m p=(b:Int)∧b<256:=⟨_,rfl,(m.getD p 0).toNat_lt⟩
theorem A2j (m:Ai) (p:Nat):Arr m p=R9 m p 4:=by
 obtain⟨b0,e0,h0⟩:=Aa5 m p
 obtain⟨b1,e1,h1⟩:=Aa5 m (p+1)
 obtain⟨b2,e2,h2⟩:=Aa5 m (p+2)
 obtain⟨b3,e3,h3⟩:=Aa5 m (p+3)
 have hw:∀b:Nat,b<4294967296→Fk (b:Int)=(b:Int):=fun b h=>by unfold Fk;rw[wrap_u32];omega
 have hs:∀b k:Nat,b*2^k<4294967296→k≤32→shlI .u32 (b:Int) (k:Int)=((b*2^k:Nat):Int):=fun b k h hk=>by
  show Fk ((b:Int)*2^(min (Int.toNat (k:Int)) 32))=_
  rw[Int.toNat_natCast,Nat.min_eq_left hk]
  have:(b:Int)*2^k=((b*2^k:Nat):Int):=by push_cast;rfl
  rw[this]
  exact hw _ h
 have c1:=As0 b0 (b1*65536) 24 (by omega) (by omega)
 have c2:=As0 (b0*256+b1) (b2*256) 16 (by omega) (by omega)
 have c3:=As0 (b0*65536+b1*256+b2) b3 8 (by omega) (by omega)
 have s0:=hs b0 24 (by omega) (by omega)
 have s1:=hs b1 16 (by omega) (by omega)
 have s2:=hs b2 8 (by omega) (by omega)
 have l:Arr m p=((b0*16777216+b1*65536+b2*256+b3:Nat):Int):=by
  unfold Arr
  rw[e0,e1,e2,e3,hw b0 (by omega),hw b1 (by omega),hw b2 (by omega),hw b3 (by omega)]
  rw[show((24:Int))=((24:Nat):Int)from rfl,s0,show((16:Int))=((16:Nat):Int)from rfl,s1,show((8:Int))=((8:Nat):Int)from rfl,s2]
  rw[show b1*2^16=b1*65536 from rfl,c1,show b0*2^24+b1*65536=(b0*256+b1)*2^16 by omega,show b2*2^8=b2*256 from rfl,c2,
   show(b0*256+b1)*2^16+b2*256=(b0*65536+b1*256+b2)*2^8 by omega,c3]
 rw[l]
 simp only[R9,Nat.add_zero,e0,e1,e2,e3,Fk,wrap_u32]
 omega
def padW (l:List Int):List Int:=l++List.replicate (64 - l.length) 0
theorem Vp {l:List Int} (h:l.length≤64):(padW l).length=64:=by simp[padW];omega
theorem P9 {l:List Int} {k:Nat} {x:Int} (h:l[k]?=some x):(padW l)[k]?=some x:=by
 rw[padW,List.getElem?_append_left (by rw[List.getElem?_eq_some_iff]at h;exact h.1)]
 exact h
theorem Ag9 {l:List Int} {x:Int} (h:l.length<64):(padW l).set l.length x=padW (l++[x]):=by
 obtain⟨k,hk⟩:∃k,64 - l.length=k+1:=⟨63 - l.length,by omega⟩
 have hk':64 - (l++[x]).length=k:=by simp;omega
 rw[padW,padW,hk,hk',List.set_append_right _ _ (Nat.le_refl _),Nat.sub_self,List.replicate_succ,List.set_cons_zero,List.append_assoc]
 rfl
theorem A4k (w:List Int) (t:Nat):Fk (Fk (Fk (wAt w (t - 16)+sig0 (wAt w (t - 15)))+wAt w (t - 7))+sig1 (wAt w (t - 2)))=extI w t:=by
 unfold extI Fk
 simp only[wrap_u32]
 omega
abbrev u32s (l:List Int):I:=.arr 1 (l.map (I.int .u32))
theorem Jt {l:List Int} {k:Nat} {x:Int} (h:l[k]?=some x):(SV.box (T.one (F.i (u32s l)))).hit 0 ([]++[Int.toNat (k:Int)])=some (k*1,.item (.int .u32 x)):=by
 show hitI 0 ((u32s l).sub [Int.toNat (k:Int)])=_
 rw[Int.toNat_natCast]
 simp[I.sub,hitI,h]
theorem Aku {l:List Int} {k:Nat} {x:Int} (h:l[k]?=some x) (y:Int):(u32s l).put ([]++[Int.toNat (k:Int)]) (.int .u32 y)=u32s (l.set k y):=by
 rw[Int.toNat_natCast]
 simp[I.put,h]
set_option maxHeartbeats 8000000

open Go.Proofs
def rotS (k:Int):Int:=D1 .and .u64 (IntKind.u64.wrap k) 31
def rotI (x k:Int):Int:=D1 .or .u32 (shlI .u32 x (rotS k)) (shrI .u32 x (IntKind.u64.wrap (32 - rotS k)))
theorem Arm (n:Int):0≤IntKind.u64.wrap n:=by rw[wrap_u64];omega
theorem A3d (k:Int):0≤D1 .and .u64 (IntKind.u64.wrap k) 31:=by unfold D1;exact Arm _
theorem Be3 (x k:Int):Fn Tryz.prog N5 [.v (.int .u32 x),.v (.int .i64 k)] (Is (.v (.int .u32 (rotI x k))) [.no,.no]):=by
 refine Xs ?_ (by simp)
 have h1:=A3d k
 have h2:=Arm (32 - D1 .and .u64 (IntKind.u64.wrap k) 31)
 repeat'((conv=>whnf);(refine eI ?_ ?_;focus (and_intros<;>first|omega|exact rfl)))
 all_goals(try(conv=>whnf))
 exact Done.mk ⟨rfl,by kernel_rfl⟩ (by kernel_rfl)
theorem Beu {x k j:Int} (h1:rotS k=32 - j) (h2:0≤j∧j≤32):rotI x k=Nx x j:=by
 unfold rotI Nx
 rw[h1,show 32 - (32 - j)=j by omega,Bba,wrap_u64,wrap_u64,Int.emod_eq_of_lt (by omega) (by omega),Int.emod_eq_of_lt (by omega) (by omega)]
theorem Fj (x k j:Int) (h1:rotS k=32 - j:=by decide) (h2:0≤j∧j≤32:=by decide):Fn Tryz.prog N5 [.v (.int .u32 x),.v (.int .i64 k)] (Is (.v (.int .u32 (Nx x j))) [.no,.no]):=by
 rw[←Beu h1 h2]
 exact Be3 x k
theorem Akg:Fn Tryz.prog Avj [] (Is (.v (u32s kays)) []):=by
 refine Ass ?_ (by simp)
 repeat'((conv=>whnf);(refine eI ?_ ?_;focus (and_intros<;>first|omega|exact rfl|exact B8 (by rfl))))
 all_goals(try(conv=>whnf))
 (apply dK<;>kernel_rfl)
theorem A30:Fn Tryz.prog Aw7 [] (Is (.v (u32s H0.l)) []):=by
 refine Av4 ?_ (by simp)
 repeat'((conv=>whnf);(refine eI ?_ ?_;focus (and_intros<;>first|omega|exact rfl|exact B8 (by rfl))))
 all_goals(try(conv=>whnf))
 (apply dK<;>kernel_rfl)
structure Strm where
 (w:H8) (e:TypeId) (rest:Ai) (size:Int)
abbrev Strm.toD (s:Strm):D:=.ptr (.st [.it (u32s s.w.l),.vec s.e 1 ((s.rest.map Cr).map D.it),.it (.int .u64 s.size)])
theorem Bcf:Fn Tryz.prog Aov [] (Is (.own [] (Strm.toD ⟨H0,Bgk,[],0⟩)) []):=by
 refine A0b ?_ (by simp)
 repeat'((conv=>whnf);first|(refine eI ?_ ?_;focus (and_intros<;>first|exact rfl|(intro _ hh;cases hh;done)|decide))|(refine CallWp.mk ⟨_,A30,?_⟩;rintro _ _ ⟨rfl,rfl⟩))
 all_goals(try(conv=>whnf))
 (apply dK<;>kernel_rfl)

open Go.Proofs
abbrev byD (l:Ai):List D:=(l.map Cr).map D.it
def ee (e n:Nat):Nat:=if n=0 then e else if e<1000000 then e+1000000 else e
theorem A4i (e n:Nat):(if ee e n<1000000 then ee e n+1000000 else ee e n)=ee e (n+1):=by
 unfold ee;by_cases h:n=0<;>by_cases g:e<1000000<;>simp[h,g]<;>omega
def addN (x y:H8) (j:Nat):H8:=⟨if 0<j then Fk (x.a+y.a)else x.a,if 1<j then Fk (x.b+y.b)else x.b,if 2<j then Fk (x.c+y.c)else x.c,if 3<j then Fk (x.d+y.d)else x.d,
 if 4<j then Fk (x.e+y.e)else x.e,if 5<j then Fk (x.f+y.f)else x.f,if 6<j then Fk (x.g+y.g)else x.g,if 7<j then Fk (x.i+y.i)else x.i⟩
def Strm.write (s:Strm) (t:Ai):Strm:=
 let n:=(s.rest++t).length / 64
 ⟨Ct s.w (s.rest++t) n,ee s.e n,(s.rest++t).drop (64*n),IntKind.u64.wrap (s.size+IntKind.u64.wrap (t.length:Int))⟩
set_option pp.maxSteps 100000 in
set_option pp.deepTerms true in
theorem A81 (s:Strm) (tx:Ai) (he:s.e<1000000→s.e=5) (hl:s.rest.length+tx.length≤100000000):
 Fn Tryz.prog T8 [.own [] (Strm.toD s),.v (.str tx)] (Is (resD []) [.own [] (s.write tx).toD,.no]):=by
 refine Afn ?_ (by simp)
 unfold Strm.write
 obtain⟨w,e,rest,size⟩:=s
 simp only at he hl ⊢
 have e1:((rest.map Cr).length+(tx.map Cr).length)*1≤140737488355328:=by simp only[List.length_map];omega
 have e2:(rest.map Cr).length+(tx.map Cr).length≤maxLen:=by simp only[List.length_map,maxLen];omega
 repeat'((conv=>whnf);first|(apply aI<;>intro hb<;>first|exact absurd hb (by decide)|((try rw[hb]);(try simp only[Ad]at hb)))|(refine eI ?_ ?_;focus (and_intros<;>first|omega|exact rfl|exact size_map (fun _=>rfl)|(simp;done)))|(intro hfact)|((try dsimp only);rw[Pe]))
 all_goals(try(conv=>whnf))
 have hBl:(rest++tx).length=rest.length+tx.length:=List.length_append
 rw[←hBl]at hl
 rw[show List.map Cr rest++List.map Cr tx=List.map Cr (rest++tx)from List.map_append.symm]
 obtain⟨B,hB⟩:∃B,B=rest++tx:=⟨_,rfl⟩
 rw[←hB]at hBl hl ⊢
 obtain⟨z,hz⟩:∃z,z=IntKind.u64.wrap (size+IntKind.u64.wrap (tx.length:Int)):=⟨_,rfl⟩
 rw[←hz]
 clear e1 e2 hB hz
 refine LoopWq.by (X:=Nat) (fun n=>[(48,.own [] (Strm.toD ⟨Ct w B n,ee e n,B.drop (64*n),z⟩))]) (fun n=>64*n≤B.length) (fun n=>B.length - 64*n)
  0 (by kernel_rfl) (by omega) ?_
 intro n hn
 obtain⟨R,hR⟩:∃R,R=B.drop (64*n):=⟨_,rfl⟩
 have hRl:R.length=B.length - 64*n:=by rw[hR,List.length_drop]
 rw[←hR]
 by_cases hnN:64≤R.length
 case neg=>
  have hlt:¬decide ((64:Int)≤((R.map Cr).length:Int))=true:=by simp;omega
  repeat'((conv=>whnf);first|(apply aI<;>intro hb<;>first|(exfalso;simp only[Az]at hb<;>omega)|((try rw[hb]);(try simp only[Ad]at hb)))|(refine eI ?_ ?_;focus (and_intros<;>first|omega|exact rfl|(simp;done)))|(intro hfact))
  all_goals(try(conv=>whnf))
  have hn':n=B.length / 64:=by omega
  subst hn'
  rw[←hR]
  (apply dK<;>kernel_rfl)
 have hlt:¬decide ((64:Int)≤((R.map Cr).length:Int))=false:=by simp;omega
 repeat'((conv=>whnf);first|(apply aI<;>intro hb<;>first|(exfalso;simp only[Az]at hb<;>omega)|((try rw[hb]);(try simp only[Ad]at hb)))|(refine eI ?_ ?_;focus (and_intros<;>first|omega|exact rfl|(simp only[Az];omega)|(simp;done)))|(intro hfact)|((with_reducible apply Drawn.by0);(focus kernel_rfl);intro hfact;(try simp only[dRS]at hfact)))
 all_goals(try(conv=>whnf))
 refine Uf ?_ (by decide)
 (conv=>whnf)
 all_goals(try(conv=>whnf))
 refine LoopWq.by (X:=Nat) (fun i=>[(4,.box (.one (.i (u32s (padW (sched B (64*n) i)))))),(17,.v (.int .i64 i))]) (fun i=>i≤16) (fun i=>16 - i)
  0 (by kernel_rfl) (by omega) ?_
 intro i hi
 by_cases hi16:i<16
 case pos=>
  have hlt1:¬decide ((i:Int)<16)=false:=by simp;omega
  have w0:IntKind.i64.wrap (4*(i:Int))=((4*i:Nat):Int):=by
   rw[show 4*(i:Int)=((4*i:Nat):Int)by omega];exact Cf (by omega)
  have w1:IntKind.i64.wrap (((4*i:Nat):Int)+1)=((4*i+1:Nat):Int):=by
   rw[show((4*i:Nat):Int)+1=((4*i+1:Nat):Int)by omega];exact Cf (by omega)
  have w2:IntKind.i64.wrap (((4*i:Nat):Int)+2)=((4*i+2:Nat):Int):=by
   rw[show((4*i:Nat):Int)+2=((4*i+2:Nat):Int)by omega];exact Cf (by omega)
  have w3:IntKind.i64.wrap (((4*i:Nat):Int)+3)=((4*i+3:Nat):Int):=by
   rw[show((4*i:Nat):Int)+3=((4*i+3:Nat):Int)by omega];exact Cf (by omega)
  have g:∀k:Nat,k<64→(List.map D.it (List.map Cr R))[Int.toNat 0+Int.toNat (k:Int)]?=some (.it (.int .u8 (F9 B (64*n+k)))):=fun k hk=>by
   obtain⟨b,hb⟩:∃b,R[k]?=some b:=⟨_,List.getElem?_eq_getElem (by omega)⟩
   have hb':B[64*n+k]?=some b:=by rw[←hb,hR,List.getElem?_drop]
   rw[Int.toNat_natCast,show Int.toNat 0+k=k by simp,List.getElem?_map,List.getElem?_map,hb,F9,List.getD_eq_getElem?_getD,hb']
   rfl
  have gD:∀(k:Nat) (_:k<64) (h8:H8) (e':Nat),D.at [0,1,Int.toNat 0+Int.toNat (k:Int)] (Strm.toD ⟨h8,e',R,z⟩)=some (.it (.int .u8 (F9 B (64*n+k)))):=fun k hk h8 e'=>by
   show(match(List.map D.it (List.map Cr R))[Int.toNat 0+Int.toNat (k:Int)]? with|some y=>D.at [] y|none=>none)=_
   rw[g k hk]
   rfl
  have hsl:=Fo B (64*n) i
  obtain⟨v0,hv0⟩:∃v0,(padW (sched B (64*n) i))[i]?=some v0:=⟨_,List.getElem?_eq_getElem (by rw[Vp (by omega)];omega)⟩
  have hh:=Jt hv0
  have hp:=Aku hv0
  repeat'((conv=>whnf);first|(apply aI<;>intro hb<;>first|exact absurd hb (by assumption)|((try rw[hb]);(try simp only[Ad]at hb)))|(refine eI ?_ ?_;focus (and_intros<;>first|omega|exact rfl|(simp;done)))|((with_reducible apply Drawn.by0);(focus kernel_rfl);intro hfact;(try simp only[dRS]at hfact))|((try dsimp only);rw[w0])|((try dsimp only);rw[w1])|((try dsimp only);rw[w2])|((try dsimp only);rw[w3])|(refine D9 rfl (gD _ (by omega) _ _) rfl ?_)|((try dsimp only);rw[hh]))
  all_goals(try(conv=>whnf))
  have hset:padW (sched B (64*n) (i+1))=(padW (sched B (64*n) i)).set i (Arr B (64*n+4*i)):=by
   rw[sched,if_pos hi16, ←A2j, ←Ag9 (by rw[hsl];omega),hsl]
  refine Round.by (i+1) ?_ (by omega) (by omega)
  rw[Ak hi16 (by simp only[maxLen];omega),hset,hp]
  show norm _ _=upd _ _
  kernel_rfl
 have hlt1:¬decide ((i:Int)<16)=true:=by simp;omega
 have hi':i=16:=by omega
 subst hi'
 clear hlt1 hi hi16
 repeat'((conv=>whnf);(apply aI<;>intro hb<;>first|exact absurd hb (by decide)|((try rw[hb]);(try simp only[Ad]at hb))))
 all_goals(try(conv=>whnf))
 refine LoopWq.by (X:=Nat) (fun t=>[(4,.box (.one (.i (u32s (padW (sched B (64*n) t)))))),(6,.v (.int .i64 t))]) (fun t=>16≤t∧t≤64) (fun t=>64 - t)
  16 (by kernel_rfl) (by omega) ?_
 rintro t ⟨ht1,ht2⟩
 by_cases ht64:t<64
 case pos=>
  have hlt1:¬decide ((t:Int)<64)=false:=by simp;omega
  have hsl:=Fo B (64*n) t
  have hset:padW (sched B (64*n) (t+1))=(padW (sched B (64*n) t)).set t (extI (sched B (64*n) t) t):=by
   rw[sched,if_neg (by omega), ←Ag9 (by rw[hsl];omega),hsl]
  rw[←A4k]at hset
  obtain⟨w,hw⟩:∃w,w=sched B (64*n) t:=⟨_,rfl⟩
  rw[←hw]at hsl hset ⊢
  have g:∀j,j<t→w[j]?=some (wAt w j):=fun j hj=>by
   rw[wAt,List.getD_eq_getElem?_getD,List.getElem?_eq_getElem (by omega)];rfl
  have hwr:∀j:Nat,j≤t→IntKind.i64.wrap ((t:Int) - (j:Int))=((t - j:Nat):Int):=fun j hj=>by
   rw[show(t:Int) - (j:Int)=((t - j:Nat):Int)by omega];exact Cf (by omega)
  have w2:IntKind.i64.wrap ((t:Int) - 2)=((t - 2:Nat):Int):=hwr 2 (by omega)
  have w7:IntKind.i64.wrap ((t:Int) - 7)=((t - 7:Nat):Int):=hwr 7 (by omega)
  have w15:IntKind.i64.wrap ((t:Int) - 15)=((t - 15:Nat):Int):=hwr 15 (by omega)
  have w16:IntKind.i64.wrap ((t:Int) - 16)=((t - 16:Nat):Int):=hwr 16 (by omega)
  have h2:=Jt (P9 (g (t - 2) (by omega)))
  have h7:=Jt (P9 (g (t - 7) (by omega)))
  have h15:=Jt (P9 (g (t - 15) (by omega)))
  have h16:=Jt (P9 (g (t - 16) (by omega)))
  obtain⟨v0,hv0⟩:∃v0,(padW w)[t]?=some v0:=⟨_,List.getElem?_eq_getElem (by rw[Vp (by omega)];omega)⟩
  have hh:=Jt hv0
  have hp:=Aku hv0
  repeat'((conv=>whnf);first|(apply aI<;>intro hb<;>first|exact absurd hb (by assumption)|((try rw[hb]);(try simp only[Ad]at hb)))|(refine eI ?_ ?_;focus (and_intros<;>first|omega|exact rfl|(intro _ hh;cases hh;done)|(simp;done)|decide))|((with_reducible apply Drawn.by0);(focus kernel_rfl);intro hfact;(try simp only[dRS]at hfact))|((try dsimp only);rw[w2])|((try dsimp only);rw[w7])|((try dsimp only);rw[w15])|((try dsimp only);rw[w16])|((try dsimp only);rw[h2])|((try dsimp only);rw[h7])|((try dsimp only);rw[h15])|((try dsimp only);rw[h16])|((try dsimp only);rw[hh])|(refine CallWp.mk ⟨_,Fj _ (-7) 7,?_⟩;rintro _ _ ⟨rfl,rfl⟩)|(refine CallWp.mk ⟨_,Fj _ (-18) 18,?_⟩;rintro _ _ ⟨rfl,rfl⟩)|(refine CallWp.mk ⟨_,Fj _ (-17) 17,?_⟩;rintro _ _ ⟨rfl,rfl⟩)|(refine CallWp.mk ⟨_,Fj _ (-19) 19,?_⟩;rintro _ _ ⟨rfl,rfl⟩))
  all_goals(try(conv=>whnf))
  refine Round.by (t+1) ?_ ⟨by omega,ht64⟩ (by omega)
  rw[Ak ht64 (by simp only[maxLen];omega),hset,hp]
  show norm _ _=upd _ _
  kernel_rfl
 have hlt1:¬decide ((t:Int)<64)=true:=by simp;omega
 have ht':t=64:=by omega
 subst ht'
 have hsl:=Fo B (64*n) 64
 have hpd:padW (sched B (64*n) 64)=sched B (64*n) 64:=by rw[padW,hsl];exact List.append_nil _
 rw[hpd]
 have hnext:Ct w B (n+1)=addH (Ct w B n) (rnds (sched B (64*n) 64) (Ct w B n) 64):=rfl
 obtain⟨W,hW⟩:∃W,W=sched B (64*n) 64:=⟨_,rfl⟩
 rw[←hW]at hsl hnext ⊢
 obtain⟨H,hH⟩:∃H,H=Ct w B n:=⟨_,rfl⟩
 rw[←hH]at hnext ⊢
 clear hpd hlt1 ht1 ht2 ht64
 repeat'((conv=>whnf);first|(apply aI<;>intro hb<;>first|exact absurd hb (by decide)|((try rw[hb]);(try simp only[Ad]at hb)))|(refine eI ?_ ?_;focus (and_intros<;>first|omega|exact rfl|(intro _ hh;cases hh;done)|(simp;done)|decide))|(refine CallWp.mk ⟨_,Akg,?_⟩;rintro _ _ ⟨rfl,rfl⟩))
 all_goals(try(conv=>whnf))
 refine LoopWq.by (X:=Nat) (fun t=>[(9,.box (.one (.i (u32s (rnds W H t).l)))),(103,.v (.int .i64 t))]) (fun t=>t≤64) (fun t=>64 - t)
  0 (by kernel_rfl) (by omega) ?_
 intro t ht
 by_cases ht64:t<64
 case pos=>
  have hlt1:¬decide ((t:Int)<64)=false:=by simp;omega
  have hgk:kays[t]?=some (wAt kays t):=by
   rw[wAt,List.getD_eq_getElem?_getD,List.getElem?_eq_getElem (show t<kays.length from ht64)];rfl
  have hgw:W[t]?=some (wAt W t):=by
   rw[wAt,List.getD_eq_getElem?_getD,List.getElem?_eq_getElem (by omega)];rfl
  have hh:=Jt hgw
  have hr:rnds W H (t+1)=rnd (rnds W H t) (wAt kays t) (wAt W t):=rfl
  obtain⟨Q,hQ⟩:∃R,R=rnds W H t:=⟨_,rfl⟩
  rw[←hQ]at hr ⊢
  obtain⟨kt,hkt⟩:∃k,k=wAt kays t:=⟨_,rfl⟩
  rw[←hkt]at hr hgk
  obtain⟨wt,hwt⟩:∃k,k=wAt W t:=⟨_,rfl⟩
  rw[←hwt]at hr hh
  clear hQ hkt hwt
  repeat'((conv=>whnf);first|(apply aI<;>intro hb<;>first|exact absurd hb (by assumption)|((try rw[hb]);(try simp only[Ad]at hb)))|(refine eI ?_ ?_;focus (and_intros<;>first|omega|exact rfl|(intro _ hh;cases hh;done)|exact B8 (by rfl)|(simp;done)|decide))|((with_reducible apply Drawn.by0);(focus kernel_rfl);intro hfact;(try simp only[dRS]at hfact))|((try dsimp only);first|rw[Av hgk]|rw[An hgk]|rw[Ap hgk])|((try dsimp only);rw[hh])|(refine CallIs.mk ⟨_,_,Fj _ (-6) 6,?_⟩)|(refine CallIs.mk ⟨_,_,Fj _ (-11) 11,?_⟩)|(refine CallIs.mk ⟨_,_,Fj _ (-25) 25,?_⟩)|(refine CallIs.mk ⟨_,_,Fj _ (-2) 2,?_⟩)|(refine CallIs.mk ⟨_,_,Fj _ (-13) 13,?_⟩)|(refine CallIs.mk ⟨_,_,Fj _ (-22) 22,?_⟩))
  all_goals(try(conv=>whnf))
  refine Round.by (t+1) ?_ (by omega) (by omega)
  rw[Ak ht64 (by simp only[maxLen];omega),hr]
  show norm _ _=upd _ _
  kernel_rfl
 have hlt1:¬decide ((t:Int)<64)=true:=by simp;omega
 have ht':t=64:=by omega
 subst ht'
 clear hlt1 ht ht64
 obtain⟨Q,hQ⟩:∃R,R=rnds W H 64:=⟨_,rfl⟩
 rw[←hQ]at hnext ⊢
 repeat'((conv=>whnf);(apply aI<;>intro hb<;>first|exact absurd hb (by decide)|((try rw[hb]);(try simp only[Ad]at hb))))
 all_goals(try(conv=>whnf))
 refine LoopWq.by (X:=Nat) (fun j=>[(245,.own [] (Strm.toD ⟨addN H Q j,ee e n,R,z⟩)),(182,.v (.int .i64 j))]) (fun j=>j≤8) (fun j=>8 - j)
  0 (by kernel_rfl) (by omega) ?_
 intro j hj
 by_cases hj8:j<8
 case pos=>
  have hj':j=0∨j=1∨j=2∨j=3∨j=4∨j=5∨j=6∨j=7:=by omega
  clear hj hj8
  rcases hj' with rfl|rfl|rfl|rfl|rfl|rfl|rfl|rfl
  ·repeat'((conv=>whnf);first|(apply aI<;>intro hb<;>first|exact absurd hb (by decide)|((try rw[hb]);(try simp only[Ad]at hb)))|(refine eI ?_ ?_;focus (and_intros<;>first|omega|exact rfl|(simp;done)))|((with_reducible apply Drawn.by0);(focus kernel_rfl);intro hfact;(try simp only[dRS]at hfact))|((refine Exists.intro ⟨by omega,by omega,(show(_:Nat)<8 from by omega),rfl,by simp⟩ ?_)))
   all_goals(try(conv=>whnf))
   refine Round.by 1 ?_ (by omega) (by omega)
   show norm _ _=upd _ _
   kernel_rfl
  ·repeat'((conv=>whnf);first|(apply aI<;>intro hb<;>first|exact absurd hb (by decide)|((try rw[hb]);(try simp only[Ad]at hb)))|(refine eI ?_ ?_;focus (and_intros<;>first|omega|exact rfl|(simp;done)))|((with_reducible apply Drawn.by0);(focus kernel_rfl);intro hfact;(try simp only[dRS]at hfact))|((refine Exists.intro ⟨by omega,by omega,(show(_:Nat)<8 from by omega),rfl,by simp⟩ ?_)))
   all_goals(try(conv=>whnf))
   refine Round.by 2 ?_ (by omega) (by omega)
   show norm _ _=upd _ _
   kernel_rfl
  ·repeat'((conv=>whnf);first|(apply aI<;>intro hb<;>first|exact absurd hb (by decide)|((try rw[hb]);(try simp only[Ad]at hb)))|(refine eI ?_ ?_;focus (and_intros<;>first|omega|exact rfl|(simp;done)))|((with_reducible apply Drawn.by0);(focus kernel_rfl);intro hfact;(try simp only[dRS]at hfact))|((refine Exists.intro ⟨by omega,by omega,(show(_:Nat)<8 from by omega),rfl,by simp⟩ ?_)))
   all_goals(try(conv=>whnf))
   refine Round.by 3 ?_ (by omega) (by omega)
   show norm _ _=upd _ _
   kernel_rfl
  ·repeat'((conv=>whnf);first|(apply aI<;>intro hb<;>first|exact absurd hb (by decide)|((try rw[hb]);(try simp only[Ad]at hb)))|(refine eI ?_ ?_;focus (and_intros<;>first|omega|exact rfl|(simp;done)))|((with_reducible apply Drawn.by0);(focus kernel_rfl);intro hfact;(try simp only[dRS]at hfact))|((refine Exists.intro ⟨by omega,by omega,(show(_:Nat)<8 from by omega),rfl,by simp⟩ ?_)))
   all_goals(try(conv=>whnf))
   refine Round.by 4 ?_ (by omega) (by omega)
   show norm _ _=upd _ _
   kernel_rfl
  ·repeat'((conv=>whnf);first|(apply aI<;>intro hb<;>first|exact absurd hb (by decide)|((try rw[hb]);(try simp only[Ad]at hb)))|(refine eI ?_ ?_;focus (and_intros<;>first|omega|exact rfl|(simp;done)))|((with_reducible apply Drawn.by0);(focus kernel_rfl);intro hfact;(try simp only[dRS]at hfact))|((refine Exists.intro ⟨by omega,by omega,(show(_:Nat)<8 from by omega),rfl,by simp⟩ ?_)))
   all_goals(try(conv=>whnf))
   refine Round.by 5 ?_ (by omega) (by omega)
   show norm _ _=upd _ _
   kernel_rfl
  ·repeat'((conv=>whnf);first|(apply aI<;>intro hb<;>first|exact absurd hb (by decide)|((try rw[hb]);(try simp only[Ad]at hb)))|(refine eI ?_ ?_;focus (and_intros<;>first|omega|exact rfl|(simp;done)))|((with_reducible apply Drawn.by0);(focus kernel_rfl);intro hfact;(try simp only[dRS]at hfact))|((refine Exists.intro ⟨by omega,by omega,(show(_:Nat)<8 from by omega),rfl,by simp⟩ ?_)))
   all_goals(try(conv=>whnf))
   refine Round.by 6 ?_ (by omega) (by omega)
   show norm _ _=upd _ _
   kernel_rfl
  ·repeat'((conv=>whnf);first|(apply aI<;>intro hb<;>first|exact absurd hb (by decide)|((try rw[hb]);(try simp only[Ad]at hb)))|(refine eI ?_ ?_;focus (and_intros<;>first|omega|exact rfl|(simp;done)))|((with_reducible apply Drawn.by0);(focus kernel_rfl);intro hfact;(try simp only[dRS]at hfact))|((refine Exists.intro ⟨by omega,by omega,(show(_:Nat)<8 from by omega),rfl,by simp⟩ ?_)))
   all_goals(try(conv=>whnf))
   refine Round.by 7 ?_ (by omega) (by omega)
   show norm _ _=upd _ _
   kernel_rfl
  ·repeat'((conv=>whnf);first|(apply aI<;>intro hb<;>first|exact absurd hb (by decide)|((try rw[hb]);(try simp only[Ad]at hb)))|(refine eI ?_ ?_;focus (and_intros<;>first|omega|exact rfl|(simp;done)))|((with_reducible apply Drawn.by0);(focus kernel_rfl);intro hfact;(try simp only[dRS]at hfact))|((refine Exists.intro ⟨by omega,by omega,(show(_:Nat)<8 from by omega),rfl,by simp⟩ ?_)))
   all_goals(try(conv=>whnf))
   refine Round.by 8 ?_ (by omega) (by omega)
   show norm _ _=upd _ _
   kernel_rfl
 have hj':j=8:=by omega
 subst hj'
 clear hj hj8
 have hlt1:¬decide ((8:Int)<8)=true:=by simp
 have hadd:addN H Q 8=addH H Q:=rfl
 rw[hadd, ←hnext]
 have hee:(if ee e n<1000000 then ee e n+1000000 else ee e n)=ee e (n+1):=A4i e n
 have hdr:List.drop (Int.toNat 64) (List.map Cr R)=List.map Cr (B.drop (64*(n+1))):=by
  rw[←List.map_drop,hR,List.drop_drop]
  congr 2
 repeat'((conv=>whnf);first|(apply aI<;>intro hb<;>first|exact absurd hb (by assumption)|((try rw[hb]);(try simp only[Ad]at hb)))|(refine eI ?_ ?_;focus (and_intros<;>first|omega|exact rfl|(simp only[Az];omega)|(simp;done)))|((try dsimp only);rw[Pe])|((try dsimp only);rw[hee])|((try dsimp only);rw[hdr]))
 all_goals(try(conv=>whnf))
 refine Round.by (n+1) ?_ (by omega) (by omega)
 show norm _ _=upd _ _
 kernel_rfl
end Go.Ab
