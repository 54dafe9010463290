/- Lemmas for the last text. -/
import Derived.Test.YtgcccllpegilnaaGreatDoorA3
import Derived.Shelf.Unicode.DecodeAny
set_option linter.unusedVariables false
set_option linter.unusedSimpArgs false
set_option maxRecDepth 100000
set_option maxHeartbeats 4000000
namespace Go.Ab
open Go.Proofs Go.Shelf
theorem decL:Lays.n197 Tryz.prog ⟨fun n=>if n=197 then 126 else if n=260 then 142 else n,fun n=>if n=46 then 145 else if n=105 then 167 else if n=119 then 186 else if n=138 then 188 else if n=139 then 189 else n,fun n=>if n=3 then 0 else 1⟩ where
 mixed:=by kernel_rfl
 f197:=by kernel_rfl
 f260:=by kernel_rfl
 t0:=by kernel_rfl
 a0:=fun _=>by kernel_rfl
 z0:=fun _=>by kernel_rfl
 v0:=fun _=>by kernel_rfl
 t3:=by kernel_rfl
 a3:=fun _=>by kernel_rfl
 z3:=fun _=>by kernel_rfl
 v3:=fun _=>by kernel_rfl
 t4:=by kernel_rfl
 a4:=fun _=>by kernel_rfl
 z4:=fun _=>by kernel_rfl
 v4:=fun _=>by kernel_rfl
 t5:=by kernel_rfl
 a5:=fun _=>by kernel_rfl
 z5:=fun _=>by kernel_rfl
 v5:=fun _=>by kernel_rfl
 t9:=by kernel_rfl
 a9:=fun _=>by kernel_rfl
 z9:=fun _=>by kernel_rfl
 v9:=fun _=>by kernel_rfl
 t21:=by kernel_rfl
 a21:=fun _=>by kernel_rfl
 z21:=fun _=>by kernel_rfl
 v21:=fun _=>by kernel_rfl
 t46:=by kernel_rfl
 a46:=fun _=>by kernel_rfl
 z46:=fun _=>by kernel_rfl
 v46:=fun _=>by kernel_rfl
 t105:=by kernel_rfl
 a105:=fun _=>by kernel_rfl
 z105:=fun _=>by kernel_rfl
 v105:=fun _=>by kernel_rfl
 t119:=by kernel_rfl
 a119:=fun _=>by kernel_rfl
 z119:=fun _=>by kernel_rfl
 t138:=by kernel_rfl
 a138:=fun _=>by kernel_rfl
 z138:=fun _=>by kernel_rfl
 v138:=fun _=>by kernel_rfl
 t139:=by kernel_rfl
 a139:=fun _=>by kernel_rfl
 z139:=fun _=>by kernel_rfl
 v139:=fun _=>by kernel_rfl
 g3:=by kernel_rfl
 g4:=by kernel_rfl
theorem Aie (s:Ad):Fn Tryz.prog Hb [.v (.str s)] (Is (.tup [.i (.int .i32 (Lib.decodeGo ⟨⟨s⟩⟩).1),.i (.int .i64 (Lib.decodeGo ⟨⟨s⟩⟩).2)]) [.no]):=by
 intro G σ Fr w cargs hok hcl hargs
 have hc0:RepV G (.str s) (cargs.getD 0 undef):=(hargs 0 _ rfl).2
 obtain⟨hc0,_⟩:=RepV.str.1 hc0
 have hca:cargs= #[.string ⟨⟨s⟩⟩]:=by
  rw[←hc0]
  apply Array.ext
  ·simpa using hcl
  ·intro j h1 h2
   have:j=0:=by simp at h2;omega
   subst this
   simp[Array.getD,h1]
 have hcall:=Any.utf8_DecodeRuneInString decL ⟨⟨s⟩⟩ w (hok.amb w hok.fixed)
 rw[hca]
 refine Calls.mono hcall ?_
 rintro e w' ⟨rfl,hb⟩
 have keep:∀(M:Mem),(∀b o,M b=some o→w.heap[b]?=some o)→∀b o,M b=some o→w'.heap[b]?=some o:=by
  intro M hM b o hm
  have h1:=hM b o hm
  rw[hb.block b (Array.getElem?_eq_some_iff.1 h1).1]
  exact h1
 refine⟨_,_,_,G,fun _=>none,rfl,⟨rfl,rfl⟩,Mem.le.refl G,⟨keep G hok.fixed,fun b lab h=>by(cases h),fun b b' lab h=>by(cases h),keep Fr hok.frame,hb.os,hb.tape,hb.output,hb.size,hok.apart,hok.amb⟩,rfl,⟨_,rfl,?_⟩,rfl,?_⟩
 ·exact⟨_,_,rfl,RepV.int.2 rfl,_,_,rfl,RepV.int.2 rfl,rfl⟩
 intro i sv hi
 have:sv= .no:=by
  have:=List.mem_of_getElem? hi
  simpa using this
 subst this
 exact⟨rfl,trivial⟩

open Go
theorem Ho (l:Ad) (k:Nat):(⟨⟨l⟩⟩:ByteArray).get! k=(l[k]?).getD 0:=by
 show(l.toArray)[k]! =_
 rw[List.getElem!_toArray,List.getElem!_eq_getElem?_getD]
 rfl
theorem Kh (s:Ad) (p:Nat):Cm s p=Cm (s.drop p) 0:=by
 have hg:∀k,(⟨⟨s⟩⟩:ByteArray).get! (p+k)=(⟨⟨s.drop p⟩⟩:ByteArray).get! (0+k):=fun k=>by
  rw[Ho,Ho,List.getElem?_drop,Nat.zero_add]
 have hs:∀k,decide (p+k<(⟨⟨s⟩⟩:ByteArray).size)=decide (0+k<(⟨⟨s.drop p⟩⟩:ByteArray).size):=fun k=>by
  show decide (p+k<s.length)=decide (0+k<(s.drop p).length)
  rw[List.length_drop]
  congr 1
  rw[eq_iff_iff]
  omega
 unfold Cm Utf8.decode
 simp only[hg,hs]
set_option maxHeartbeats 40000000

open Go.Proofs
def decN (n:Nat) (b0 b1 b2 b3:Nat):Nat × Nat:=
 if b0<128 then(b0,1)
 else if b0 / 32=6∧1<n∧b1 / 64=2 then
  if b0 % 32*64+b1 % 64≥128 then(b0 % 32*64+b1 % 64,2)else(65533,1)
 else if b0 / 16=14∧1<n∧b1 / 64=2∧2<n∧b2 / 64=2 then
  if b0 % 16*4096+b1 % 64*64+b2 % 64≥2048∧Utf8.valid ((b0 % 16*4096+b1 % 64*64+b2 % 64:Nat):Int)=true then(b0 % 16*4096+b1 % 64*64+b2 % 64,3)else(65533,1)
 else if b0 / 8=30∧1<n∧b1 / 64=2∧2<n∧b2 / 64=2∧3<n∧b3 / 64=2 then
  if b0 % 8*262144+b1 % 64*4096+b2 % 64*64+b3 % 64≥65536∧Utf8.valid ((b0 % 8*262144+b1 % 64*4096+b2 % 64*64+b3 % 64:Nat):Int)=true then(b0 % 8*262144+b1 % 64*4096+b2 % 64*64+b3 % 64,4)else(65533,1)
 else(65533,1)
def Cq (l:Ad) (k:Nat):Nat:=((l[k]?).getD 0).toNat
theorem Aqa (l:Ad):Cm l 0=decN l.length (Cq l 0) (Cq l 1) (Cq l 2) (Cq l 3):=by
 have hs:(⟨⟨l⟩⟩:ByteArray).size=l.length:=rfl
 have h0:((⟨⟨l⟩⟩:ByteArray).get! 0).toNat=Cq l 0:=by rw[Ho];rfl
 have h1:((⟨⟨l⟩⟩:ByteArray).get! 1).toNat=Cq l 1:=by rw[Ho];rfl
 have h2:((⟨⟨l⟩⟩:ByteArray).get! 2).toNat=Cq l 2:=by rw[Ho];rfl
 have h3:((⟨⟨l⟩⟩:ByteArray).get! 3).toNat=Cq l 3:=by rw[Ho];rfl
 unfold Cm Utf8.decode
 simp only[Nat.zero_add,hs,h0,h1,h2,h3]
 generalize Cq l 0=b0
 generalize Cq l 1=b1
 generalize Cq l 2=b2
 generalize Cq l 3=b3
 generalize l.length=n
 unfold decN
 simp only[Bool.and_eq_true,decide_eq_true_eq,beq_iff_eq,and_assoc,ge_iff_le,Utf8.runeError]
def szN (n:Nat) (b0 b1 b2 b3:Nat):Nat:=
 if b0≤127 then 1
 else if(194≤b0∧b0≤223)∧1<n∧128≤b1∧b1≤191 then 2
 else if(1<n∧128≤b1∧b1≤191∧2<n∧128≤b2∧b2≤191)∧((b0=224∧160≤b1)∨(225≤b0∧b0≤236)∨(b0=237∧b1≤159)∨(238≤b0∧b0≤239))then 3
 else if(1<n∧128≤b1∧b1≤191∧2<n∧128≤b2∧b2≤191∧3<n∧128≤b3∧b3≤191)∧((b0=240∧144≤b1)∨(241≤b0∧b0≤243)∨(b0=244∧b1≤143))then 4
 else 0
theorem Bp (l:Ad) (k:Nat) (lo hi:Nat):A6 l (k:Int) (lo:Int) (hi:Int)=decide (k<l.length∧lo≤Cq l k∧Cq l k≤hi):=by
 unfold A6 Cq
 rw[Int.toNat_natCast]
 cases h:l[k]? with
 |none=>
  have:=List.getElem?_eq_none_iff.1 h
  symm
  simp only[decide_eq_false_iff_not]
  omega
 |some c=>
  have:=(List.getElem?_eq_some_iff.1 h).1
  simp only[Option.getD_some]
  congr 1
  rw[eq_iff_iff]
  omega
theorem Aqp (l:Ad):Eg l 1 1=decide (1<l.length∧128≤Cq l 1∧Cq l 1≤191):=by
 have h1:=Bp l 1 128 191
 simp only[Eg,List.range_succ,List.range_zero,List.nil_append,List.all_cons,List.all_nil,Bool.and_true]
 exact h1
theorem Aqq (l:Ad):Eg l 1 2=decide (1<l.length∧128≤Cq l 1∧Cq l 1≤191∧2<l.length∧128≤Cq l 2∧Cq l 2≤191):=by
 have h1:=Bp l 1 128 191
 have h2:=Bp l 2 128 191
 have:Eg l 1 2=(A6 l ((1:Nat):Int) ((128:Nat):Int) ((191:Nat):Int)&&A6 l ((2:Nat):Int) ((128:Nat):Int) ((191:Nat):Int)):=by simp[Eg,List.range_succ]
 rw[this,h1,h2, ←Bool.decide_and]
 congr 1
 rw[eq_iff_iff]
 omega
theorem Aqr (l:Ad):Eg l 1 3=decide (1<l.length∧128≤Cq l 1∧Cq l 1≤191∧2<l.length∧128≤Cq l 2∧Cq l 2≤191∧3<l.length∧128≤Cq l 3∧Cq l 3≤191):=by
 have h1:=Bp l 1 128 191
 have h2:=Bp l 2 128 191
 have h3:=Bp l 3 128 191
 have:Eg l 1 3=(A6 l ((1:Nat):Int) ((128:Nat):Int) ((191:Nat):Int)&&(A6 l ((2:Nat):Int) ((128:Nat):Int) ((191:Nat):Int)&&A6 l ((3:Nat):Int) ((128:Nat):Int) ((191:Nat):Int))):=by simp[Eg,List.range_succ]
 rw[this,h1,h2,h3, ←Bool.decide_and, ←Bool.decide_and]
 congr 1
 rw[eq_iff_iff]
 omega
theorem Art (l:Ad) (hl:0<l.length):En l=(szN l.length (Cq l 0) (Cq l 1) (Cq l 2) (Cq l 3):Nat):=by
 have e1:A6 l 0 0 127=_:=Bp l 0 0 127
 have e2:A6 l 0 194 223=_:=Bp l 0 194 223
 have e3:A6 l 0 224 224=_:=Bp l 0 224 224
 have e4:A6 l 1 160 191=_:=Bp l 1 160 191
 have e5:A6 l 0 225 236=_:=Bp l 0 225 236
 have e6:A6 l 0 237 237=_:=Bp l 0 237 237
 have e7:A6 l 1 128 159=_:=Bp l 1 128 159
 have e8:A6 l 0 238 239=_:=Bp l 0 238 239
 have e9:A6 l 0 240 240=_:=Bp l 0 240 240
 have e10:A6 l 1 144 191=_:=Bp l 1 144 191
 have e11:A6 l 0 241 243=_:=Bp l 0 241 243
 have e12:A6 l 0 244 244=_:=Bp l 0 244 244
 have e13:A6 l 1 128 143=_:=Bp l 1 128 143
 unfold En szN
 rw[Aqp,Aqq,Aqr,e1,e2,e3,e4,e5,e6,e7,e8,e9,e10,e11,e12,e13]
 generalize Cq l 0=b0
 generalize Cq l 1=b1
 generalize Cq l 2=b2
 generalize Cq l 3=b3
 generalize l.length=n at hl ⊢
 simp only[Bool.and_eq_true,Bool.or_eq_true,decide_eq_true_eq]
 repeat' split
 all_goals first|rfl|(exfalso;omega)
theorem Ary (l:Ad) (k:Nat):Cq l k<256:=UInt8.toNat_lt _
theorem Apb (n b0 b1 b2 b3:Nat) (h0:b0<256) (hn:0<n):
 (szN n b0 b1 b2 b3=0∧decN n b0 b1 b2 b3=(65533,1))∨
 (szN n b0 b1 b2 b3=1∧decN n b0 b1 b2 b3=(b0,1)∧b0<128)∨
 (szN n b0 b1 b2 b3=2∧2≤n∧∃r,decN n b0 b1 b2 b3=(r,2)∧128≤r∧r≤1114111∧(161≤r↔(b0=194→161≤b1)))∨
 (szN n b0 b1 b2 b3=3∧3≤n∧∃r,decN n b0 b1 b2 b3=(r,3)∧161≤r∧r≤1114111)∨
 (szN n b0 b1 b2 b3=4∧4≤n∧∃r,decN n b0 b1 b2 b3=(r,4)∧161≤r∧r≤1114111):=by
 unfold szN
 split
 ·rename_i hb
  refine .inr (.inl ⟨rfl,?_,by omega⟩)
  unfold decN
  rw[if_pos (show b0<128 by omega)]
 split
 ·refine .inr (.inr (.inl ⟨rfl,by omega,b0 % 32*64+b1 % 64,?_,by omega,by omega,by omega⟩))
  unfold decN
  rw[if_neg (by omega),if_pos (by omega),if_pos (by omega)]
 split
 ·refine .inr (.inr (.inr (.inl ⟨rfl,by omega,b0 % 16*4096+b1 % 64*64+b2 % 64,?_,by omega,by omega⟩)))
  unfold decN
  rw[if_neg (by omega),if_neg (by omega),if_pos (by omega),if_pos ⟨by omega,by simp only[Utf8.valid,Bool.or_eq_true,Bool.and_eq_true,decide_eq_true_eq];omega⟩]
 split
 ·refine .inr (.inr (.inr (.inr ⟨rfl,by omega,b0 % 8*262144+b1 % 64*4096+b2 % 64*64+b3 % 64,?_,by omega,by omega⟩)))
  unfold decN
  rw[if_neg (by omega),if_neg (by omega),if_neg (by omega),if_pos (by omega),if_pos ⟨by omega,by simp only[Utf8.valid,Bool.or_eq_true,Bool.and_eq_true,decide_eq_true_eq];omega⟩]
 ·refine .inl ⟨rfl,?_⟩
  unfold decN
  rw[if_neg (by omega)]
  split
  ·rw[if_neg (by omega)]
  split
  ·rw[if_neg]
   rintro⟨hv1,hv2⟩
   simp only[Utf8.valid,Bool.or_eq_true,Bool.and_eq_true,decide_eq_true_eq]at hv2
   omega
  split
  ·rw[if_neg]
   rintro⟨hv1,hv2⟩
   simp only[Utf8.valid,Bool.or_eq_true,Bool.and_eq_true,decide_eq_true_eq]at hv2
   omega
  rfl
theorem Arp (c d:UInt8):D4 [c,d]=decide (c.toNat=194→161≤d.toNat):=by
 simp only[D4]
 split
 ·congr 1
  rw[eq_iff_iff]
  omega
 ·symm
  simp only[decide_eq_true_eq]
  omega
theorem Ai4 (c d e:UInt8) (r:Ad):D4 (c::d::e::r)=true:=rfl
theorem Aki (l:Ad) (hl:0<l.length):
 (En l=0∧Cm l 0=(65533,1))∨
 (∃c r,l=c::r∧En l=1∧Cm l 0=(c.toNat,1)∧c.toNat<128)∨
 (∃k r:Nat,2≤k∧En l=(k:Int)∧k≤l.length∧Cm l 0=(r,k)∧128≤r∧r≤1114111∧D4 (l.take k)=decide (161≤r)):=by
 rw[Art l hl,Aqa]
 rcases Apb l.length (Cq l 0) (Cq l 1) (Cq l 2) (Cq l 3) (Ary l 0) hl with⟨h1,h2⟩|⟨h1,h2,h3⟩|⟨h1,h2,r,h3,h4,h5,h6⟩|⟨h1,h2,r,h3,h4,h5⟩|⟨h1,h2,r,h3,h4,h5⟩
 ·rw[h1,h2];exact .inl ⟨rfl,rfl⟩
 ·rw[h1,h2]
  cases l with
  |nil=>simp at hl
  |cons c r=>exact .inr (.inl ⟨c,r,rfl,rfl,rfl,h3⟩)
 ·rw[h1,h3]
  rcases l with _|⟨c,_|⟨d,t⟩⟩
  ·simp at hl
  ·simp at h2
  ·refine .inr (.inr ⟨2,r,by omega,rfl,h2,rfl,h4,h5,?_⟩)
   show D4 [c,d]=_
   rw[Arp]
   congr 1
   rw[eq_iff_iff]
   exact h6.symm
 ·rw[h1,h3]
  rcases l with _|⟨c,_|⟨d,_|⟨e,t⟩⟩⟩
  ·simp at hl
  ·simp at h2
  ·simp at h2
  ·exact .inr (.inr ⟨3,r,by omega,rfl,h2,rfl,by omega,h5,by show D4 [c,d,e]=_;rw[Ai4];simp[h4]⟩)
 ·rw[h1,h3]
  rcases l with _|⟨c,_|⟨d,_|⟨e,_|⟨f,t⟩⟩⟩⟩
  ·simp at hl
  ·simp at h2
  ·simp at h2
  ·simp at h2
  ·exact .inr (.inr ⟨4,r,by omega,rfl,h2,rfl,by omega,h5,by show D4 [c,d,e,f]=_;rw[Ai4];simp[h4]⟩)

open Go.Proofs
theorem Fn.strLen {P:Program} {f:FuncId} {s:Ad} {rest:List SV} {Post:SV→List SV→Prop} (h:s.length≤maxLen→Fn P f (.v (.str s)::rest) Post):Fn P f (.v (.str s)::rest) Post:=by
 intro G σ Fr w cargs hok hsz hargs
 have h0:=(hargs 0 _ rfl).2
 exact h (RepV.str.1 h0).2 G σ Fr w cargs hok hsz hargs
theorem Acn (s:Ad) (p:Nat) (hp:p<s.length):Lib.decodeGo ⟨⟨s.drop p⟩⟩=Cm s p:=by
 rw[Kh s p]
 unfold Lib.decodeGo
 rw[if_neg]
 ·rfl
 ·show ¬(s.drop p).length=0
  rw[List.length_drop]
  omega
theorem T7 (s:Ad) (p:Nat) (hp:p<s.length) (r:Int):Fn Tryz.prog Adw [.v (.str s),.v (.int .i64 p),.v (.int .i32 r)] (Is (.v (.bool (decide (r=65533)&&decide ((Cm s p).2=1)))) [.no,.no,.no]):=by
 refine Ac4 ?_ (by simp)
 have hd:=Aie (s.drop p)
 rw[Acn s p hp]at hd
 by_cases hr:r=65533
 ·have hb0:¬(!decide (r=65533))=true:=by simp[hr]
  repeat'((conv=>whnf);first|(apply aI<;>intro hb<;>first|exact absurd hb (by assumption)|((try rw[hb]);(try simp only[Aa]at hb);(try subst hb)))|(refine eI ?_ ?_;focus (and_intros<;>first|omega|exact rfl|(intro _ hh;cases hh;done)|(simp;done)|decide))|((simp only[List.headD,Int.toNat_natCast,List.take_length]))|(refine CallWp.mk ⟨_,hd,?_⟩;rintro _ _ ⟨rfl,rfl⟩))
  all_goals(try(conv=>whnf))
  refine Done.mk ⟨SV.bool_congr ?_,by kernel_rfl⟩ (by kernel_rfl)
  rw[eq_comm,Bool.eq_iff_iff]
  simp
  omega
 ·repeat'((conv=>whnf);(apply aI<;>intro hb<;>first|(exfalso;simp only[Ag]at hb<;>omega)|((try rw[hb]);(try simp only[Aa]at hb))))
  all_goals(try(conv=>whnf))
  all_goals first|contradiction|skip
  refine Done.mk ⟨SV.bool_congr (by simp[hr]),by kernel_rfl⟩ (by kernel_rfl)
theorem Acb (r:Int):Fn Tryz.prog Ahe [.v (.int .i32 r)] (Is (.v (.bool (decide (161≤r)))) [.no]):=by
 refine Ae2 ?_ (by simp)
 (conv=>whnf)
 all_goals(try(conv=>whnf))
 exact Done.mk ⟨SV.bool_congr (by simp),by kernel_rfl⟩ (by kernel_rfl)
theorem Qr {f:Nat} {s:Ad} {p n:Nat} {c:UInt8} (hc:s[p]?=some c) {k:Nat} (hk:En (s.drop p)=(k:Int)):
 Er (f+1) s p n=(if k=0 then false else if badR k c.toNat p ((s.drop p).take k)=true then false else if 24<n+1 then false else Er f s (p+k) (n+1)):=by
 rw[Er,hc]
 dsimp only
 rw[hk,Int.toNat_natCast]
theorem Abi {f:Nat} {s:Ad} {p n:Nat} {c:UInt8} (hc:s[p]?=some c) {k:Nat} (hk:En (s.drop p)=(k:Int)) (hk0:0<k) (hkl:k≤s.length - p) (hp:p<s.length)
 (hb:badR k c.toNat p ((s.drop p).take k)=false) (h2:s.length<f+1+p) (h3:n≤p) (h4:n≤24→Er (f+1) s p n=Co s) (h5:24<n→Co s=false):
 p+k≤s.length∧s.length<f+(p+k)∧n+1≤p+k∧(n+1≤24→Er f s (p+k) (n+1)=Co s)∧(24<n+1→Co s=false):=by
 refine⟨by omega,by omega,by omega,fun h=>?_,fun h=>?_⟩
 ·rw[←h4 (by omega),Qr hc hk,if_neg (by omega),hb,if_neg (by simp),if_neg (by omega)]
 ·by_cases h24:24<n
  ·exact h5 h24
  ·rw[←h4 (by omega),Qr hc hk,if_neg (by omega),hb,if_neg (by simp),if_pos h]
theorem Xh {f:Nat} {s:Ad} {p n:Nat} {c:UInt8} (hc:s[p]?=some c) {k:Nat} (hk:En (s.drop p)=(k:Int))
 (hb:k=0∨badR k c.toNat p ((s.drop p).take k)=true) (h4:n≤24→Er (f+1) s p n=Co s) (h5:24<n→Co s=false):Co s=false:=by
 by_cases h24:24<n
 ·exact h5 h24
 ·rw[←h4 (by omega),Qr hc hk]
  rcases hb with hb|hb
  ·rw[if_pos hb]
  ·rw[hb];split<;>simp
theorem T4 (s:Ad):Fn Tryz.prog Adv [.v (.str s)] (Is (.v (.bool (Co s))) [.no]):=Fn.strLen fun hl=>by
 refine Ac3 ?_ (by simp)
 (conv=>whnf)
 all_goals(try(conv=>whnf))
 refine LoopWq.by (X:=Nat × Nat × Nat) (fun x=>[(3,.v (.int .i64 x.2.2)),(7,.sit s x.2.1)]) (fun x=>x.2.1≤s.length∧s.length<x.1+x.2.1∧x.2.2≤x.2.1∧(x.2.2≤24→Er x.1 s x.2.1 x.2.2=Co s)∧(24<x.2.2→Co s=false)) (fun x=>s.length - x.2.1)
  (s.length+1,0,0) (by kernel_rfl) ⟨Nat.zero_le _,by dsimp only;omega,Nat.le_refl _,fun _=>rfl,fun h=>by simp at h⟩ ?_
 rintro⟨f,p,n⟩ ⟨h1,h2,h3,h4,h5⟩
 dsimp only at h1 h2 h3 h4 h5 ⊢
 obtain⟨f,rfl⟩:∃g,f=g+1:=⟨f - 1,by omega⟩
 by_cases hp:p<s.length
 case neg=>
  have hlt:¬decide (p<s.length)=true:=by simp;omega
  have hv:Co s=(decide (0<n)&&decide (n≤24)):=by
   by_cases h24:n≤24
   ·rw[←h4 h24,Er,List.getElem?_eq_none (by omega)]
    simp[h24]
   ·rw[h5 (by omega)]
    simp[h24]
  rw[hv]
  repeat'((conv=>whnf);(apply aI<;>intro hb<;>first|exact absurd hb (by first|assumption|decide)|((try rw[hb]);(try simp only[Aa]at hb))))
  all_goals(try(conv=>whnf))
  all_goals refine Done.mk ⟨SV.bool_congr ?_,by kernel_rfl⟩ (by kernel_rfl)
  all_goals(rw[Bool.eq_iff_iff];simp;omega)
 have hlt:¬decide (p<s.length)=false:=by simp[hp]
 obtain⟨c,hc⟩:∃c,s[p]?=some c:=⟨_,List.getElem?_eq_getElem hp⟩
 have hdl:(s.drop p).length=s.length - p:=List.length_drop ..
 have hwn:IntKind.i64.wrap ((n:Int)+1)=((n+1:Nat):Int):=Ae (n:=maxLen) (by omega) (Nat.le_refl _)
 rcases Aki (s.drop p) (by omega)with⟨hk,hr⟩|⟨c',t,hd,hk,hr,hc8⟩|⟨k,r,hk2,hk,hkl,hr,hr1,hr2,hit⟩
 ·rw[←Kh]at hr
  have hw:=T7 s p hp (65533:Nat)
  rw[hr]at hw
  rw[Xh hc hk (.inl rfl) h4 h5]
  repeat'((conv=>whnf);first|(apply aI<;>intro hb<;>first|exact absurd hb (by first|assumption|decide)|((try rw[hb]);(try simp only[Aa]at hb)))|(refine eI ?_ ?_;focus (and_intros<;>first|(intro _ hh;cases hh;done)|(simp;done)|decide))|((simp only[hr]))|(refine CallWp.mk ⟨_,hw,?_⟩;rintro _ _ ⟨rfl,rfl⟩))
  all_goals(try(conv=>whnf))
  exact Done.mk ⟨by kernel_rfl,by kernel_rfl⟩ (by kernel_rfl)
 ·rw[←Kh]at hr
  obtain rfl:c=c':=by
   have:=congrArg (fun q=>q[0]?) hd
   simp only[List.getElem?_drop,Nat.add_zero,List.getElem?_cons_zero]at this
   rw[hc]at this
   exact Option.some.inj this
  have hw:=T7 s p hp (c.toNat:Nat)
  rw[hr,show(decide (((c.toNat:Nat):Int)=65533)&&decide (((c.toNat,1):Nat × Nat).2=1))=false by simp;omega]at hw
  have hh:=Acb (c.toNat:Nat)
  rw[show decide (161≤((c.toNat:Nat):Int))=false by simp;omega]at hh
  have hlen:1≤s.length - p:=by omega
  have hgood:=fun hb=>Abi hc (k:=1) hk (by omega) hlen hp hb h2 h3 h4 h5
  have hbad:=fun hb=>Xh (k:=1) hc hk (.inr hb) h4 h5
  rw[hd]at hgood hbad
  generalize hm:Co s=m at*
  have hB:∀q,badR 1 (c.toNat:Nat) p q=true↔¬((97≤c.toNat∧c.toNat≤122)∨(48≤c.toNat∧c.toNat≤57)∨c.toNat=95∨(c.toNat=45∧0<p)):=fun q=>by
   simp only[badR]
   simp
   omega
  have hB':∀q,badR 1 (c.toNat:Nat) p q=false↔((97≤c.toNat∧c.toNat≤122)∨(48≤c.toNat∧c.toNat≤57)∨c.toNat=95∨(c.toNat=45∧0<p)):=fun q=>by
   have:=hB q
   cases hx:badR 1 (c.toNat:Nat) p q
   ·rw[hx]at this
    simp at this
    simp
    omega
   ·rw[hx]at this
    simp at this
    simp
    omega
  repeat'((conv=>whnf);first|(apply aI<;>intro hb<;>first|exact absurd hb (by first|assumption|decide)|(exfalso;simp only[Ag]at hb<;>omega)|((try rw[hb]);(try simp only[Aa]at hb)))|(refine eI ?_ ?_;focus (and_intros<;>first|(intro _ hh;cases hh;done)|(simp;done)|decide))|((simp only[hr]))|(refine CallWp.mk ⟨_,hw,?_⟩;rintro _ _ ⟨rfl,rfl⟩)|(refine CallWp.mk ⟨_,hh,?_⟩;rintro _ _ ⟨rfl,rfl⟩))
  all_goals(try(conv=>whnf))
  all_goals first
   |(refine Done.mk ⟨congrArg (fun b=>SV.v (.bool b)) (hbad ((hB _).2 (by omega))).symm,by kernel_rfl⟩ (by kernel_rfl);done)
   |(refine Round.by (f,p+1,n+1) ?_ (hgood ((hB' _).2 (by omega))) (by dsimp only;omega)
     rw[hwn]
     show norm _ _=upd _ _
     kernel_rfl)
 ·rw[←Kh]at hr
  have hw:=T7 s p hp (r:Nat)
  rw[hr,show(decide (((r:Nat):Int)=65533)&&decide (((r,k):Nat × Nat).2=1))=false by simp;omega]at hw
  have hh:=Acb (r:Nat)
  have hgood:=fun hb=>Abi hc (k:=k) hk (by omega) (by omega) hp hb h2 h3 h4 h5
  have hbad:=fun hb=>Xh (k:=k) hc hk (.inr hb) h4 h5
  have hB:badR k c.toNat p ((s.drop p).take k)= !decide (161≤r):=by
   simp only[badR,hit]
   rw[show decide (k=1)=false by simp;omega,show decide (1<k)=true by simp;omega]
   simp
  rw[hB]at hgood hbad
  generalize hm:Co s=m at*
  by_cases h161:161≤r
  ·rw[show decide (161≤((r:Nat):Int))=true by simp;omega]at hh
   repeat'((conv=>whnf);first|(apply aI<;>intro hb<;>first|exact absurd hb (by first|assumption|decide)|(exfalso;simp only[Ag]at hb<;>omega)|((try rw[hb]);(try simp only[Aa]at hb)))|(refine eI ?_ ?_;focus (and_intros<;>first|(intro _ hh;cases hh;done)|(simp;done)|decide))|((simp only[hr]))|(refine CallWp.mk ⟨_,hw,?_⟩;rintro _ _ ⟨rfl,rfl⟩)|(refine CallWp.mk ⟨_,hh,?_⟩;rintro _ _ ⟨rfl,rfl⟩))
   all_goals(try(conv=>whnf))
   refine Round.by (f,p+k,n+1) ?_ (hgood (by simp[h161])) (by dsimp only;omega)
   rw[hwn]
   show norm _ _=upd _ _
   kernel_rfl
  ·rw[show decide (161≤((r:Nat):Int))=false by simp;omega]at hh
   repeat'((conv=>whnf);first|(apply aI<;>intro hb<;>first|exact absurd hb (by first|assumption|decide)|(exfalso;simp only[Ag]at hb<;>omega)|((try rw[hb]);(try simp only[Aa]at hb)))|(refine eI ?_ ?_;focus (and_intros<;>first|(intro _ hh;cases hh;done)|(simp;done)|decide))|((simp only[hr]))|(refine CallWp.mk ⟨_,hw,?_⟩;rintro _ _ ⟨rfl,rfl⟩)|(refine CallWp.mk ⟨_,hh,?_⟩;rintro _ _ ⟨rfl,rfl⟩))
   all_goals(try(conv=>whnf))
   exact Done.mk ⟨congrArg (fun b=>SV.v (.bool b)) (hbad (by simp[h161])).symm,by kernel_rfl⟩ (by kernel_rfl)

open Go.Proofs
def C2 {α:Type} (i:Nat) (x:α) (l:List α):List α:=l.take i++x::l.drop i
theorem Yk {α β γ:Type} (g:β→γ) (f:α→β) (i:Nat) (x:α) (l:List α):((l.map f).map g).take i++g (f x)::((l.map f).map g).drop i=((C2 i x l).map f).map g:=by simp[C2,List.map_take,List.map_drop]
def Da {α:Type} (i:Nat) (l:List α):List α:=l.take i++l.drop (i+1)
theorem Zf (n:Int):Fn Tryz.prog Adz [.v (.int .i64 n)] (Is (.v (.bool (Ej n))) [.no]):=by
 refine Ac6 ?_ (by simp)
 repeat'((conv=>whnf);(apply aI<;>intro hb<;>first|exact absurd hb (by decide)|((try rw[hb]);(try simp only[Aa]at hb))))
 all_goals(try(conv=>whnf))
 all_goals refine Done.mk ⟨SV.bool_congr ?_,by kernel_rfl⟩ (by kernel_rfl)
 all_goals simp[Ej, *]
theorem D1 (s:Ad):Fn Tryz.prog Ack [.v (.str s)] (Is (.v (.bool (decide (s.length≤64)))) [.no]):=by
 refine Aag ?_ (by simp)
 repeat'((conv=>whnf);first|(refine eI ?_ ?_;focus (and_intros<;>exact rfl))|(intro hfact))
 all_goals(try(conv=>whnf))
 refine Done.mk ⟨SV.bool_congr ?_,by kernel_rfl⟩ (by kernel_rfl)
 by_cases h:s.length≤64<;>simp[h]<;>omega
def Ff (r:Roll) (c:Cmd):Roll × Int:=
 if c.kind=4∧Co c.name=false then(r,5)
 else if Ej c.bytes=false∨Ej c.keys=false then(r,1)
 else if c.kind=4∧Bv Ten.name r.tens c.name=true then(r,15)
 else if c.kind=4∧8≤(r.tens.length:Int)then(r,17)
 else if c.kind=4 then({r with tens:=C2 (Az Ten.name r.tens c.name) ⟨c.name,c.bytes,c.keys⟩ r.tens},0)
 else if Bv Ten.name r.tens c.name=false then(r,16)
 else({r with tens:=r.tens.set (Az Ten.name r.tens c.name) ⟨c.name,c.bytes,c.keys⟩},0)
theorem Zn (r:Roll):D.toI (.vec Ax 3 ((r.tens.map Ten.toI).map D.it))=some (.list (r.tens.map Ten.toI)):=by simp[D.toI,Aj, -List.map_map]
theorem Ag3 (r:Roll) (hs:r.Small) (c:Cmd):Fn Tryz.prog Acm [.own [] (.ptr r.toD),.v c.toI] (Is (.v (.int .i64 (Ff r c).2)) [.own [] (.ptr (Ff r c).1.toD),.no]):=by
 refine Aai ?_ (by simp)
 obtain⟨b1,b2,b3,b4,b5⟩:=hs
 have hf:=Ags r.tens c.name (by omega)
 have hn:=T4 c.name
 have n1:=Zf c.bytes
 have n2:=Zf c.keys
 repeat'((conv=>whnf);first|(apply aI<;>intro hb<;>first|exact absurd hb (by decide)|((try rw[hb]);(try simp only[Aa]at hb)))|(refine eI ?_ ?_;focus (and_intros<;>first|omega|exact rfl|(intro _ hh;cases hh;done)|(simp;done)|decide))|(intro hfact)|((with_reducible apply Drawn.by0);(focus kernel_rfl);intro hfact;(try simp only[dRS]at hfact))|((simp only[show D.at (0::[].append [1]) (D.ptr r.toD)=some (D.vec Ax 3 ((r.tens.map Ten.toI).map D.it))from rfl,Zn]))|(refine CallIs.mk ⟨_,_,hf,?_⟩)|(refine CallWp.mk ⟨_,hn,?_⟩;rintro _ _ ⟨rfl,rfl⟩)|(refine CallWp.mk ⟨_,n1,?_⟩;rintro _ _ ⟨rfl,rfl⟩)|(refine CallWp.mk ⟨_,n2,?_⟩;rintro _ _ ⟨rfl,rfl⟩))
 all_goals(try(conv=>whnf))
 all_goals(generalize hX:Ff r c=X;simp[Ff, *]at hX;subst hX)
 all_goals try exact Done.mk ⟨by kernel_rfl,by kernel_rfl⟩ (by kernel_rfl)
 ·skip
  have hle:=H5 Ten.name r.tens c.name
  have hins:=Aaz ((r.tens.map Ten.toI).map D.it) (.it (Ten.toI ⟨c.name,c.bytes,c.keys⟩)) (Az Ten.name r.tens c.name) (by simp;omega) (by simp;omega)
  rw[Yk D.it Ten.toI]at hins
  have htn:=Jk ⟨c.name,c.bytes,c.keys⟩
  refine Qa ?_ (by decide)
  repeat'((conv=>whnf);first|(refine eI ?_ ?_;focus (and_intros<;>first|omega|exact rfl|(intro _ hh;cases hh;done)|exact B5 rfl|(simp;done)|decide))|((with_reducible apply Drawn.by0);(focus kernel_rfl);intro hfact;(try simp only[dRS]at hfact))|((simp only[show D.at (0::[].append [1]) (D.ptr r.toD)=some (D.vec Ax 3 ((r.tens.map Ten.toI).map D.it))from rfl,Zn]))|(refine CallIs.mk ⟨_,_,hf,?_⟩)|(refine CallIs.mk ⟨_,_,htn,?_⟩)|(refine CallIs.mk ⟨_,_,hins,?_⟩))
  all_goals(try(conv=>whnf))
  exact Done.mk ⟨by kernel_rfl,by kernel_rfl⟩ (by kernel_rfl)
 ·skip
  obtain⟨x,hx, -⟩:=Ep (by assumption)
  have hxd:((r.tens.map Ten.toI).map D.it)[Az Ten.name r.tens c.name]?=some (.it x.toI):=by simp[hx]
  have hset:((r.tens.map Ten.toI).map D.it).set (Az Ten.name r.tens c.name) (.it (Ten.toI ⟨c.name,c.bytes,c.keys⟩))=((r.tens.set (Az Ten.name r.tens c.name) ⟨c.name,c.bytes,c.keys⟩).map Ten.toI).map D.it:=by simp[List.map_set]
  have hlt:Az Ten.name r.tens c.name<r.tens.length:=(List.getElem?_eq_some_iff.1 hx).1
  repeat'((conv=>whnf);first|(refine eI ?_ ?_;focus (and_intros<;>first|omega|exact rfl|(simp only[Ag];omega)|(simp;done)))|((with_reducible apply Drawn.by0);(focus kernel_rfl);intro hfact;(try simp only[dRS]at hfact))|((with_reducible apply Eo);(focus (simp only[D.at,D.put,D.kid,D.setKid,List.cons_append,List.nil_append,List.append,List.getElem?_cons_zero,List.getElem?_cons_succ,Int.toNat_natCast,List.getElem?_set_self',Option.map_eq_map,Option.map_some,List.set_cons_zero,List.set_cons_succ,List.set_set,Function.const_apply,List.map_cons,List.map_nil,mkSt,A1,D.toI,toIs,Aj,List.getElem?_map,List.length_map,List.length_set,hxd]<;>exact rfl))))
  all_goals(try(conv=>whnf))
  have hD:Roll.toD {r with tens:=r.tens.set (Az Ten.name r.tens c.name) ⟨c.name,c.bytes,c.keys⟩}= .st [.it (.int .i64 r.rev),.vec Ax 3 (((r.tens.map Ten.toI).map D.it).set (Az Ten.name r.tens c.name) (.it (Ten.toI ⟨c.name,c.bytes,c.keys⟩))),.vec Ar 5 (r.usrs.map Usr.toD),.vec Aq 3 (r.rols.map Rol.toD)]:=by rw[hset]
  refine Done.mk ⟨by kernel_rfl,?_⟩ (by kernel_rfl)
  dsimp only
  rw[hD]
  kernel_rfl
set_option maxHeartbeats 4000000

open Go.Op
theorem wrap_u8 (n:Int):IntKind.u8.wrap n=n % 256:=by simp[IntKind.wrap,IntKind.bits,IntKind.signed]
theorem wrap_u32 (n:Int):IntKind.u32.wrap n=n % 4294967296:=by simp[IntKind.wrap,IntKind.bits,IntKind.signed]
theorem wrap_u64 (n:Int):IntKind.u64.wrap n=n % 18446744073709551616:=by simp[IntKind.wrap,IntKind.bits,IntKind.signed]
def numB (n:Nat):Nat→Ad
 |0=>[]
 |k+1=>numB (n / 256) k++[UInt8.ofNat (n % 256)]
theorem Bh:∀(n k:Nat),(numB n k).length=k
 |_,0=>rfl
 |n,k+1=>by simp[numB,Bh (n / 256) k]
def Fq (x n:Int):Int:=Bg .or .u32 (shrI .u32 x n) (shlI .u32 x (IntKind.u64.wrap (32 - n)))
def kays:List Int:=[1116352408,1899447441,3049323471,3921009573,961987163,1508970993,2453635748,2870763221,3624381080,310598401,607225278,1426881987,1925078388,2162078206,2614888103,3248222580,3835390401,4022224774,264347078,604807628,770255983,1249150122,1555081692,1996064986,2554220882,2821834349,2952996808,3210313671,3336571891,3584528711,113926993,338241895,666307205,773529912,1294757372,1396182291,1695183700,1986661051,2177026350,2456956037,2730485921,2820302411,3259730800,3345764771,3516065817,3600352804,4094571909,275423344,430227734,506948616,659060556,883997877,958139571,1322822218,1537002063,1747873779,1955562222,2024104815,2227730452,2361852424,2428436474,2756734187,3204031479,3329325298]
abbrev B4 (n:Int):Int:=IntKind.u32.wrap n
def Cf (m:Ad) (p:Nat):Int:=((m.getD p 0).toNat:Int)
def Hh (m:Ad) (p:Nat):Nat→Int
 |0=>0
 |i+1=>B4 (B4 (Hh m p i*256)+B4 (Cf m (p+i)))
def wAt (w:List Int) (t:Nat):Int:=w.getD t 0
def sig1 (x:Int):Int:=Bg .xor .u32 (Bg .xor .u32 (Fq x 17) (Fq x 19)) (shrI .u32 x 10)
def sig0 (x:Int):Int:=Bg .xor .u32 (Bg .xor .u32 (Fq x 7) (Fq x 18)) (shrI .u32 x 3)
def extI (w:List Int) (t:Nat):Int:=B4 (B4 (B4 (sig1 (wAt w (t - 2))+wAt w (t - 7))+sig0 (wAt w (t - 15)))+wAt w (t - 16))
def sched (m:Ad) (p:Nat):Nat→List Int
 |0=>[]
 |t+1=>sched m p t++[if t<16 then Hh m (p+4*t) 4 else extI (sched m p t) t]
theorem B7 (m:Ad) (p:Nat):∀t,(sched m p t).length=t
 |0=>rfl
 |t+1=>by simp[sched,B7 m p t]
structure H8 where
 (a b c d e f g i:Int)
def H8.l (h:H8):List Int:=[h.a,h.b,h.c,h.d,h.e,h.f,h.g,h.i]
def rnd1 (h:H8) (k w:Int):Int:=
 B4 (B4 (B4 (B4 (h.i+Bg .xor .u32 (Bg .xor .u32 (Fq h.e 6) (Fq h.e 11)) (Fq h.e 25))+Bg .xor .u32 (Bg .and .u32 h.e h.f) (Bg .and .u32 (Bg .xor .u32 4294967295 h.e) h.g))+k)+w)
def rnd2 (h:H8):Int:=B4 (Bg .xor .u32 (Bg .xor .u32 (Fq h.a 2) (Fq h.a 13)) (Fq h.a 22)+Bg .xor .u32 (Bg .xor .u32 (Bg .and .u32 h.a h.b) (Bg .and .u32 h.a h.c)) (Bg .and .u32 h.b h.c))
def rnd (h:H8) (k w:Int):H8:=⟨B4 (rnd1 h k w+rnd2 h),h.a,h.b,h.c,B4 (h.d+rnd1 h k w),h.e,h.f,h.g⟩
def rnds (w:List Int) (h:H8):Nat→H8
 |0=>h
 |t+1=>rnd (rnds w h t) (wAt kays t) (wAt w t)
def addH (x y:H8):H8:=⟨B4 (x.a+y.a),B4 (x.b+y.b),B4 (x.c+y.c),B4 (x.d+y.d),B4 (x.e+y.e),B4 (x.f+y.f),B4 (x.g+y.g),B4 (x.i+y.i)⟩
def H4 (m:Ad) (p:Nat) (h:H8):H8:=addH h (rnds (sched m p 64) h 64)
def H0:H8:=⟨0x6a09e667,0xbb67ae85,0x3c6ef372,0xa54ff53a,0x510e527f,0x9b05688c,0x1f83d9ab,0x5be0cd19⟩
def blocks (m:Ad):Nat→H8
 |0=>H0
 |n+1=>H4 m (64*n) (blocks m n)
def zeros (n:Nat):Nat:=(119 - n % 64) % 64
def padB (s:Ad):Ad:=s++[128]++List.replicate (zeros s.length) 0++numB (8*s.length) 8
def outB (h:H8) (t:Nat):Ad:=(h.l.take t).flatMap fun x=>numB x.toNat 4
def sumB (s:Ad):Ad:=outB (blocks (padB s) ((padB s).length / 64)) 8
theorem X2 (n:Int):0≤B4 n∧B4 n<4294967296:=by unfold B4;rw[wrap_u32];omega
theorem Wu (s:Ad):(padB s).length=64*((padB s).length / 64):=by
 simp only[padB,List.length_append,List.length_replicate,Bh,zeros,List.length_singleton]
 omega
def Bo (l:List Ad):Ad:=l.flatMap fun s=>numB s.length 8++s
def A4 (h:H8) (m:Ad):Nat→H8
 |0=>h
 |n+1=>H4 m (64*n) (A4 h m n)

open Go.Op
theorem Aq5 (op:BinOp) (x y:Nat) (hx:x<4294967296) (hy:y<4294967296):Bg .or .u32 (x:Int) (y:Int)=((x ||| y:Nat):Int):=by
 have h1:(BitVec.ofInt 32 (x:Int)).toNat=x:=by rw[BitVec.ofInt_natCast,BitVec.toNat_ofNat];exact Nat.mod_eq_of_lt hx
 have h2:(BitVec.ofInt 32 (y:Int)).toNat=y:=by rw[BitVec.ofInt_natCast,BitVec.toNat_ofNat];exact Nat.mod_eq_of_lt hy
 show IntKind.u32.wrap (((BitVec.ofInt 32 (x:Int)) ||| (BitVec.ofInt 32 (y:Int))).toNat:Int)=_
 rw[BitVec.toNat_or,h1,h2,wrap_u32]
 have:x ||| y<2^32:=Nat.or_lt_two_pow (by omega) (by omega)
 omega
theorem Aak (a y s:Nat) (hy:y<2^s) (hl:a*2^s+y<4294967296):Bg .or .u32 ((a*2^s:Nat):Int) (y:Int)=((a*2^s+y:Nat):Int):=by
 rw[Aq5 .or _ _ (by omega) (by omega), ←Nat.shiftLeft_eq, ←Nat.shiftLeft_add_eq_or_of_lt hy]
theorem An2 (x y:Int):Bg .or .u32 x y=Bg .or .u32 y x:=by
 unfold Bg
 simp only[BitVec.or_comm]
def Zw (m:Ad) (p:Nat):Int:=Bg .or .u32 (Bg .or .u32 (Bg .or .u32 (shlI .u32 (B4 (Cf m p)) 24) (shlI .u32 (B4 (Cf m (p+1))) 16)) (shlI .u32 (B4 (Cf m (p+2))) 8)) (B4 (Cf m (p+3)))
theorem Ph (m:Ad) (p:Nat):∃b:Nat,Cf m p=(b:Int)∧b<256:=⟨_,rfl,(m.getD p 0).toNat_lt⟩
theorem Ag7 (m:Ad) (p:Nat):Zw m p=Hh m p 4:=by
 obtain⟨b0,e0,h0⟩:=Ph m p
 obtain⟨b1,e1,h1⟩:=Ph m (p+1)
 obtain⟨b2,e2,h2⟩:=Ph m (p+2)
 obtain⟨b3,e3,h3⟩:=Ph m (p+3)
 have hw:∀b:Nat,b<4294967296→B4 (b:Int)=(b:Int):=fun b h=>by unfold B4;rw[wrap_u32];omega
 have hs:∀b k:Nat,b*2^k<4294967296→k≤32→shlI .u32 (b:Int) (k:Int)=((b*2^k:Nat):Int):=fun b k h hk=>by
  show B4 ((b:Int)*2^(min (Int.toNat (k:Int)) 32))=_
  rw[Int.toNat_natCast,Nat.min_eq_left hk]
  have:(b:Int)*2^k=((b*2^k:Nat):Int):=by push_cast;rfl
  rw[this]
  exact hw _ h
 have c1:=Aak b0 (b1*65536) 24 (by omega) (by omega)
 have c2:=Aak (b0*256+b1) (b2*256) 16 (by omega) (by omega)
 have c3:=Aak (b0*65536+b1*256+b2) b3 8 (by omega) (by omega)
 have s0:=hs b0 24 (by omega) (by omega)
 have s1:=hs b1 16 (by omega) (by omega)
 have s2:=hs b2 8 (by omega) (by omega)
 have l:Zw m p=((b0*16777216+b1*65536+b2*256+b3:Nat):Int):=by
  unfold Zw
  rw[e0,e1,e2,e3,hw b0 (by omega),hw b1 (by omega),hw b2 (by omega),hw b3 (by omega)]
  rw[show((24:Int))=((24:Nat):Int)from rfl,s0,show((16:Int))=((16:Nat):Int)from rfl,s1,show((8:Int))=((8:Nat):Int)from rfl,s2]
  rw[show b1*2^16=b1*65536 from rfl,c1,show b0*2^24+b1*65536=(b0*256+b1)*2^16 by omega,show b2*2^8=b2*256 from rfl,c2,
   show(b0*256+b1)*2^16+b2*256=(b0*65536+b1*256+b2)*2^8 by omega,c3]
 rw[l]
 simp only[Hh,Nat.add_zero,e0,e1,e2,e3,B4,wrap_u32]
 omega
def padW (l:List Int):List Int:=l++List.replicate (64 - l.length) 0
theorem Ke {l:List Int} (h:l.length≤64):(padW l).length=64:=by simp[padW];omega
theorem Gf {l:List Int} {k:Nat} {x:Int} (h:l[k]?=some x):(padW l)[k]?=some x:=by
 rw[padW,List.getElem?_append_left (by rw[List.getElem?_eq_some_iff]at h;exact h.1)]
 exact h
theorem Tu {l:List Int} {x:Int} (h:l.length<64):(padW l).set l.length x=padW (l++[x]):=by
 obtain⟨k,hk⟩:∃k,64 - l.length=k+1:=⟨63 - l.length,by omega⟩
 have hk':64 - (l++[x]).length=k:=by simp;omega
 rw[padW,padW,hk,hk',List.set_append_right _ _ (Nat.le_refl _),Nat.sub_self,List.replicate_succ,List.set_cons_zero,List.append_assoc]
 rfl
theorem Ai1 (w:List Int) (t:Nat):B4 (B4 (B4 (wAt w (t - 16)+sig0 (wAt w (t - 15)))+wAt w (t - 7))+sig1 (wAt w (t - 2)))=extI w t:=by
 unfold extI B4
 simp only[wrap_u32]
 omega
abbrev u32s (l:List Int):I:=.arr 1 (l.map (I.int .u32))
theorem Dm {l:List Int} {k:Nat} {x:Int} (h:l[k]?=some x):(SV.box (T.one (F.i (u32s l)))).hit 0 ([]++[Int.toNat (k:Int)])=some (k*1,.item (.int .u32 x)):=by
 show hitI 0 ((u32s l).sub [Int.toNat (k:Int)])=_
 rw[Int.toNat_natCast]
 simp[I.sub,hitI,h]
theorem V2 {l:List Int} {k:Nat} {x:Int} (h:l[k]?=some x) (y:Int):(u32s l).put ([]++[Int.toNat (k:Int)]) (.int .u32 y)=u32s (l.set k y):=by
 rw[Int.toNat_natCast]
 simp[I.put,h]
set_option maxHeartbeats 8000000

open Go.Proofs
def rotS (k:Int):Int:=Bg .and .u64 (IntKind.u64.wrap k) 31
def rotI (x k:Int):Int:=Bg .or .u32 (shlI .u32 x (rotS k)) (shrI .u32 x (IntKind.u64.wrap (32 - rotS k)))
theorem Zr (n:Int):0≤IntKind.u64.wrap n:=by rw[wrap_u64];omega
theorem Ahy (k:Int):0≤Bg .and .u64 (IntKind.u64.wrap k) 31:=by unfold Bg;exact Zr _
theorem Aqi (x k:Int):Fn Tryz.prog Fx [.v (.int .u32 x),.v (.int .i64 k)] (Is (.v (.int .u32 (rotI x k))) [.no,.no]):=by
 refine Lx ?_ (by simp)
 have h1:=Ahy k
 have h2:=Zr (32 - Bg .and .u64 (IntKind.u64.wrap k) 31)
 repeat'((conv=>whnf);(refine eI ?_ ?_;focus (and_intros<;>first|omega|exact rfl)))
 all_goals(try(conv=>whnf))
 exact Done.mk ⟨rfl,by kernel_rfl⟩ (by kernel_rfl)
theorem Ap9 {x k j:Int} (h1:rotS k=32 - j) (h2:0≤j∧j≤32):rotI x k=Fq x j:=by
 unfold rotI Fq
 rw[h1,show 32 - (32 - j)=j by omega,An2,wrap_u64,wrap_u64,Int.emod_eq_of_lt (by omega) (by omega),Int.emod_eq_of_lt (by omega) (by omega)]
theorem B1 (x k j:Int) (h1:rotS k=32 - j:=by decide) (h2:0≤j∧j≤32:=by decide):Fn Tryz.prog Fx [.v (.int .u32 x),.v (.int .i64 k)] (Is (.v (.int .u32 (Fq x j))) [.no,.no]):=by
 rw[←Ap9 h1 h2]
 exact Aqi x k
theorem Vp:Fn Tryz.prog Aci [] (Is (.v (u32s kays)) []):=by
 refine Aae ?_ (by simp)
 repeat'((conv=>whnf);(refine eI ?_ ?_;focus (and_intros<;>first|omega|exact rfl|exact A0 (by rfl))))
 all_goals(try(conv=>whnf))
 exact Done.mk ⟨by kernel_rfl,by kernel_rfl⟩ (by kernel_rfl)
theorem Aik:Fn Tryz.prog Adu [] (Is (.v (u32s H0.l)) []):=by
 refine Ac2 ?_ (by simp)
 repeat'((conv=>whnf);(refine eI ?_ ?_;focus (and_intros<;>first|omega|exact rfl|exact A0 (by rfl))))
 all_goals(try(conv=>whnf))
 exact Done.mk ⟨by kernel_rfl,by kernel_rfl⟩ (by kernel_rfl)
structure Strm where
 (w:H8) (e:TypeId) (rest:Ad) (size:Int)
abbrev Strm.toD (s:Strm):D:=.ptr (.st [.it (u32s s.w.l),.vec s.e 1 ((s.rest.map A2).map D.it),.it (.int .u64 s.size)])
theorem Ao3:Fn Tryz.prog X0 [] (Is (.own [] (Strm.toD ⟨H0,Aq2,[],0⟩)) []):=by
 refine Ae8 ?_ (by simp)
 repeat'((conv=>whnf);first|(refine eI ?_ ?_;focus (and_intros<;>first|exact rfl|(intro _ hh;cases hh;done)|decide))|(refine CallWp.mk ⟨_,Aik,?_⟩;rintro _ _ ⟨rfl,rfl⟩))
 all_goals(try(conv=>whnf))
 exact Done.mk ⟨by kernel_rfl,by kernel_rfl⟩ (by kernel_rfl)
end Go.Ab
