/- Lemmas -/
import Derived.Test.YtkpojedpcabojaaGreatDoorNV
set_option linter.unusedVariables false
set_option linter.unusedSimpArgs false
set_option maxRecDepth 100000
set_option maxHeartbeats 40000000
namespace Go.Ab
open Go.Proofs
def Azh(n:Nat)(b0 b1 b2 b3:Nat):Nat × Nat:=
 if b0<128 then(b0,1)
 else if b0 / 32=6∧1<n∧b1 / 64=2 then
  if b0 % 32*64+b1 % 64≥128 then(b0 % 32*64+b1 % 64,2)else(65533,1)
 else if b0 / 16=14∧1<n∧b1 / 64=2∧2<n∧b2 / 64=2 then
  if b0 % 16*4096+b1 % 64*64+b2 % 64≥2048∧Utf8.valid ((b0 % 16*4096+b1 % 64*64+b2 % 64:Nat):Int)=true then(b0 % 16*4096+b1 % 64*64+b2 % 64,3)else(65533,1)
 else if b0 / 8=30∧1<n∧b1 / 64=2∧2<n∧b2 / 64=2∧3<n∧b3 / 64=2 then
  if b0 % 8*262144+b1 % 64*4096+b2 % 64*64+b3 % 64≥65536∧Utf8.valid ((b0 % 8*262144+b1 % 64*4096+b2 % 64*64+b3 % 64:Nat):Int)=true then(b0 % 8*262144+b1 % 64*4096+b2 % 64*64+b3 % 64,4)else(65533,1)
 else(65533,1)
def Ce(l:Az)(k:Nat):Nat:=((l[k]?).getD 0).toNat
theorem Aec(l:Az):Kt l 0=Azh l.length (Ce l 0) (Ce l 1) (Ce l 2) (Ce l 3):=by
 have hs:(⟨⟨l⟩⟩:ByteArray).size=l.length:=rfl;have h0:((⟨⟨l⟩⟩:ByteArray).get! 0).toNat=Ce l 0:=by rw[E7];rfl
 have h1:((⟨⟨l⟩⟩:ByteArray).get! 1).toNat=Ce l 1:=by rw[E7];rfl
 have h2:((⟨⟨l⟩⟩:ByteArray).get! 2).toNat=Ce l 2:=by rw[E7];rfl
 have h3:((⟨⟨l⟩⟩:ByteArray).get! 3).toNat=Ce l 3:=by rw[E7];rfl
 unfold Kt Utf8.decode;simp only[E3,hs,h0,h1,h2,h3];generalize Ce l 0=b0;generalize Ce l 1=b1;generalize Ce l 2=b2;generalize Ce l 3=b3;generalize l.length=n;unfold Azh;simp only[Ap,decide_eq_true_eq,beq_iff_eq,and_assoc,ge_iff_le,Utf8.runeError]
def szN(n:Nat)(b0 b1 b2 b3:Nat):Nat:=
 if b0≤127 then 1
 else if(194≤b0∧b0≤223)∧1<n∧128≤b1∧b1≤191 then 2
 else if(1<n∧128≤b1∧b1≤191∧2<n∧128≤b2∧b2≤191)∧((b0=224∧160≤b1)∨(225≤b0∧b0≤236)∨(b0=237∧b1≤159)∨(238≤b0∧b0≤239))then 3
 else if(1<n∧128≤b1∧b1≤191∧2<n∧128≤b2∧b2≤191∧3<n∧128≤b3∧b3≤191)∧((b0=240∧144≤b1)∨(241≤b0∧b0≤243)∨(b0=244∧b1≤143))then 4
 else 0
theorem Bk(l:Az)(k:Nat)(lo hi:Nat):A8 l (k:Int) (lo:Int) (hi:Int)=decide (k<l.length∧lo≤Ce l k∧Ce l k≤hi):=by
 unfold A8 Ce;rw[Anj];cases h:l[k]? with
 |none=>
  have:=List.getElem?_eq_none_iff.1 h;symm;simp only[decide_eq_false_iff_not];omega
 |some c=>
  have:=(A7.1 h).1;simp only[Option.getD_some]
  congr 1
  rw[eq_iff_iff];omega
theorem Aee(l:Az):Fv l 1 1=decide (1<l.length∧128≤Ce l 1∧Ce l 1≤191):=by
 have h1:=Bk l 1 128 191;simp only[Fv,List.range_succ,List.range_zero,H4,List.all_cons,List.all_nil,Bool.and_true];exact h1
theorem Aef(l:Az):Fv l 1 2=decide (1<l.length∧128≤Ce l 1∧Ce l 1≤191∧2<l.length∧128≤Ce l 2∧Ce l 2≤191):=by
 have h1:=Bk l 1 128 191;have h2:=Bk l 2 128 191;have:Fv l 1 2=(A8 l ((1:Nat):Int) ((128:Nat):Int) ((191:Nat):Int)&&A8 l ((2:Nat):Int) ((128:Nat):Int) ((191:Nat):Int)):=by simp[Fv,List.range_succ]
 rw[this,h1,h2, ←Bool.decide_and]
 congr 1
 rw[eq_iff_iff];omega
theorem Aeg(l:Az):Fv l 1 3=decide (1<l.length∧128≤Ce l 1∧Ce l 1≤191∧2<l.length∧128≤Ce l 2∧Ce l 2≤191∧3<l.length∧128≤Ce l 3∧Ce l 3≤191):=by
 have h1:=Bk l 1 128 191;have h2:=Bk l 2 128 191;have h3:=Bk l 3 128 191;have:Fv l 1 3=(A8 l ((1:Nat):Int) ((128:Nat):Int) ((191:Nat):Int)&&(A8 l ((2:Nat):Int) ((128:Nat):Int) ((191:Nat):Int)&&A8 l ((3:Nat):Int) ((128:Nat):Int) ((191:Nat):Int))):=by simp[Fv,List.range_succ]
 rw[this,h1,h2,h3, ←Bool.decide_and, ←Bool.decide_and]
 congr 1
 rw[eq_iff_iff];omega
theorem Afg(l:Az)(hl:0<l.length):G9 l=(szN l.length (Ce l 0) (Ce l 1) (Ce l 2) (Ce l 3):Nat):=by
 have e1:A8 l 0 0 127=_:=Bk l 0 0 127;have e2:A8 l 0 194 223=_:=Bk l 0 194 223;have e3:A8 l 0 224 224=_:=Bk l 0 224 224;have e4:A8 l 1 160 191=_:=Bk l 1 160 191;have e5:A8 l 0 225 236=_:=Bk l 0 225 236;have e6:A8 l 0 237 237=_:=Bk l 0 237 237;have e7:A8 l 1 128 159=_:=Bk l 1 128 159;have e8:A8 l 0 238 239=_:=Bk l 0 238 239;have e9:A8 l 0 240 240=_:=Bk l 0 240 240;have e10:A8 l 1 144 191=_:=Bk l 1 144 191;have e11:A8 l 0 241 243=_:=Bk l 0 241 243;have e12:A8 l 0 244 244=_:=Bk l 0 244 244;have e13:A8 l 1 128 143=_:=Bk l 1 128 143;unfold G9 szN;rw[Aee,Aef,Aeg,e1,e2,e3,e4,e5,e6,e7,e8,e9,e10,e11,e12,e13];generalize Ce l 0=b0;generalize Ce l 1=b1;generalize Ce l 2=b2;generalize Ce l 3=b3;generalize l.length=n at hl ⊢;simp only[Ap,Q3,decide_eq_true_eq];repeat' split
 all_goals first|rfl|(exfalso;omega)
theorem Afq(l:Az)(k:Nat):Ce l k<256:=UInt8.toNat_lt _
theorem Adj(n b0 b1 b2 b3:Nat)(h0:b0<256)(hn:0<n):
 (szN n b0 b1 b2 b3=0∧Azh n b0 b1 b2 b3=(65533,1))∨
 (szN n b0 b1 b2 b3=1∧Azh n b0 b1 b2 b3=(b0,1)∧b0<128)∨
 (szN n b0 b1 b2 b3=2∧2≤n∧∃r,Azh n b0 b1 b2 b3=(r,2)∧128≤r∧r≤1114111∧(161≤r↔(b0=194→161≤b1)))∨
 (szN n b0 b1 b2 b3=3∧3≤n∧∃r,Azh n b0 b1 b2 b3=(r,3)∧161≤r∧r≤1114111)∨
 (szN n b0 b1 b2 b3=4∧4≤n∧∃r,Azh n b0 b1 b2 b3=(r,4)∧161≤r∧r≤1114111):=by
 unfold szN;split
 ·rename_i hb;refine .inr (.inl ⟨rfl,?_,by omega⟩)
  unfold Azh;rw[if_pos (show b0<128 by omega)]
 split
 ·refine .inr (.inr (.inl ⟨rfl,by omega,b0 % 32*64+b1 % 64,?_,by omega,by omega,by omega⟩))
  unfold Azh;rw[if_neg (by omega),if_pos (by omega),if_pos (by omega)]
 split
 ·refine .inr (.inr (.inr (.inl ⟨rfl,by omega,b0 % 16*4096+b1 % 64*64+b2 % 64,?_,by omega,by omega⟩)))
  unfold Azh;rw[if_neg (by omega),if_neg (by omega),if_pos (by omega),if_pos ⟨by omega,by simp only[Utf8.valid,Q3,Ap,decide_eq_true_eq];omega⟩]
 split
 ·refine .inr (.inr (.inr (.inr ⟨rfl,by omega,b0 % 8*262144+b1 % 64*4096+b2 % 64*64+b3 % 64,?_,by omega,by omega⟩)))
  unfold Azh;rw[if_neg (by omega),if_neg (by omega),if_neg (by omega),if_pos (by omega),if_pos ⟨by omega,by simp only[Utf8.valid,Q3,Ap,decide_eq_true_eq];omega⟩]
 ·refine .inl ⟨rfl,?_⟩;unfold Azh;rw[if_neg (by omega)]
  split
  ·rw[if_neg (by omega)]
  split
  ·rw[if_neg];rintro⟨hv1,hv2⟩;simp only[Utf8.valid,Q3,Ap,decide_eq_true_eq]at hv2;omega
  split
  ·rw[if_neg];rintro⟨hv1,hv2⟩;simp only[Utf8.valid,Q3,Ap,decide_eq_true_eq]at hv2;omega
  rfl
theorem Afd(c d:UInt8):E8 [c,d]=decide (c.toNat=194→161≤d.toNat):=by
 simp only[E8];split
 ·congr 1
  rw[eq_iff_iff];omega
 ·symm;simp only[decide_eq_true_eq];omega
theorem Ye(c d e:UInt8)(r:Az):E8 (c::d::e::r)=true:=rfl
theorem Z1(l:Az)(hl:0<l.length):
 (G9 l=0∧Kt l 0=(65533,1))∨
 (∃c r,l=c::r∧G9 l=1∧Kt l 0=(c.toNat,1)∧c.toNat<128)∨
 (∃k r:Nat,2≤k∧G9 l=(k:Int)∧k≤l.length∧Kt l 0=(r,k)∧128≤r∧r≤1114111∧E8 (l.take k)=decide (161≤r)):=by
 rw[Afg l hl,Aec];rcases Adj l.length (Ce l 0) (Ce l 1) (Ce l 2) (Ce l 3) (Afq l 0) hl with⟨h1,h2⟩|⟨h1,h2,h3⟩|⟨h1,h2,r,h3,h4,h5,h6⟩|⟨h1,h2,r,h3,h4,h5⟩|⟨h1,h2,r,h3,h4,h5⟩
 ·rw[h1,h2];exact .inl ⟨rfl,rfl⟩
 ·rw[h1,h2];cases l with
  |nil=>simp at hl
  |cons c r=>exact .inr (.inl ⟨c,r,rfl,rfl,rfl,h3⟩)
 ·rw[h1,h3];rcases l with _|⟨c,_|⟨d,t⟩⟩
  ·simp at hl
  ·simp at h2
  ·refine .inr (.inr ⟨2,r,by omega,rfl,h2,rfl,h4,h5,?_⟩)
   show E8 [c,d]=_;rw[Afd]
   congr 1
   rw[eq_iff_iff];exact h6.symm
 ·rw[h1,h3];rcases l with _|⟨c,_|⟨d,_|⟨e,t⟩⟩⟩
  ·simp at hl
  ·simp at h2
  ·simp at h2
  ·exact .inr (.inr ⟨3,r,by omega,rfl,h2,rfl,by omega,h5,by show E8 [c,d,e]=_;rw[Ye];simp[h4]⟩)
 ·rw[h1,h3];rcases l with _|⟨c,_|⟨d,_|⟨e,_|⟨f,t⟩⟩⟩⟩
  ·simp at hl
  ·simp at h2
  ·simp at h2
  ·simp at h2
  ·exact .inr (.inr ⟨4,r,by omega,rfl,h2,rfl,by omega,h5,by show E8 [c,d,e,f]=_;rw[Ye];simp[h4]⟩)

open Go.Proofs
theorem Fn.Bpv{P:Program}{f:FuncId}{s:Az}{rest:List SV}{Ad3:SV→List SV→Prop}(h:s.length≤maxLen→Fn P f (.v (.str s)::rest) Ad3):Fn P f (.v (.str s)::rest) Ad3:=by
 intro G σ Fr w Ahz H2 Hr Ar2;have h0:=(Ar2 0 _ rfl).2;exact h (C7.str.1 h0).2 G σ Fr w Ahz H2 Hr Ar2
theorem Tz(s:Az)(p:Nat)(hp:p<s.length):Lib.decodeGo ⟨⟨s.drop p⟩⟩=Kt s p:=by
 rw[Gp s p];unfold Lib.decodeGo;rw[if_neg]
 ·rfl
 ·show ¬(s.drop p).length=0;rw[Ei];omega
theorem L3(s:Az)(p:Nat)(hp:p<s.length)(r:Int):Fn Tryz.prog Ur [.v (.str s),.v (.int .i64 p),.v (.int .i32 r)] (Is (.v (.bool (decide (r=65533)&&decide ((Kt s p).2=1)))) [.no,.no,.no]):=by
 refine T6 ?_ (by simp)
 have hd:=X6 (s.drop p);rw[Tz s p hp]at hd;by_cases hr:r=65533
 ·have hb0:¬(!decide (r=65533))=true:=by simp[hr]
  repeat'((conv=>whnf);first|(refine A5 (fun hb=>?_) (fun hb=>?_)<;>first|exact absurd hb (by assumption)|(try rw[hb]);(try simp only[Aa]at hb);try subst hb)|refine Ac ?_ ?_;focus (and_intros<;>first|omega|exact rfl|intro _ hh;cases hh;done|simp;done|decide)|simp only[List.headD,Anj,List.take_length]|refine Ct.mk ⟨_,hd,?_⟩;rintro _ _ ⟨rfl,rfl⟩)
  all_goals(try(conv=>whnf))
  refine Am1.mk ⟨SV.Aju ?_,by kernel_rfl⟩ (by kernel_rfl)
  rw[eq_comm,Bool.eq_iff_iff];simp;omega
 ·repeat'((conv=>whnf);(refine A5 (fun hb=>?_) (fun hb=>?_)<;>first|(exfalso;((simp only[An]at hb<;>omega)))|((try rw[hb]);(try simp only[Aa]at hb))))
  all_goals(try(conv=>whnf))
  all_goals first|contradiction|skip
  refine Am1.mk ⟨SV.Aju (by simp[hr]),by kernel_rfl⟩ (by kernel_rfl)
theorem Tt(r:Int):Fn Tryz.prog W7 [.v (.int .i32 r)] (Is (.v (.bool (decide (161≤r)))) [.no]):=by
 refine Vj ?_ (by simp)
 (skip)
 all_goals(try(conv=>whnf))
 exact Am1.mk ⟨SV.Aju (by simp),by kernel_rfl⟩ (by kernel_rfl)
theorem J5{f:Nat}{s:Az}{p n:Nat}{c:UInt8}(hc:s[p]?=some c){k:Nat}(hk:G9 (s.drop p)=(k:Int)):
 Ey (f+1) s p n=(if k=0 then false else if A0f k c.toNat p ((s.drop p).take k)=true then false else if 24<n+1 then false else Ey f s (p+k) (n+1)):=by
 rw[Ey,hc];dsimp only;rw[hk,Anj]
theorem S1{f:Nat}{s:Az}{p n:Nat}{c:UInt8}(hc:s[p]?=some c){k:Nat}(hk:G9 (s.drop p)=(k:Int))(hk0:0<k)(hkl:k≤s.length - p)(hp:p<s.length)
 (hb:A0f k c.toNat p ((s.drop p).take k)=false) (h2:s.length<f+1+p) (h3:n≤p) (h4:n≤24→Ey (f+1) s p n=D9 s) (h5:24<n→D9 s=false):
 p+k≤s.length∧s.length<f+(p+k)∧n+1≤p+k∧(n+1≤24→Ey f s (p+k) (n+1)=D9 s)∧(24<n+1→D9 s=false):=by
 refine⟨by omega,by omega,by omega,fun h=>?_,fun h=>?_⟩
 ·rw[←h4 (by omega),J5 hc hk,if_neg (by omega),hb,if_neg (by simp),if_neg (by omega)]
 ·by_cases h24:24<n
  ·exact h5 h24
  ·rw[←h4 (by omega),J5 hc hk,if_neg (by omega),hb,if_neg (by simp),if_pos h]
theorem P9{f:Nat}{s:Az}{p n:Nat}{c:UInt8}(hc:s[p]?=some c){k:Nat}(hk:G9 (s.drop p)=(k:Int))
 (hb:k=0∨A0f k c.toNat p ((s.drop p).take k)=true) (h4:n≤24→Ey (f+1) s p n=D9 s) (h5:24<n→D9 s=false):D9 s=false:=by
 by_cases h24:24<n
 ·exact h5 h24
 ·rw[←h4 (by omega),J5 hc hk]
  rcases hb with hb|hb
  ·rw[if_pos hb]
  ·rw[hb];split<;>simp
theorem Aa1(s:Az):Fn Tryz.prog Mr [.v (.str s)] (Is (.v (.bool (D9 s))) [.no]):=Fn.Bpv fun hl=>by
 refine T5 ?_ (by simp)
 (skip)
 all_goals(try(conv=>whnf))
 refine Afm.by (X:=Nat × Nat × Nat) (fun x=>[(3,.v (.int .i64 x.2.2)),(7,.sit s x.2.1)]) (fun x=>x.2.1≤s.length∧s.length<x.1+x.2.1∧x.2.2≤x.2.1∧(x.2.2≤24→Ey x.1 s x.2.1 x.2.2=D9 s)∧(24<x.2.2→D9 s=false)) (fun x=>s.length - x.2.1)
  (s.length+1,0,0) (by kernel_rfl) ⟨Cr _,by dsimp only;omega,Bz _,fun _=>rfl,fun h=>by simp at h⟩ ?_
 rintro⟨f,p,n⟩ ⟨h1,h2,h3,h4,h5⟩;dsimp only at h1 h2 h3 h4 h5 ⊢;obtain⟨f,rfl⟩:∃g,f=g+1:=⟨f - 1,by omega⟩
 by_cases hp:p<s.length
 case neg=>
  have Ze:¬decide (p<s.length)=true:=by simp;omega
  have hv:D9 s=(decide (0<n)&&decide (n≤24)):=by
   by_cases h24:n≤24
   ·rw[←h4 h24,Ey,Aic (by omega)]
    simp[h24]
   ·rw[h5 (by omega)]
    simp[h24]
  rw[hv];repeat'((conv=>whnf);(refine A5 (fun hb=>?_) (fun hb=>?_)<;>first|(exact absurd hb (by first|assumption|decide))|((try rw[hb]);(try simp only[Aa]at hb))))
  all_goals(try(conv=>whnf))
  all_goals refine Am1.mk ⟨SV.Aju ?_,by kernel_rfl⟩ (by kernel_rfl)
  all_goals(rw[Bool.eq_iff_iff];simp;omega)
 have Ze:¬decide (p<s.length)=false:=by simp[hp]
 obtain⟨c,hc⟩:∃c,s[p]?=some c:=⟨_,Ae hp⟩;have hdl:(s.drop p).length=s.length - p:=Ei ..;have hwn:IntKind.i64.wrap ((n:Int)+1)=((n+1:Nat):Int):=Dk (n:=maxLen) (by omega) (Bz _)
 rcases Z1 (s.drop p) (by omega)with⟨hk,hr⟩|⟨c',t,hd,hk,hr,hc8⟩|⟨k,r,hk2,hk,hkl,hr,hr1,hr2,hit⟩
 ·rw[←Gp]at hr;have hw:=L3 s p hp (65533:Nat);rw[hr]at hw;rw[P9 hc hk (.inl rfl) h4 h5];repeat'((conv=>whnf);first|(refine A5 (fun hb=>?_) (fun hb=>?_)<;>first|exact absurd hb (by first|assumption|decide)|(try rw[hb]);try simp only[Aa]at hb)|refine Ac ?_ ?_;focus (and_intros<;>first|intro _ hh;cases hh;done|simp;done|decide)|simp only[hr]|refine Ct.mk ⟨_,hw,?_⟩;rintro _ _ ⟨rfl,rfl⟩)
  all_goals(try(conv=>whnf))
  (apply Dj<;>kernel_rfl)
 ·rw[←Gp]at hr;obtain rfl:c=c':=by
   have:=congrArg (fun q=>q[0]?) hd
   simp only[Ae3,Amf,Fa]at this;rw[hc]at this;exact Aag this
  have hw:=L3 s p hp (c.toNat:Nat);rw[hr,show(decide (((c.toNat:Nat):Int)=65533)&&decide (((c.toNat,1):Nat × Nat).2=1))=false by simp;omega]at hw
  have hh:=Tt (c.toNat:Nat);rw[show decide (161≤((c.toNat:Nat):Int))=false by simp;omega]at hh
  have hlen:1≤s.length - p:=by omega
  have A68:=fun hb=>S1 hc (k:=1) hk (by omega) hlen hp hb h2 h3 h4 h5
  have Ba1:=fun hb=>P9 (k:=1) hc hk (.inr hb) h4 h5
  rw[hd]at A68 Ba1;generalize hm:D9 s=m at*;have hB:∀q,A0f 1 (c.toNat:Nat) p q=true↔¬((97≤c.toNat∧c.toNat≤122)∨(48≤c.toNat∧c.toNat≤57)∨c.toNat=95∨(c.toNat=45∧0<p)):=fun q=>by
   simp only[A0f];simp;omega
  have hB':∀q,A0f 1 (c.toNat:Nat) p q=false↔((97≤c.toNat∧c.toNat≤122)∨(48≤c.toNat∧c.toNat≤57)∨c.toNat=95∨(c.toNat=45∧0<p)):=fun q=>by
   have:=hB q;cases hx:A0f 1 (c.toNat:Nat) p q
   ·rw[hx]at this;simp at this;simp;omega
   ·rw[hx]at this;simp at this;simp;omega
  repeat'((conv=>whnf);first|(refine A5 (fun hb=>?_) (fun hb=>?_)<;>first|exact absurd hb (by first|assumption|decide)|exfalso;((simp only[An]at hb<;>omega))|(try rw[hb]);try simp only[Aa]at hb)|refine Ac ?_ ?_;focus (and_intros<;>first|intro _ hh;cases hh;done|simp;done|decide)|simp only[hr]|refine Ct.mk ⟨_,hw,?_⟩;rintro _ _ ⟨rfl,rfl⟩|refine Ct.mk ⟨_,hh,?_⟩;rintro _ _ ⟨rfl,rfl⟩)
  all_goals(try(conv=>whnf))
  all_goals first
   |(refine Am1.mk ⟨congrArg (fun b=>SV.v (.bool b)) (Ba1 ((hB _).2 (by omega))).symm,by kernel_rfl⟩ (by kernel_rfl);done)
   |(refine Round.by (f,p+1,n+1) ?_ (A68 ((hB' _).2 (by omega))) (by dsimp only;omega)
     rw[hwn];show norm _ _=Cx _ _
     kernel_rfl)
 ·rw[←Gp]at hr;have hw:=L3 s p hp (r:Nat);rw[hr,show(decide (((r:Nat):Int)=65533)&&decide (((r,k):Nat × Nat).2=1))=false by simp;omega]at hw
  have hh:=Tt (r:Nat);have A68:=fun hb=>S1 hc (k:=k) hk (by omega) (by omega) hp hb h2 h3 h4 h5
  have Ba1:=fun hb=>P9 (k:=k) hc hk (.inr hb) h4 h5
  have hB:A0f k c.toNat p ((s.drop p).take k)= !decide (161≤r):=by
   simp only[A0f,hit];rw[show decide (k=1)=false by simp;omega,show decide (1<k)=true by simp;omega]
   simp
  rw[hB]at A68 Ba1;generalize hm:D9 s=m at*;by_cases Bmy:161≤r
  ·rw[show decide (161≤((r:Nat):Int))=true by simp;omega]at hh
   repeat'((conv=>whnf);first|(refine A5 (fun hb=>?_) (fun hb=>?_)<;>first|exact absurd hb (by first|assumption|decide)|exfalso;((simp only[An]at hb<;>omega))|(try rw[hb]);try simp only[Aa]at hb)|refine Ac ?_ ?_;focus (and_intros<;>first|intro _ hh;cases hh;done|simp;done|decide)|simp only[hr]|refine Ct.mk ⟨_,hw,?_⟩;rintro _ _ ⟨rfl,rfl⟩|refine Ct.mk ⟨_,hh,?_⟩;rintro _ _ ⟨rfl,rfl⟩)
   all_goals(try(conv=>whnf))
   refine Round.by (f,p+k,n+1) ?_ (A68 (by simp[Bmy])) (by dsimp only;omega)
   rw[hwn];show norm _ _=Cx _ _
   kernel_rfl
  ·rw[show decide (161≤((r:Nat):Int))=false by simp;omega]at hh
   repeat'((conv=>whnf);first|(refine A5 (fun hb=>?_) (fun hb=>?_)<;>first|exact absurd hb (by first|assumption|decide)|exfalso;((simp only[An]at hb<;>omega))|(try rw[hb]);try simp only[Aa]at hb)|refine Ac ?_ ?_;focus (and_intros<;>first|intro _ hh;cases hh;done|simp;done|decide)|simp only[hr]|refine Ct.mk ⟨_,hw,?_⟩;rintro _ _ ⟨rfl,rfl⟩|refine Ct.mk ⟨_,hh,?_⟩;rintro _ _ ⟨rfl,rfl⟩)
   all_goals(try(conv=>whnf))
   exact Am1.mk ⟨congrArg (fun b=>SV.v (.bool b)) (Ba1 (by simp[Bmy])).symm,by kernel_rfl⟩ (by kernel_rfl)

open Go.Proofs
abbrev Asy:FuncId:=3
abbrev Kb:FuncId:=5
def Hn:Stm:=(sO [gA 0 cF] (sO [gC 6 23 [],gA 1 6] (sO [gM 7 1,gC 8 24 [(true,7),nL (cS [116])]] (sO [gM 9 1,O1 (.build 10 [(.str []),(.str []),(.bool false)] [(0,(cS [97])),(1,(cS [49]))]),O1 (.bsl 11 73 3 (.agg [(.str []),(.str []),(.bool false)]) 1 [(0,10)]),gC 12 25 [(true,9),nL (cS [116]),nL 11]] (sO [gM 14 1,O1 (.build 15 [(.str []),(.int .i64 0),(.int .i64 0),(.str [])] [(0,(cS [97])),(1,(cI 1)),(3,(cS [49]))]),O1 (.bsl 16 75 4 (.agg [(.str []),(.int .i64 0),(.int .i64 0),(.str [])]) 1 [(0,15)]),O1 (.build 17 [(.int .i64 0),(.agg [(.str []),(.str [])]),(.str []),(.str []),(.int .i64 0),(.int .i64 0)] [(0,(cI 2)),(2,(cS [98])),(3,(cS [50]))]),O1 (.build 18 [(.int .i64 0),(.agg [(.str []),(.str [])]),(.str []),(.str []),(.int .i64 0),(.int .i64 0)] [(0,(cI 3))]),O1 (.bsl 19 77 7 (.agg [(.int .i64 0),(.agg [(.str []),(.str [])]),(.str []),(.str []),(.int .i64 0),(.int .i64 0)]) 2 [(0,17),(1,18)]),gC 20 8 [(true,14),nL (cS [116]),nL 16,nL 19,nL (.Ahc 77 7)],gA 13 20,gE 21 13 0,gE 22 13 1,gE 23 13 2,gE 24 13 3,gA 2 21,gA 3 22,gA 4 23,gA 5 24] (sO [gM 25 5,gB 26 .eql 25 (cI 0),gM 27 26,qt 27 (iM 28 2),gP 29 27 28 cF,gM 30 29,qt 30 (iM 31 3),qt 30 (iN 32 31),qt 30 (iB 33 .eql 32 (cI 2)),gP 34 30 33 cF,gM 35 34,qt 35 (iM 36 3),qt 35 (iI 37 3 36 (cI 1)),qt 35 (iG 38 37 2 2),qt 35 (iL 39 38),qt 35 (iB 40 .eql 39 (cI 1)),gP 41 35 40 cF,gM 42 41,qt 42 (iM 43 4),qt 42 (iN 44 43),qt 42 (iB 45 .eql 44 (cI 2)),gP 46 42 45 cF,gM 47 46,qt 47 (iM 48 4),qt 47 (iI 49 3 48 (cI 1)),qt 47 (iU 50 3 49),qt 47 (.build 51 [(.str []),(.str []),(.bool false)] [(0,(cS [97])),(2,cT)]),qt 47 (.eqs 52 false (.st [.str,.str,.bool]) 50 51),gP 53 47 52 cF,gA 0 53] .ret))))))
theorem Hv:OF 5 54 Hn [.t 0]:=oF Tryz.func5 rfl Tryz.ntmps5
abbrev Auw:FuncId:=6
abbrev Gt:FuncId:=7
def Ga:Stm:=(sO [O1 (.box 1 0),gA 2 cF] (sO [gF 10 1 0,gL 11 10,gN 12 11,gF 13 1 1,gL 14 13,gN 15 14,gB 16 .add 12 15,gF 17 1 2,gL 18 17,gN 19 18,gB 20 .add 16 19,gA 3 20] (.seq (sO [gM 21 3,gB 22 .gtr 21 (cI 60)] (cR 22 [gA 2 cT])) (.seq (sO [gF 23 1 0,gL 24 23,gN 25 24,gM 26 (cI 0)] (.block 0 (.loop [2,5,27,28,29,30,31,32,33,34,35,36,37,38,39,40,51] (sO [gB 27 .lss 26 25] (.seq (.cond 27 .skip (.exit 0)) (.seq (.block 1 (sO [gI 28 4 24 26,gU 29 4 28,O1 (.alloc 5 (.one (.i (.agg [(.str []),(.int .i64 0),(.int .i64 0),(.str [])])))),gS 4 5 29] (sO [gF 30 5 0,gL 31 30,O1 (.len 32 true 31),gB 33 .gtr 32 (cI 1000),gM 34 33,qf 34 (iG 35 5 3 3),qf 34 (iL 36 35),qf 34 (.len 37 true 36),qf 34 (iB 38 .gtr 37 (cI 1000)),gP 39 34 cT 38] (cR 39 [gA 2 cT])))) (.ops [gB 40 .add 26 (cI 1),gM 26 40]))))))) (.seq (sO [gF 41 1 1,gL 42 41,gF 43 1 2,gL 44 43,O1 (.bsl 45 24 1 (.list []) 2 [(0,42),(1,44)]),gN 46 45,gM 47 (cI 0)] (.block 2 (.loop (kr [2,7,9] 48 35) (sO [gB 48 .lss 47 46] (.seq (.cond 48 .skip (.exit 2)) (.seq (.block 3 (sO [gI 49 1 45 47,gL 50 49,gA 7 50] (sO [gM 51 7,gN 52 51,gM 53 (cI 0)] (.block 4 (.loop (kr [2,9] 54 28) (sO [gB 54 .lss 53 52] (.seq (.cond 54 .skip (.exit 4)) (.seq (.block 5 (sO [gI 55 7 51 53,gU 56 7 55,O1 (.alloc 9 (.one (.i (.agg [(.int .i64 0),(.agg [(.str []),(.str [])]),(.str []),(.str []),(.int .i64 0),(.int .i64 0)])))),gS 7 9 56] (sO [gG 57 9 2 3,gL 58 57,O1 (.len 59 true 58),gB 60 .gtr 59 (cI 1000),gM 61 60,qf 61 (iG 62 9 3 4),qf 61 (iL 63 62),qf 61 (.len 64 true 63),qf 61 (iB 65 .gtr 64 (cI 1000)),gP 66 61 cT 65,gM 67 66,qf 67 (iG 68 9 1 1),qf 67 (iG 69 68 0 0),qf 67 (iL 70 69),qf 67 (.len 71 true 70),qf 67 (iB 72 .gtr 71 (cI 1000)),gP 73 67 cT 72,gM 74 73,qf 74 (iG 75 9 1 1),qf 74 (iG 76 75 1 1),qf 74 (iL 77 76),qf 74 (.len 78 true 77),qf 74 (iB 79 .gtr 78 (cI 1000)),gP 80 74 cT 79] (cR 80 [gA 2 cT])))) (.ops [gB 81 .add 53 (cI 1),gM 53 81]))))))))) (.ops [gB 82 .add 47 (cI 1),gM 47 82]))))))) (sO [gA 2 cF] .ret))))))
theorem Gn:OF 7 83 Ga [.t 2]:=oF Tryz.func7 rfl Tryz.ntmps7
abbrev F4:FuncId:=8
def Aqm:Stm:=(sO [gA 10 cF,gA 11 (.Ahc 80 3),gA 12 (.Ahc 73 3),gA 13 (cI 0)] (.seq (.block 0 (sO [gM 28 0,gC 29 31 [(true,28)],gM 30 1,gC 31 30 [nL 29,nL 30],gT 32 31,gA 27 32] (.cond 27 (sO [gA 10 cF,gA 11 (.Ahc 80 3),gA 12 (.Ahc 73 3),gA 13 (cI 16)] .ret) (sO [gM 34 2,gM 35 3,gM 36 4,gC 37 32 [nL 34,nL 35,nL 36],gT 38 37,gA 33 38] (cR 33 [gA 10 cF,gA 11 (.Ahc 80 3),gA 12 (.Ahc 73 3),gA 13 (cI 1)]))))) (sO [gM 39 0,gM 40 1,gM 41 2,gC 42 12 [(true,39),nL 40,nL 41],gA 14 42] (sO [gM 43 4,O1 (.mov 15 77 7 43)] (.seq (sO [gM 44 14] (.cond 44 (.ops [gM 45 3,O1 (.mov 15 77 7 45)]) .skip)) (sO [gA 16 (.Ahc 80 3)] (sO [gA 17 (.Ahc 73 3)] (.seq (sO [gM 46 15,gN 47 46,gM 48 (cI 0)] (.block 1 (.loop [10,11,12,13,19,20,21,22,23,24,26,34,35,36,41,43,45,49,50,51,52,53,54,55,56,57,58,59,60,61,62,63,64,65,66,67,68,69,70,71,72,73,74,75,76,77,78,79,80,81,82,83,84,85,86,87,88,89,90,91,92,93,94,95,96,97,98,99,100,101,102,103,104,105,106,107,108,109,110,111,112,113,114,115,117,118] (sO [gB 49 .lss 48 47] (.seq (.cond 49 .skip (.exit 1)) (.seq (.block 2 (sO [gI 50 7 46 48,gU 51 7 50,O1 (.alloc 19 (.one (.i (.agg [(.int .i64 0),(.agg [(.str []),(.str [])]),(.str []),(.str []),(.int .i64 0),(.int .i64 0)])))),gS 7 19 51] (sO [O1 (.alloc 20 (.one (.i (.agg [(.list []),(.bool false),(.int .i64 0)]))))] (.seq (sO [gF 52 19 0,gL 53 52] (.block 3 (sO [gB 55 .eql 53 (cI 1),gA 54 55] (.cond 54 (sO [gG 56 19 5 6,gL 57 56,gA 21 57] (.seq (sO [gM 58 21,gB 59 .eql 58 (cI 0)] (.cond 59 (.ops [gA 21 (cI 16)]) .skip)) (sO [gM 61 0,gM 62 1,gF 63 19 1,gU 64 2 63,gG 65 19 4 5,gL 66 65,gM 67 21,gC 68 33 [(true,61),nL 62,nL 64,nL 66,nL 67],gA 60 68,gE 69 60 0,gE 70 60 1,gE 71 60 2,gA 22 69,gA 23 70,gA 24 71] (.seq (sO [gM 72 24,gB 73 .neq 72 (cI 0)] (cR 73 [gM 74 24,gA 10 cF,gA 11 (.Ahc 80 3),gA 12 (.Ahc 73 3),gA 13 74])) (.ops [gM 75 22,gM 76 23,gF 77 20 0,gS 1 77 75,gF 78 20 1,gS 1 78 76]))))) (sO [gB 80 .eql 53 (cI 2),gA 79 80] (.cond 79 (.ops [gM 81 17,gG 82 19 2 3,gL 83 82,gG 84 19 3 4,gL 85 84,O1 (.build 86 [(.str []),(.str []),(.bool false)] [(0,83),(1,85)]),O1 (.bsl 87 73 3 (.agg [(.str []),(.str []),(.bool false)]) 1 [(0,86)]),O1 (.app 88 73 3 40 81 87),gA 17 88]) (sO [gB 90 .eql 53 (cI 3),gA 89 90] (.cond 89 (sO [gM 91 0,gM 92 1,gF 93 19 1,gU 94 2 93,gC 95 34 [(true,91),nL 92,nL 94],gN 96 95,gM 97 (cI 0)] (.block 4 (.loop [26,34,35,36,41,43,45,75,81,98,99,100,101,102,103,104,105,106,107,108,109,110,111,117,118] (sO [gB 98 .lss 97 96] (.seq (.cond 98 .skip (.exit 4)) (.seq (.block 5 (sO [gI 99 1 95 97,gL 100 99,gA 26 100] (sO [gM 101 17,gM 102 26,O1 (.build 103 [(.str []),(.str []),(.bool false)] [(0,102),(2,cT)]),O1 (.bsl 104 73 3 (.agg [(.str []),(.str []),(.bool false)]) 1 [(0,103)]),O1 (.app 105 73 3 40 101 104),gA 17 105] (.ops [gF 106 20 2,gL 107 106,gB 108 .add 107 (cI 1),gF 109 20 2,gS 1 109 108])))) (.ops [gB 110 .add 97 (cI 1),gM 97 110]))))))) .skip)))))))) (.ops [gM 111 16,gU 112 3 20,O1 (.bsl 113 80 3 (.agg [(.list []),(.bool false),(.int .i64 0)]) 1 [(0,112)]),O1 (.app 114 80 3 40 111 113),gA 16 114]))))) (.ops [gB 115 .add 48 (cI 1),gM 48 115]))))))) (sO [gM 116 14,gM 117 16,gM 118 17,gA 10 116,O1 (.mov 11 80 3 117),O1 (.mov 12 73 3 118),gA 13 (cI 0)] .ret)))))))))
theorem Ajw:OF 8 119 Aqm [.t 10,.t 11,.t 12,.t 13]:=oF Tryz.func8 rfl Tryz.ntmps8
abbrev Apf:FuncId:=12
def Aot:Stm:=(sO [gA 6 cF] (.seq (sO [gM 14 2,gN 15 14,gM 16 (cI 0)] (.block 0 (.loop (kr [6,8,9,10,11,12,13] 17 70) (sO [gB 17 .lss 16 15] (.seq (.cond 17 .skip (.exit 0)) (.seq (.block 1 (sO [gI 18 4 14 16,gU 19 4 18,O1 (.alloc 8 (.one (.i (.agg [(.str []),(.int .i64 0),(.int .i64 0),(.str [])])))),gS 4 8 19] (sO [gM 21 0,gM 22 1,gF 23 8 0,gL 24 23,gC 25 40 [nL 24],gC 26 33 [(true,21),nL 22,nL 25,nL (cI 0),nL (cI 1)],gA 20 26,gE 27 20 0,gE 28 20 1,gE 29 20 2,gA 9 27,gA 10 28,gA 11 29] (sO [gM 30 9,gN 31 30,gB 32 .gtr 31 (cI 0),gA 12 32] (sO [gA 13 cF] (.seq (sO [gF 33 8 1,gL 34 33] (.block 2 (sO [gB 36 .eql 34 (cI 1),gA 35 36] (.cond 35 (.drw [0,1,3,7,15,31,3,67,255,511,1023] [gM 37 12,gM 38 37,qt 38 (iM 39 9),qt 38 (iI 40 4 39 (cI 0)),qt 38 (iG 41 40 1 1),qt 38 (iL 42 41),qt 38 (iG 43 8 3 3),qt 38 (iL 44 43),qt 38 (iB 45 .eql 42 44),gP 46 38 45 cF,gA 13 46]) (sO [gB 48 .eql 34 (cI 2),gA 47 48] (.cond 47 (.ops [gM 49 12,gT 50 49,gA 13 50]) (sO [gB 52 .eql 34 (cI 3),gA 51 52] (.cond 51 (.drw [0,1,3,7,15,31,3,67,255,511,1023,2047,4095,8191,16383,32767,65535,131071,262143,524287] [gM 53 12,gM 54 53,qt 54 (iM 55 9),qt 54 (iI 56 4 55 (cI 0)),qt 54 (iG 57 56 3 3),qt 54 (iL 58 57),qt 54 (iG 59 8 2 2),qt 54 (iL 60 59),qt 54 (iB 61 .eql 58 60),gP 62 54 61 cF,gM 63 62,qf 63 (iM 64 12),qf 63 (iT 65 64),qf 63 (iM 66 65),qt 66 (iG 67 8 2 2),qt 66 (iL 68 67),qt 66 (iB 69 .eql 68 (cI 0)),qf 63 (iP 70 66 69 cF),gP 71 63 cT 70,gA 13 71]) (sO [gB 73 .eql 34 (cI 4),gA 72 73] (.cond 72 (.drw [0,1,3,7,15,31,3,67,255,511,1023] [gM 74 12,gM 75 74,qt 75 (iM 76 9),qt 75 (iI 77 4 76 (cI 0)),qt 75 (iG 78 77 3 3),qt 75 (iL 79 78),qt 75 (iG 80 8 2 2),qt 75 (iL 81 80),qt 75 (iB 82 .lss 79 81),gP 83 75 82 cF,gA 13 83]) .skip)))))))))) (sO [gM 84 13,gT 85 84] (cR 85 [gA 6 cF])))))))) (.ops [gB 86 .add 16 (cI 1),gM 16 86]))))))) (sO [gA 6 cT] .ret)))
theorem Ao2:OF 12 87 Aot [.t 6]:=oF Tryz.func12 rfl Tryz.ntmps12
abbrev Aph:FuncId:=32
def Aov:Stm:=(sO [gA 6 cF] (.seq (.seq (sO [gM 11 0,gN 12 11,gB 13 .gtr 12 (cI 4),gM 14 13,qf 14 (iM 15 1),qf 14 (iN 16 15),qf 14 (iB 17 .gtr 16 (cI 8)),gP 18 14 cT 17,gM 19 18,qf 19 (iM 20 2),qf 19 (iN 21 20),qf 19 (iB 22 .gtr 21 (cI 8)),gP 23 19 cT 22] (cR 23 [gA 6 cF])) (.seq (sO [gM 24 0,gN 25 24,gM 26 (cI 0)] (.block 0 (.loop (kr [6,8,11,15,20] 27 32) (sO [gB 27 .lss 26 25] (.seq (.cond 27 .skip (.exit 0)) (.seq (.block 1 (sO [gI 28 4 24 26,gU 29 4 28,O1 (.alloc 8 (.one (.i (.agg [(.str []),(.int .i64 0),(.int .i64 0),(.str [])])))),gS 4 8 29] (sO [gF 30 8 0,gL 31 30,gC 32 70 [nL 31],gT 33 32,gM 34 33,qf 34 (iG 35 8 1 1),qf 34 (iL 36 35),qf 34 (iB 37 .lss 36 (cI 1)),gP 38 34 cT 37,gM 39 38,qf 39 (iG 40 8 1 1),qf 39 (iL 41 40),qf 39 (iB 42 .gtr 41 (cI 4)),gP 43 39 cT 42,gM 44 43,qf 44 (iG 45 8 2 2),qf 44 (iL 46 45),.call (some (44,false)) (some 47) 71 [nL 46],qf 44 (iT 48 47),gP 49 44 cT 48,gM 50 49,qf 50 (iG 51 8 3 3),qf 50 (iL 52 51),.call (some (50,false)) (some 53) 72 [nL 52],qf 50 (iT 54 53),gP 55 50 cT 54] (cR 55 [gA 6 cF])))) (.ops [gB 56 .add 26 (cI 1),gM 26 56]))))))) (.seq .skip (.seq (sO [gM 57 1,gM 58 2,O1 (.bsl 59 24 1 (.list []) 2 [(0,57),(1,58)]),gC 60 73 [nL 59],gN 61 60,gM 62 (cI 0)] (.block 2 (.loop (kr [6,10,11,15,20,24,57,58] 63 41) (sO [gB 63 .lss 62 61] (.seq (.cond 63 .skip (.exit 2)) (.seq (.block 3 (sO [gI 64 7 60 62,gU 65 7 64,O1 (.alloc 10 (.one (.i (.agg [(.int .i64 0),(.agg [(.str []),(.str [])]),(.str []),(.str []),(.int .i64 0),(.int .i64 0)])))),gS 7 10 65] (.seq (sO [gF 66 10 0,gL 67 66] (.block 4 (sO [gB 69 .eql 67 (cI 1),gA 68 69] (.cond 68 (sO [gF 70 10 1,gU 71 2 70,gC 72 74 [nL 71],gM 73 72,qt 73 (iG 74 10 4 5),qt 73 (iL 75 74),.call (some (73,true)) (some 76) 71 [nL 75],gP 77 73 76 cF,gM 78 77,qt 78 (iG 79 10 5 6),qt 78 (iL 80 79),qt 78 (iB 81 .geq 80 (cI 0)),gP 82 78 81 cF,gM 83 82,qt 83 (iG 84 10 5 6),qt 83 (iL 85 84),qt 83 (iB 86 .leq 85 (cI 16)),gP 87 83 86 cF] (.cond 87 (.exit 3) .skip)) (sO [gB 89 .eql 67 (cI 2),gA 88 89] (.cond 88 (sO [gG 90 10 2 3,gL 91 90,gC 92 70 [nL 91],gM 93 92,qt 93 (iG 94 10 3 4),qt 93 (iL 95 94),.call (some (93,true)) (some 96) 72 [nL 95],gP 97 93 96 cF] (.cond 97 (.exit 3) .skip)) (sO [gB 99 .eql 67 (cI 3),gA 98 99] (.cond 98 (sO [gF 100 10 1,gU 101 2 100,gC 102 74 [nL 101]] (.cond 102 (.exit 3) .skip)) .skip)))))))) (sO [gA 6 cF] .ret)))) (.ops [gB 103 .add 62 (cI 1),gM 62 103]))))))) (sO [gA 6 cT] .ret))))) .skip))
theorem Ao4:OF 32 104 Aov [.t 6]:=oF Tryz.func32 rfl Tryz.ntmps32
abbrev Aqg:FuncId:=34
def Apq:Stm:=(sO [O1 (.box 5 2),gA 6 (.Ahc 9 1)] (sO [gA 7 (.Ahc 9 1)] (.seq (sO [gA 8 cT] (.block 0 (.loop (kr [9] 11 27) (.seq (sO [gM 12 8] (.cond 12 .skip (.exit 0))) (.block 1 (sO [gA 9 (.Ahc 98 4)] (sO [gM 14 0,gM 15 1,gU 16 2 5,gC 17 33 [(true,14),nL 15,nL 16,nL (cI 0),nL (cI 16)],gA 13 17,gE 18 13 0,gE 19 13 1,gE 20 13 2,gA 9 18,gA 8 19] (sO [gM 21 9,gN 22 21,gM 23 (cI 0)] (.block 2 (.loop (kr [11] 24 14) (sO [gB 24 .lss 23 22] (.seq (.cond 24 .skip (.exit 2)) (.seq (.block 3 (sO [gI 25 4 21 23,gU 26 4 25,O1 (.alloc 11 (.one (.i (.agg [(.str []),(.str []),(.int .i64 0),(.int .i64 0)])))),gS 4 11 26] (sO [gM 27 7,gF 28 11 0,gL 29 28,O1 (.bsl 30 9 1 (.str []) 1 [(0,29)]),O1 (.app 31 9 1 16 27 30),gA 7 31] (.ops [gF 32 11 0,gL 33 32,gB 34 .add 33 (cS [0]),gF 35 5 0,gS 1 35 34])))) (.ops [gB 36 .add 23 (cI 1),gM 23 36])))))))))))))) (sO [gM 37 7,O1 (.mov 6 9 1 37)] .ret))))
theorem Apu:OF 34 38 Apq [.t 6]:=oF Tryz.func34 rfl Tryz.ntmps34
abbrev Api:FuncId:=70
def Aow:Stm:=(sO [gA 2 cF] (sO [gM 3 0,O1 (.len 4 true 3),gB 5 .geq 4 (cI 1),gM 6 5,qt 6 (iM 7 0),qt 6 (.len 8 true 7),qt 6 (iB 9 .leq 8 (cI 64)),gP 10 6 9 cF,gA 2 10] .ret))
theorem Ao5:OF 70 11 Aow [.t 2]:=oF Tryz.func70 rfl Tryz.ntmps70
abbrev Apj:FuncId:=71
def Aox:Stm:=(sO [gA 2 cF] (sO [gM 3 0,gB 4 .geq 3 (cI 0),gM 5 4,qt 5 (iM 6 0),qt 5 (iB 7 .leq 6 (cI 1099511627776)),gP 8 5 7 cF,gA 2 8] .ret))
theorem Ao6:OF 71 9 Aox [.t 2]:=oF Tryz.func71 rfl Tryz.ntmps71
abbrev An9:FuncId:=72
def Ani:Stm:=(sO [gA 2 cF] (sO [gM 3 0,O1 (.len 4 true 3),gB 5 .leq 4 (cI 256),gA 2 5] .ret))
theorem Ank:OF 72 6 Ani [.t 2]:=oF Tryz.func72 rfl Tryz.ntmps72

open Go.Proofs
theorem Ae1:Fn Tryz.prog Ec [sP ⟨[],[]⟩,.v (.str [116])] (Is (.v (ti 0)) [sP aw1,.no]):=by
 have h:=Aa1 [116];rw[show D9 [116]=true by rfl]at h
 exact Aa2 ⟨[],[]⟩ [116] true h

open Go.Proofs
theorem Air{m:Nat}{s:Cn}(h:Akb m s)(hm:m≤80000)(n:Az)(cs:List Ef)(hn:n.length≤1000)(hcs:cs.length≤1000):
 Fn Tryz.prog Da [sP s,.v (.str n),.v (.list (cs.map Ef.Bx))] (Is (.tup [.i (ti (s.Acg n cs).2.1),.i (ti (s.Acg n cs).2.2)]) [sP (s.Acg n cs).1,.no,.no]):=by
 unfold Cn.Acg;cases hf:s.fi n with
 |none=>exact Ai8 s n cs hf
 |some i=>
  dsimp only;cases hF:K6 cs []with
  |none=>exact Aji s n cs i hf hcs none rfl hF
  |some F=>
   have hrv:=h.rv n;exact R4 Aep Aex s n cs i hf hn hcs (h.lb.mono hm) ((h.tb n).mono hm) (by omega) F (some F) rfl hF _ rfl
theorem Bfi{m:Nat}{s:Cn}(h:Akb m s)(hm:m≤80000)(n:Az)(rev:Int):
 Fn Tryz.prog Axb [sP s,.v (.str n),.v (ti rev)] (Is (.v (ti (s.Anu n rev).2)) [sP (s.Anu n rev).1,.no,.no]):=by
 unfold Cn.Anu;cases hf:s.fi n with
 |none=>exact Bai s n rev hf
 |some i=>
  dsimp only;by_cases he:s.Aw1 n rev=0
  ·rw[if_pos he];obtain⟨e1,e2,e3⟩:=Aht he;have hrv:=h.rv n;exact Bah s n rev i hf (h.lb.mono hm) ⟨e1,e2,e3,by omega⟩ _ rfl
  ·rw[if_neg he];exact Bcr s n rev i hf he
theorem Aff{m:Nat}{s:Cn}(h:Akb m s)(hm:m≤80000)(n:Az)(hn:n.length≤1000)(x:Sp)(rev most:Int):
 Fn Tryz.prog C9 [sP s,.v (.str n),.v x.Bx,.v (ti rev),.v (ti most)] (Is (.tup [.i (.list ((s.An4 n x rev most).1.map Pr.Bx)),.i (.bool (s.An4 n x rev most).2.1),.i (ti (s.An4 n x rev most).2.2)]) [sP s,.no,.no,.no,.no]):=by
 have hrv:=h.rv n;exact Ai5 ofC s (h.bd hm) n (by omega) x rev most (by omega)
theorem B8{n:Az}{x:Sp}{rev most:Int}:∀{l:List Zk} {out:List Pr},(out.length:Int)≤most→((Ep n x rev most l out).1.length:Int)≤most
 | [],out,h=>h
 |p::r,out,h=>by
  unfold Ep;split
  ·exact h
  ·split
   ·exact B8 h
   ·split
    ·exact B8 h
    ·split
     ·exact h
     ·exact B8 (by simp;omega)
theorem Be8(s:Cn)(n:Az)(x:Sp)(rev most:Int):(s.An4 n x rev most).1.length≤16:=by
 unfold Cn.An4;split
 ·simp
 ·split
  ·simp
  ·rename_i h;have h:SpR x∧0≤rev∧1≤most∧most≤16:=Classical.not_not.1 h;split
   ·simp
   ·split
    ·simp
    ·have:=B8 (n:=n) (x:=x) (rev:=if rev=0 then(s.Zp n).rev else rev) (l:=s.l.drop (Km (Kh (B7 n [])) s.l)) (out:=[]) (most:=most) (by simp;omega)
     dsimp only;omega

open Go.Proofs
def Opn.hd(j:Nat)(o:Opn):Prop:=100≤j∨40<o.l.length∨1000<o.n.length∨1000<o.x.f.length∨1000<o.x.t.length
instance(j:Nat)(o:Opn):Decidable (o.hd j):=by unfold Opn.hd;infer_instance
def Ef.big(c:Ef):Prop:=1000<c.key.length∨1000<c.val.length
instance(c:Ef):Decidable c.big:=by unfold Ef.big;infer_instance
def cGo:List Ef→Bool
 | []=>false
 |c::r=>if c.big then true else cGo r

open Go.Proofs
def Bzg:Cn:=⟨[([116],Ax5),([117],Ax5)],[]⟩
theorem Ai9:(Cn.mk [] []).Aqk (D9 [116]) [116]=(⟨[([116],Ax5)],[]⟩,0):=by
 rw[show D9 [116]=true by rfl];rfl
theorem Aja:(Cn.mk [([116],Ax5)] []).Aqk (D9 [117]) [117]=(Bzg,0):=by
 rw[show D9 [117]=true by rfl];rfl
theorem inv2:Akb 0 Bzg:=by
 have h1:=Ajr.open (nm:=D9 [116]) [116] Aha;rw[Ai9]at h1;have h2:=h1.open (nm:=D9 [117]) [117] Aha;rw[Aja]at h2;exact h2

open Go.Proofs
theorem Ar6{k k':Az}(h:k<k'):¬k'<k++[0]:=fun h2=>by
 have h3:=Aik.1 ⟨Std.le_of_lt h,h2⟩;rw[h3]at h;exact absurd h (Af9 k)

open Go.Proofs
abbrev Bss:FuncId:=Am
abbrev Hi:FuncId:=Aj
theorem H6:A2z Tryz.prog Bss Hi 106:=A2z.of Hj
open Go.RowKit Go.Maps Go.Sort Go.Shelf in
theorem Gv:∀args w,(callFunc 95 args).run Tryz.prog w= .ok (.enter 95 args) w:=enters_of Tryz.func95 (by kernel_rfl) rfl
set_option maxHeartbeats 4000000 in
theorem Jg:Aym Tryz.prog Ju Hi 9:=by
 have h:=Aym.of Afh Hj Afi Adx Gv;exact h
def Cn.names(s:Cn):List Az:=Dc (s.sp.map (·.1))
theorem Fs(s:Cn)(hnd:(s.sp.map (·.1)).Nodup)(hl:s.sp.length≤1000):Fn Tryz.prog Bs [sP s] (Is (.v (.list (s.names.map I.str))) [sP s]):=by
 refine Dp ?_ (by simp)
 obtain⟨KS,hKS⟩:∃K,K=s.sp.map fun x=>I.str x.1:=⟨_,rfl⟩
 have Bid:∀x∈KS,∃s,x=I.str s:=fun x hx=>by rw[hKS]at hx;obtain⟨c,_,rfl⟩:=X4.1 hx;exact⟨_,rfl⟩
 have Bie:KS.length≤1000000:=by rw[hKS,Bh];omega
 have Bif:(KS.map Azp).Nodup:=by rw[hKS,List.map_map];exact hnd
 have hSI:Gq KS=s.names.map I.str:=by
  unfold Cn.names;rw[←Acr,hKS,List.map_map];rfl
 rw[←hSI];obtain⟨VS,hVS⟩:∃V,V=s.sp.map fun x=>D.ptr (.it x.2.Bx):=⟨_,rfl⟩
 obtain⟨L,hL⟩:∃V,V=s.l.map Zk.toD:=⟨_,rfl⟩;have hs:sP s= .own [] (.ptr (stD KS VS L)):=by rw[hKS,hVS,hL];rfl
 rw[hs];repeat'((conv=>whnf);first|(with_reducible refine Aw (by rfl) fun hb=>?_);(try rw[hb]);try simp only[Aa]at hb|(with_reducible refine Ac ?_ ?_);focus (and_intros<;>first|exact Bid|exact Bie|exact Bif|omega|with_reducible rfl|kernel_rfl|simp;done)|refine Ad0 H6 ?_|refine Zo Jg ?_)
 all_goals(try(conv=>whnf))
 (apply Dj<;>kernel_rfl)
end Go.Ab
