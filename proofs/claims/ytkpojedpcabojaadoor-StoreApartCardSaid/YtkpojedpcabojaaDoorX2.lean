/- Lemmas -/
import Derived.Test.YtkpojedpcabojaaDoorNV
set_option linter.unusedVariables false
set_option linter.unusedSimpArgs false
set_option maxRecDepth 100000
set_option maxHeartbeats 40000000
namespace Go.Ab
open Go.Proofs
def decN(n:Nat)(b0 b1 b2 b3:Nat):Nat × Nat:=
 if b0<128 then(b0,1)
 else if b0 / 32=6∧1<n∧b1 / 64=2 then
  if b0 % 32*64+b1 % 64≥128 then(b0 % 32*64+b1 % 64,2)else(65533,1)
 else if b0 / 16=14∧1<n∧b1 / 64=2∧2<n∧b2 / 64=2 then
  if b0 % 16*4096+b1 % 64*64+b2 % 64≥2048∧Utf8.valid ((b0 % 16*4096+b1 % 64*64+b2 % 64:Nat):Int)=true then(b0 % 16*4096+b1 % 64*64+b2 % 64,3)else(65533,1)
 else if b0 / 8=30∧1<n∧b1 / 64=2∧2<n∧b2 / 64=2∧3<n∧b3 / 64=2 then
  if b0 % 8*262144+b1 % 64*4096+b2 % 64*64+b3 % 64≥65536∧Utf8.valid ((b0 % 8*262144+b1 % 64*4096+b2 % 64*64+b3 % 64:Nat):Int)=true then(b0 % 8*262144+b1 % 64*4096+b2 % 64*64+b3 % 64,4)else(65533,1)
 else(65533,1)
def Ce(l:Az)(k:Nat):Nat:=((l[k]?).getD 0).toNat
theorem Aec(l:Az):Kt l 0=decN l.length (Ce l 0) (Ce l 1) (Ce l 2) (Ce l 3):=by
 have hs:(⟨⟨l⟩⟩:ByteArray).size=l.length:=rfl;have h0:((⟨⟨l⟩⟩:ByteArray).get! 0).toNat=Ce l 0:=by rw[E7];rfl
 have h1:((⟨⟨l⟩⟩:ByteArray).get! 1).toNat=Ce l 1:=by rw[E7];rfl
 have h2:((⟨⟨l⟩⟩:ByteArray).get! 2).toNat=Ce l 2:=by rw[E7];rfl
 have h3:((⟨⟨l⟩⟩:ByteArray).get! 3).toNat=Ce l 3:=by rw[E7];rfl
 unfold Kt Utf8.decode;simp only[Nat.zero_add,hs,h0,h1,h2,h3];generalize Ce l 0=b0;generalize Ce l 1=b1;generalize Ce l 2=b2;generalize Ce l 3=b3;generalize l.length=n;unfold decN;simp only[Bool.and_eq_true,decide_eq_true_eq,beq_iff_eq,and_assoc,ge_iff_le,Utf8.runeError]
def szN(n:Nat)(b0 b1 b2 b3:Nat):Nat:=
 if b0≤127 then 1
 else if(194≤b0∧b0≤223)∧1<n∧128≤b1∧b1≤191 then 2
 else if(1<n∧128≤b1∧b1≤191∧2<n∧128≤b2∧b2≤191)∧((b0=224∧160≤b1)∨(225≤b0∧b0≤236)∨(b0=237∧b1≤159)∨(238≤b0∧b0≤239))then 3
 else if(1<n∧128≤b1∧b1≤191∧2<n∧128≤b2∧b2≤191∧3<n∧128≤b3∧b3≤191)∧((b0=240∧144≤b1)∨(241≤b0∧b0≤243)∨(b0=244∧b1≤143))then 4
 else 0
theorem Bk(l:Az)(k:Nat)(lo hi:Nat):A8 l (k:Int) (lo:Int) (hi:Int)=decide (k<l.length∧lo≤Ce l k∧Ce l k≤hi):=by
 unfold A8 Ce;rw[Int.toNat_natCast];cases h:l[k]? with
 |none=>
  have:=List.getElem?_eq_none_iff.1 h;symm;simp only[decide_eq_false_iff_not];omega
 |some c=>
  have:=(List.getElem?_eq_some_iff.1 h).1;simp only[Option.getD_some]
  congr 1
  rw[eq_iff_iff];omega
theorem Aee(l:Az):Fv l 1 1=decide (1<l.length∧128≤Ce l 1∧Ce l 1≤191):=by
 have h1:=Bk l 1 128 191;simp only[Fv,List.range_succ,List.range_zero,List.nil_append,List.all_cons,List.all_nil,Bool.and_true];exact h1
theorem Aef(l:Az):Fv l 1 2=decide (1<l.length∧128≤Ce l 1∧Ce l 1≤191∧2<l.length∧128≤Ce l 2∧Ce l 2≤191):=by
 have h1:=Bk l 1 128 191;have h2:=Bk l 2 128 191;have:Fv l 1 2=(A8 l ((1:Nat):Int) ((128:Nat):Int) ((191:Nat):Int)&&A8 l ((2:Nat):Int) ((128:Nat):Int) ((191:Nat):Int)):=by simp[Fv,List.range_succ]
 rw[this,h1,h2, ←Bool.decide_and]
 congr 1
 rw[eq_iff_iff];omega
theorem Aeg(l:Az):Fv l 1 3=decide (1<l.length∧128≤Ce l 1∧Ce l 1≤191∧2<l.length∧128≤Ce l 2∧Ce l 2≤191∧3<l.length∧128≤Ce l 3∧Ce l 3≤191):=by
 have h1:=Bk l 1 128 191;have h2:=Bk l 2 128 191;have h3:=Bk l 3 128 191;have:Fv l 1 3=(A8 l ((1:Nat):Int) ((128:Nat):Int) ((191:Nat):Int)&&(A8 l ((2:Nat):Int) ((128:Nat):Int) ((191:Nat):Int)&&A8 l ((3:Nat):Int) ((128:Nat):Int) ((191:Nat):Int))):=by simp[Fv,List.range_succ]
 rw[this,h1,h2,h3, ←Bool.decide_and, ←Bool.decide_and]
 congr 1
 rw[eq_iff_iff];omega
theorem Afg(l:Az)(hl:0<l.length):G9 l=(szN l.length (Ce l 0) (Ce l 1) (Ce l 2) (Ce l 3):Nat):=by
 have e1:A8 l 0 0 127=_:=Bk l 0 0 127;have e2:A8 l 0 194 223=_:=Bk l 0 194 223;have e3:A8 l 0 224 224=_:=Bk l 0 224 224;have e4:A8 l 1 160 191=_:=Bk l 1 160 191;have e5:A8 l 0 225 236=_:=Bk l 0 225 236;have e6:A8 l 0 237 237=_:=Bk l 0 237 237;have e7:A8 l 1 128 159=_:=Bk l 1 128 159;have e8:A8 l 0 238 239=_:=Bk l 0 238 239;have e9:A8 l 0 240 240=_:=Bk l 0 240 240;have e10:A8 l 1 144 191=_:=Bk l 1 144 191;have e11:A8 l 0 241 243=_:=Bk l 0 241 243;have e12:A8 l 0 244 244=_:=Bk l 0 244 244;have e13:A8 l 1 128 143=_:=Bk l 1 128 143;unfold G9 szN;rw[Aee,Aef,Aeg,e1,e2,e3,e4,e5,e6,e7,e8,e9,e10,e11,e12,e13];generalize Ce l 0=b0;generalize Ce l 1=b1;generalize Ce l 2=b2;generalize Ce l 3=b3;generalize l.length=n at hl ⊢;simp only[Bool.and_eq_true,Bool.or_eq_true,decide_eq_true_eq];repeat' split
 all_goals first|rfl|(exfalso;omega)
theorem Afq(l:Az)(k:Nat):Ce l k<256:=UInt8.toNat_lt _
theorem Adj(n b0 b1 b2 b3:Nat)(h0:b0<256)(hn:0<n):
 (szN n b0 b1 b2 b3=0∧decN n b0 b1 b2 b3=(65533,1))∨
 (szN n b0 b1 b2 b3=1∧decN n b0 b1 b2 b3=(b0,1)∧b0<128)∨
 (szN n b0 b1 b2 b3=2∧2≤n∧∃r,decN n b0 b1 b2 b3=(r,2)∧128≤r∧r≤1114111∧(161≤r↔(b0=194→161≤b1)))∨
 (szN n b0 b1 b2 b3=3∧3≤n∧∃r,decN n b0 b1 b2 b3=(r,3)∧161≤r∧r≤1114111)∨
 (szN n b0 b1 b2 b3=4∧4≤n∧∃r,decN n b0 b1 b2 b3=(r,4)∧161≤r∧r≤1114111):=by
 unfold szN;split
 ·rename_i hb;refine .inr (.inl ⟨rfl,?_,by omega⟩)
  unfold decN;rw[if_pos (show b0<128 by omega)]
 split
 ·refine .inr (.inr (.inl ⟨rfl,by omega,b0 % 32*64+b1 % 64,?_,by omega,by omega,by omega⟩))
  unfold decN;rw[if_neg (by omega),if_pos (by omega),if_pos (by omega)]
 split
 ·refine .inr (.inr (.inr (.inl ⟨rfl,by omega,b0 % 16*4096+b1 % 64*64+b2 % 64,?_,by omega,by omega⟩)))
  unfold decN;rw[if_neg (by omega),if_neg (by omega),if_pos (by omega),if_pos ⟨by omega,by simp only[Utf8.valid,Bool.or_eq_true,Bool.and_eq_true,decide_eq_true_eq];omega⟩]
 split
 ·refine .inr (.inr (.inr (.inr ⟨rfl,by omega,b0 % 8*262144+b1 % 64*4096+b2 % 64*64+b3 % 64,?_,by omega,by omega⟩)))
  unfold decN;rw[if_neg (by omega),if_neg (by omega),if_neg (by omega),if_pos (by omega),if_pos ⟨by omega,by simp only[Utf8.valid,Bool.or_eq_true,Bool.and_eq_true,decide_eq_true_eq];omega⟩]
 ·refine .inl ⟨rfl,?_⟩;unfold decN;rw[if_neg (by omega)]
  split
  ·rw[if_neg (by omega)]
  split
  ·rw[if_neg];rintro⟨hv1,hv2⟩;simp only[Utf8.valid,Bool.or_eq_true,Bool.and_eq_true,decide_eq_true_eq]at hv2;omega
  split
  ·rw[if_neg];rintro⟨hv1,hv2⟩;simp only[Utf8.valid,Bool.or_eq_true,Bool.and_eq_true,decide_eq_true_eq]at hv2;omega
  rfl
theorem Afd(c d:UInt8):E8 [c,d]=decide (c.toNat=194→161≤d.toNat):=by
 simp only[E8];split
 ·congr 1
  rw[eq_iff_iff];omega
 ·symm;simp only[decide_eq_true_eq];omega
theorem Ye(c d e:UInt8)(r:Az):E8 (c::d::e::r)=true:=rfl
theorem Z1(l:Az)(hl:0<l.length):
 (G9 l=0∧Kt l 0=(65533,1))∨
 (∃c r,l=c::r∧G9 l=1∧Kt l 0=(c.toNat,1)∧c.toNat<128)∨
 (∃k r:Nat,2≤k∧G9 l=(k:Int)∧k≤l.length∧Kt l 0=(r,k)∧128≤r∧r≤1114111∧E8 (l.take k)=decide (161≤r)):=by
 rw[Afg l hl,Aec];rcases Adj l.length (Ce l 0) (Ce l 1) (Ce l 2) (Ce l 3) (Afq l 0) hl with⟨h1,h2⟩|⟨h1,h2,h3⟩|⟨h1,h2,r,h3,h4,h5,h6⟩|⟨h1,h2,r,h3,h4,h5⟩|⟨h1,h2,r,h3,h4,h5⟩
 ·rw[h1,h2];exact .inl ⟨rfl,rfl⟩
 ·rw[h1,h2];cases l with
  |nil=>simp at hl
  |cons c r=>exact .inr (.inl ⟨c,r,rfl,rfl,rfl,h3⟩)
 ·rw[h1,h3];rcases l with _|⟨c,_|⟨d,t⟩⟩
  ·simp at hl
  ·simp at h2
  ·refine .inr (.inr ⟨2,r,by omega,rfl,h2,rfl,h4,h5,?_⟩)
   show E8 [c,d]=_;rw[Afd]
   congr 1
   rw[eq_iff_iff];exact h6.symm
 ·rw[h1,h3];rcases l with _|⟨c,_|⟨d,_|⟨e,t⟩⟩⟩
  ·simp at hl
  ·simp at h2
  ·simp at h2
  ·exact .inr (.inr ⟨3,r,by omega,rfl,h2,rfl,by omega,h5,by show E8 [c,d,e]=_;rw[Ye];simp[h4]⟩)
 ·rw[h1,h3];rcases l with _|⟨c,_|⟨d,_|⟨e,_|⟨f,t⟩⟩⟩⟩
  ·simp at hl
  ·simp at h2
  ·simp at h2
  ·simp at h2
  ·exact .inr (.inr ⟨4,r,by omega,rfl,h2,rfl,by omega,h5,by show E8 [c,d,e,f]=_;rw[Ye];simp[h4]⟩)

open Go.Proofs
theorem Fn.strLen{P:Program}{f:FuncId}{s:Az}{rest:List SV}{Post:SV→List SV→Prop}(h:s.length≤maxLen→Fn P f (.v (.str s)::rest) Post):Fn P f (.v (.str s)::rest) Post:=by
 intro G σ Fr w cargs hok hsz hargs;have h0:=(hargs 0 _ rfl).2;exact h (RepV.str.1 h0).2 G σ Fr w cargs hok hsz hargs
theorem Tz(s:Az)(p:Nat)(hp:p<s.length):Lib.decodeGo ⟨⟨s.drop p⟩⟩=Kt s p:=by
 rw[Gp s p];unfold Lib.decodeGo;rw[if_neg]
 ·rfl
 ·show ¬(s.drop p).length=0;rw[List.length_drop];omega
theorem L3(s:Az)(p:Nat)(hp:p<s.length)(r:Int):Fn Tryd.prog Ur [.v (.str s),.v (.int .i64 p),.v (.int .i32 r)] (Is (.v (.bool (decide (r=65533)&&decide ((Kt s p).2=1)))) [.no,.no,.no]):=by
 refine T6 ?_ (by simp)
 have hd:=X6 (s.drop p);rw[Tz s p hp]at hd;by_cases hr:r=65533
 ·have hb0:¬(!decide (r=65533))=true:=by simp[hr]
  repeat'((conv=>whnf);first|(refine aI (fun hb=>?_) (fun hb=>?_)<;>first|(exact absurd hb (by assumption))|((try rw[hb]);(try simp only[Aa]at hb);(try subst hb)))|(refine eI ?_ ?_;focus (and_intros<;>first|omega|exact rfl|(intro _ hh;cases hh;done)|(simp;done)|decide))|((simp only[List.headD,Int.toNat_natCast,List.take_length]))|(refine CallWp.mk ⟨_,hd,?_⟩;rintro _ _ ⟨rfl,rfl⟩))
  all_goals(try(conv=>whnf))
  refine Done.mk ⟨SV.bool_congr ?_,by kernel_rfl⟩ (by kernel_rfl)
  rw[eq_comm,Bool.eq_iff_iff];simp;omega
 ·repeat'((conv=>whnf);(refine aI (fun hb=>?_) (fun hb=>?_)<;>first|(exfalso;((simp only[LENS]at hb<;>omega)))|((try rw[hb]);(try simp only[Aa]at hb))))
  all_goals(try(conv=>whnf))
  all_goals first|contradiction|skip
  refine Done.mk ⟨SV.bool_congr (by simp[hr]),by kernel_rfl⟩ (by kernel_rfl)
theorem Tt(r:Int):Fn Tryd.prog W7 [.v (.int .i32 r)] (Is (.v (.bool (decide (161≤r)))) [.no]):=by
 refine Vj ?_ (by simp)
 (skip)
 all_goals(try(conv=>whnf))
 exact Done.mk ⟨SV.bool_congr (by simp),by kernel_rfl⟩ (by kernel_rfl)
theorem J5{f:Nat}{s:Az}{p n:Nat}{c:UInt8}(hc:s[p]?=some c){k:Nat}(hk:G9 (s.drop p)=(k:Int)):
 Ey (f+1) s p n=(if k=0 then false else if badR k c.toNat p ((s.drop p).take k)=true then false else if 24<n+1 then false else Ey f s (p+k) (n+1)):=by
 rw[Ey,hc];dsimp only;rw[hk,Int.toNat_natCast]
theorem S1{f:Nat}{s:Az}{p n:Nat}{c:UInt8}(hc:s[p]?=some c){k:Nat}(hk:G9 (s.drop p)=(k:Int))(hk0:0<k)(hkl:k≤s.length - p)(hp:p<s.length)
 (hb:badR k c.toNat p ((s.drop p).take k)=false) (h2:s.length<f+1+p) (h3:n≤p) (h4:n≤24→Ey (f+1) s p n=D9 s) (h5:24<n→D9 s=false):
 p+k≤s.length∧s.length<f+(p+k)∧n+1≤p+k∧(n+1≤24→Ey f s (p+k) (n+1)=D9 s)∧(24<n+1→D9 s=false):=by
 refine⟨by omega,by omega,by omega,fun h=>?_,fun h=>?_⟩
 ·rw[←h4 (by omega),J5 hc hk,if_neg (by omega),hb,if_neg (by simp),if_neg (by omega)]
 ·by_cases h24:24<n
  ·exact h5 h24
  ·rw[←h4 (by omega),J5 hc hk,if_neg (by omega),hb,if_neg (by simp),if_pos h]
theorem P9{f:Nat}{s:Az}{p n:Nat}{c:UInt8}(hc:s[p]?=some c){k:Nat}(hk:G9 (s.drop p)=(k:Int))
 (hb:k=0∨badR k c.toNat p ((s.drop p).take k)=true) (h4:n≤24→Ey (f+1) s p n=D9 s) (h5:24<n→D9 s=false):D9 s=false:=by
 by_cases h24:24<n
 ·exact h5 h24
 ·rw[←h4 (by omega),J5 hc hk]
  rcases hb with hb|hb
  ·rw[if_pos hb]
  ·rw[hb];split<;>simp
theorem Aa1(s:Az):Fn Tryd.prog Mr [.v (.str s)] (Is (.v (.bool (D9 s))) [.no]):=Fn.strLen fun hl=>by
 refine T5 ?_ (by simp)
 (skip)
 all_goals(try(conv=>whnf))
 refine LoopWq.by (X:=Nat × Nat × Nat) (fun x=>[(3,.v (.int .i64 x.2.2)),(7,.sit s x.2.1)]) (fun x=>x.2.1≤s.length∧s.length<x.1+x.2.1∧x.2.2≤x.2.1∧(x.2.2≤24→Ey x.1 s x.2.1 x.2.2=D9 s)∧(24<x.2.2→D9 s=false)) (fun x=>s.length - x.2.1)
  (s.length+1,0,0) (by kernel_rfl) ⟨Nat.zero_le _,by dsimp only;omega,Nat.le_refl _,fun _=>rfl,fun h=>by simp at h⟩ ?_
 rintro⟨f,p,n⟩ ⟨h1,h2,h3,h4,h5⟩;dsimp only at h1 h2 h3 h4 h5 ⊢;obtain⟨f,rfl⟩:∃g,f=g+1:=⟨f - 1,by omega⟩
 by_cases hp:p<s.length
 case neg=>
  have hlt:¬decide (p<s.length)=true:=by simp;omega
  have hv:D9 s=(decide (0<n)&&decide (n≤24)):=by
   by_cases h24:n≤24
   ·rw[←h4 h24,Ey,List.getElem?_eq_none (by omega)]
    simp[h24]
   ·rw[h5 (by omega)]
    simp[h24]
  rw[hv];repeat'((conv=>whnf);(refine aI (fun hb=>?_) (fun hb=>?_)<;>first|(exact absurd hb (by first|assumption|decide))|((try rw[hb]);(try simp only[Aa]at hb))))
  all_goals(try(conv=>whnf))
  all_goals refine Done.mk ⟨SV.bool_congr ?_,by kernel_rfl⟩ (by kernel_rfl)
  all_goals(rw[Bool.eq_iff_iff];simp;omega)
 have hlt:¬decide (p<s.length)=false:=by simp[hp]
 obtain⟨c,hc⟩:∃c,s[p]?=some c:=⟨_,List.getElem?_eq_getElem hp⟩;have hdl:(s.drop p).length=s.length - p:=List.length_drop ..;have hwn:IntKind.i64.wrap ((n:Int)+1)=((n+1:Nat):Int):=Dk (n:=maxLen) (by omega) (Nat.le_refl _)
 rcases Z1 (s.drop p) (by omega)with⟨hk,hr⟩|⟨c',t,hd,hk,hr,hc8⟩|⟨k,r,hk2,hk,hkl,hr,hr1,hr2,hit⟩
 ·rw[←Gp]at hr;have hw:=L3 s p hp (65533:Nat);rw[hr]at hw;rw[P9 hc hk (.inl rfl) h4 h5];repeat'((conv=>whnf);first|(refine aI (fun hb=>?_) (fun hb=>?_)<;>first|(exact absurd hb (by first|assumption|decide))|((try rw[hb]);(try simp only[Aa]at hb)))|(refine eI ?_ ?_;focus (and_intros<;>first|(intro _ hh;cases hh;done)|(simp;done)|decide))|((simp only[hr]))|(refine CallWp.mk ⟨_,hw,?_⟩;rintro _ _ ⟨rfl,rfl⟩))
  all_goals(try(conv=>whnf))
  (apply dKq<;>kernel_rfl)
 ·rw[←Gp]at hr;obtain rfl:c=c':=by
   have:=congrArg (fun q=>q[0]?) hd
   simp only[List.getElem?_drop,Nat.add_zero,List.getElem?_cons_zero]at this;rw[hc]at this;exact Option.some.inj this
  have hw:=L3 s p hp (c.toNat:Nat);rw[hr,show(decide (((c.toNat:Nat):Int)=65533)&&decide (((c.toNat,1):Nat × Nat).2=1))=false by simp;omega]at hw
  have hh:=Tt (c.toNat:Nat);rw[show decide (161≤((c.toNat:Nat):Int))=false by simp;omega]at hh
  have hlen:1≤s.length - p:=by omega
  have hgood:=fun hb=>S1 hc (k:=1) hk (by omega) hlen hp hb h2 h3 h4 h5
  have hbad:=fun hb=>P9 (k:=1) hc hk (.inr hb) h4 h5
  rw[hd]at hgood hbad;generalize hm:D9 s=m at*;have hB:∀q,badR 1 (c.toNat:Nat) p q=true↔¬((97≤c.toNat∧c.toNat≤122)∨(48≤c.toNat∧c.toNat≤57)∨c.toNat=95∨(c.toNat=45∧0<p)):=fun q=>by
   simp only[badR];simp;omega
  have hB':∀q,badR 1 (c.toNat:Nat) p q=false↔((97≤c.toNat∧c.toNat≤122)∨(48≤c.toNat∧c.toNat≤57)∨c.toNat=95∨(c.toNat=45∧0<p)):=fun q=>by
   have:=hB q;cases hx:badR 1 (c.toNat:Nat) p q
   ·rw[hx]at this;simp at this;simp;omega
   ·rw[hx]at this;simp at this;simp;omega
  repeat'((conv=>whnf);first|(refine aI (fun hb=>?_) (fun hb=>?_)<;>first|(exact absurd hb (by first|assumption|decide))|(exfalso;((simp only[LENS]at hb<;>omega)))|((try rw[hb]);(try simp only[Aa]at hb)))|(refine eI ?_ ?_;focus (and_intros<;>first|(intro _ hh;cases hh;done)|(simp;done)|decide))|((simp only[hr]))|(refine CallWp.mk ⟨_,hw,?_⟩;rintro _ _ ⟨rfl,rfl⟩)|(refine CallWp.mk ⟨_,hh,?_⟩;rintro _ _ ⟨rfl,rfl⟩))
  all_goals(try(conv=>whnf))
  all_goals first
   |(refine Done.mk ⟨congrArg (fun b=>SV.v (.bool b)) (hbad ((hB _).2 (by omega))).symm,by kernel_rfl⟩ (by kernel_rfl);done)
   |(refine Round.by (f,p+1,n+1) ?_ (hgood ((hB' _).2 (by omega))) (by dsimp only;omega)
     rw[hwn];show norm _ _=upd _ _
     kernel_rfl)
 ·rw[←Gp]at hr;have hw:=L3 s p hp (r:Nat);rw[hr,show(decide (((r:Nat):Int)=65533)&&decide (((r,k):Nat × Nat).2=1))=false by simp;omega]at hw
  have hh:=Tt (r:Nat);have hgood:=fun hb=>S1 hc (k:=k) hk (by omega) (by omega) hp hb h2 h3 h4 h5
  have hbad:=fun hb=>P9 (k:=k) hc hk (.inr hb) h4 h5
  have hB:badR k c.toNat p ((s.drop p).take k)= !decide (161≤r):=by
   simp only[badR,hit];rw[show decide (k=1)=false by simp;omega,show decide (1<k)=true by simp;omega]
   simp
  rw[hB]at hgood hbad;generalize hm:D9 s=m at*;by_cases h161:161≤r
  ·rw[show decide (161≤((r:Nat):Int))=true by simp;omega]at hh
   repeat'((conv=>whnf);first|(refine aI (fun hb=>?_) (fun hb=>?_)<;>first|(exact absurd hb (by first|assumption|decide))|(exfalso;((simp only[LENS]at hb<;>omega)))|((try rw[hb]);(try simp only[Aa]at hb)))|(refine eI ?_ ?_;focus (and_intros<;>first|(intro _ hh;cases hh;done)|(simp;done)|decide))|((simp only[hr]))|(refine CallWp.mk ⟨_,hw,?_⟩;rintro _ _ ⟨rfl,rfl⟩)|(refine CallWp.mk ⟨_,hh,?_⟩;rintro _ _ ⟨rfl,rfl⟩))
   all_goals(try(conv=>whnf))
   refine Round.by (f,p+k,n+1) ?_ (hgood (by simp[h161])) (by dsimp only;omega)
   rw[hwn];show norm _ _=upd _ _
   kernel_rfl
  ·rw[show decide (161≤((r:Nat):Int))=false by simp;omega]at hh
   repeat'((conv=>whnf);first|(refine aI (fun hb=>?_) (fun hb=>?_)<;>first|(exact absurd hb (by first|assumption|decide))|(exfalso;((simp only[LENS]at hb<;>omega)))|((try rw[hb]);(try simp only[Aa]at hb)))|(refine eI ?_ ?_;focus (and_intros<;>first|(intro _ hh;cases hh;done)|(simp;done)|decide))|((simp only[hr]))|(refine CallWp.mk ⟨_,hw,?_⟩;rintro _ _ ⟨rfl,rfl⟩)|(refine CallWp.mk ⟨_,hh,?_⟩;rintro _ _ ⟨rfl,rfl⟩))
   all_goals(try(conv=>whnf))
   exact Done.mk ⟨congrArg (fun b=>SV.v (.bool b)) (hbad (by simp[h161])).symm,by kernel_rfl⟩ (by kernel_rfl)

open Go.Proofs
abbrev Ak:FuncId:=10
abbrev C4:FuncId:=30
def Cr:Stm:=(sO [gA 0 cF] (sO [gC 9 19 [],gA 1 9] (.seq (sO [gM 10 1,gC 11 20 [(true,10),nL (cS [116])],gB 12 .neq 11 (cI 0)] (cR 12 [gA 0 cF])) (sO [gM 14 1,O1 (.build 15 [(.str []),(.str []),(.bool false)] [(0,(cS [97])),(1,(cS [49]))]),O1 (.build 16 [(.str []),(.str []),(.bool false)] [(0,(cS [98])),(1,(cS [50]))]),O1 (.bsl 17 38 3 (.agg [(.str []),(.str []),(.bool false)]) 2 [(0,15),(1,16)]),gC 18 24 [(true,14),nL (cS [116]),nL 17],gA 13 18,gE 19 13 0,gE 20 13 1,gA 2 19,gA 3 20] (sO [gM 22 1,O1 (.build 23 [(.str []),(.str []),(.bool false)] [(0,(cS [97])),(2,cT)]),O1 (.bsl 24 38 3 (.agg [(.str []),(.str []),(.bool false)]) 1 [(0,23)]),gC 25 24 [(true,22),nL (cS [116]),nL 24],gA 21 25,gE 26 21 0,gE 27 21 1,gA 4 26,gA 5 27] (sO [gM 29 1,O1 (.build 30 [(.str []),(.str [])] []),gC 31 33 [(true,29),nL (cS [116]),nL 30,nL (cI 1),nL (cI 9)],gA 28 31,gE 32 28 0,gE 33 28 1,gE 34 28 2,gA 6 32,gA 7 33,gA 8 34] (sO [gM 35 2,gB 36 .eql 35 (cI 1),gM 37 36,qt 37 (iM 38 4),qt 37 (iB 39 .eql 38 (cI 2)),gP 40 37 39 cF,gM 41 40,qt 41 (iM 42 3),qt 41 (iB 43 .eql 42 (cI 0)),gP 44 41 43 cF,gM 45 44,qt 45 (iM 46 5),qt 45 (iB 47 .eql 46 (cI 0)),gP 48 45 47 cF,gM 49 48,qt 49 (iM 50 8),qt 49 (iB 51 .eql 50 (cI 0)),gP 52 49 51 cF,gM 53 52,qt 53 (iM 54 6),qt 53 (iN 55 54),qt 53 (iB 56 .eql 55 (cI 2)),gP 57 53 56 cF,gM 58 57,qt 58 (iM 59 6),qt 58 (iI 60 4 59 (cI 0)),qt 58 (iU 61 4 60),qt 58 (.build 62 [(.str []),(.str []),(.int .i64 0),(.int .i64 0)] [(0,(cS [97])),(1,(cS [49])),(2,(cI 1)),(3,(cI 1))]),qt 58 (.eqs 63 false (.st [.str,.str,(.int .i64),(.int .i64)]) 61 62),gP 64 58 63 cF,gM 65 64,qt 65 (iM 66 1),.call (some (65,true)) (some 67) 48 [(true,66),nL (cS [116]),nL (cI 2)],qt 65 (iB 68 .eql 67 (cI 0)),gP 69 65 68 cF,gM 70 69,qt 70 (iM 71 1),.call (some (70,true)) (some 72) 49 [(true,71),nL (cS [116])],qt 70 (iB 73 .eql 72 (cI 1)),gP 74 70 73 cF,gA 0 74] .ret)))))))
theorem Cv:OF 30 75 Cr [.t 0]:=oF Tryd.func30 rfl Tryd.ntmps30 (by kernel_rfl) (by kernel_rfl)
abbrev C7:FuncId:=31
def Ct:Stm:=(sO [gA 2 cF] (.seq (sO [gM 7 0,gN 8 7,gM 9 (cI 0)] (.block 0 (.loop (kr [2,3,4,6,7] 10 53) (sO [gB 10 .lss 9 8] (.seq (.cond 10 .skip (.exit 0)) (.seq (.block 1 (sO [gM 11 9,gA 3 11] (sO [gM 12 0,gM 13 3,gI 14 7 12 13,gU 15 7 14,O1 (.alloc 4 (.one (.i (.agg [(.int .i64 0),(.str []),(.list []),(.agg [(.str []),(.str [])]),(.int .i64 0),(.int .i64 0)])))),gS 7 4 15] (.seq (sO [gM 16 3,gB 17 .geq 16 (cI 100),gM 18 17,qf 18 (iG 19 4 2 2),qf 18 (iL 20 19),qf 18 (iN 21 20),qf 18 (iB 22 .gtr 21 (cI 40)),gP 23 18 cT 22,gM 24 23,qf 24 (iG 25 4 1 1),qf 24 (iL 26 25),qf 24 (.len 27 true 26),qf 24 (iB 28 .gtr 27 (cI 1000)),gP 29 24 cT 28,gM 30 29,qf 30 (iG 31 4 3 3),qf 30 (iG 32 31 0 0),qf 30 (iL 33 32),qf 30 (.len 34 true 33),qf 30 (iB 35 .gtr 34 (cI 1000)),gP 36 30 cT 35,gM 37 36,qf 37 (iG 38 4 3 3),qf 37 (iG 39 38 1 1),qf 37 (iL 40 39),qf 37 (.len 41 true 40),qf 37 (iB 42 .gtr 41 (cI 1000)),gP 43 37 cT 42] (cR 43 [gA 2 cT])) (sO [gF 44 4 2,gL 45 44,gN 46 45,gM 47 (cI 0)] (.block 2 (.loop (kr [2,6,7,12] 48 14) (sO [gB 48 .lss 47 46] (.seq (.cond 48 .skip (.exit 2)) (.seq (.block 3 (sO [gI 49 3 45 47,gU 50 3 49,O1 (.alloc 6 (.one (.i (.agg [(.str []),(.str []),(.bool false)])))),gS 3 6 50] (sO [gF 51 6 0,gL 52 51,O1 (.len 53 true 52),gB 54 .gtr 53 (cI 1000),gM 55 54,qf 55 (iG 56 6 1 1),qf 55 (iL 57 56),qf 55 (.len 58 true 57),qf 55 (iB 59 .gtr 58 (cI 1000)),gP 60 55 cT 59] (cR 60 [gA 2 cT])))) (.ops [gB 61 .add 47 (cI 1),gM 47 61]))))))))))) (.ops [gB 62 .add 9 (cI 1),gM 9 62]))))))) (sO [gA 2 cF] .ret)))
theorem Cx:OF 31 63 Ct [.t 2]:=oF Tryd.func31 rfl Tryd.ntmps31 (by kernel_rfl) (by kernel_rfl)
abbrev A5:FuncId:=32
def Cn:Stm:=(sO [gA 2 (.c .nilp)] (sO [gC 6 19 [],O1 (.movD 3 6)] (sO [gM 7 3,gC 8 20 [(true,7),nL (cS [116])]] (sO [gM 9 3,gC 10 20 [(true,9),nL (cS [117])]] (.seq (sO [gM 11 0,gN 12 11,gM 13 (cI 0)] (.block 0 (.loop (kr [5] 14 9) (sO [gB 14 .lss 13 12] (.seq (.cond 14 .skip (.exit 0)) (.seq (.block 1 (sO [gI 15 7 11 13,gU 16 7 15,O1 (.allocD 5 (.st [(.it (.int .i64 0)),(.it (.str [])),(.vec 38 3 []),(.it (.agg [(.str []),(.str [])])),(.it (.int .i64 0)),(.it (.int .i64 0))])),gS 7 5 16] (.ops [gM 17 3,O1 (.buildD 18 [(.vec 50 4 [])] []),O1 (.boxD 19 18),gU 20 7 5,gC 21 35 [(true,17),(true,19),nL 20]]))) (.ops [gB 22 .add 13 (cI 1),gM 13 22]))))))) (sO [O1 (.movD 23 3),O1 (.movD 2 23)] .ret))))))
theorem Ch:OFD 32 24 Cn [.t 2]:=oFD Tryd.func32 rfl Tryd.ntmps32 (by kernel_rfl) (by kernel_rfl)
abbrev Dj:FuncId:=35
def Db:Stm:=(sO [O1 (.box 5 2),gA 6 cF] (.seq (sO [gF 17 5 0,gL 18 17] (.block 0 (sO [gB 20 .eql 18 (cI 0),gA 19 20] (.cond 19 (sO [gM 22 0,gF 23 5 1,gL 24 23,gF 25 5 2,gL 26 25,gC 27 24 [(true,22),nL 24,nL 26],gA 21 27,gE 28 21 0,gE 29 21 1,gA 7 28,gA 8 29] (sO [gM 31 1,gF 32 5 1,gL 33 32,gF 34 5 2,gL 35 34,gC 36 26 [(true,31),nL 33,nL 35],gA 30 36,gE 37 30 0,gE 38 30 1,gA 9 37,gA 10 38] (sO [gM 39 7,gM 40 9,gB 41 .eql 39 40,gM 42 41,qt 42 (iM 43 8),qt 42 (iM 44 10),qt 42 (iB 45 .eql 43 44),gP 46 42 45 cF,gA 6 46] .ret))) (sO [gB 48 .eql 18 (cI 1),gA 47 48] (.cond 47 (sO [gM 50 0,gF 51 5 1,gL 52 51,gF 53 5 3,gU 54 2 53,gG 55 5 4 5,gL 56 55,gG 57 5 5 6,gL 58 57,gC 59 33 [(true,50),nL 52,nL 54,nL 56,nL 58],gA 49 59,gE 60 49 0,gE 61 49 1,gE 62 49 2,gA 11 60,gA 12 61,gA 13 62] (sO [gM 64 1,gF 65 5 1,gL 66 65,gF 67 5 3,gU 68 2 67,gG 69 5 4 5,gL 70 69,gG 71 5 5 6,gL 72 71,gC 73 81 [(true,64),nL 66,nL 68,nL 70,nL 72],gA 63 73,gE 74 63 0,gE 75 63 1,gE 76 63 2,gA 14 74,gA 15 75,gA 16 76] (sO [gM 77 11,gM 78 14,gC 79 37 [nL 77,nL 78],gM 80 79,qt 80 (iM 81 12),qt 80 (iM 82 15),qt 80 (.eqs 83 false .bool 81 82),gP 84 80 83 cF,gM 85 84,qt 85 (iM 86 13),qt 85 (iM 87 16),qt 85 (iB 88 .eql 86 87),gP 89 85 88 cF,gA 6 89] .ret))) (sO [gB 91 .eql 18 (cI 2),gA 90 91] (.cond 90 (.seq (.drw [0,0,2,0,8,31,0,0,128,0,512,2047,4095,8191] [gM 92 0,gF 93 5 1,gL 94 93,gG 95 5 4 5,gL 96 95,gC 97 48 [(true,92),nL 94,nL 96],gM 98 1,gF 99 5 1,gL 100 99,gG 101 5 4 5,gL 102 101,gC 103 82 [(true,98),nL 100,nL 102],gB 104 .eql 97 103,gA 6 104]) .ret) (sO [gB 106 .eql 18 (cI 3),gA 105 106] (.cond 105 (.seq (.drw [0,0,2,7,0,0,32,127,255,511] [gM 107 0,gF 108 5 1,gL 109 108,gC 110 20 [(true,107),nL 109],gM 111 1,gF 112 5 1,gL 113 112,gC 114 25 [(true,111),nL 113],gB 115 .eql 110 114,gA 6 115]) .ret) .skip)))))))))) (sO [gA 6 cT] .ret)))
theorem Dh:OF 35 116 Db [.t 6]:=oF Tryd.func35 rfl Tryd.ntmps35 (by kernel_rfl) (by kernel_rfl)
def Bu:Stm:=(sO [gA 1 (.nils 50 4)] (.seq (sO [gL 4 0,gC 5 44 [(true,4)],gN 6 5,gM 7 (cI 0)] (.block 0 (.loop (kr [1,3] 8 9) (sO [gB 8 .lss 7 6] (.seq (.cond 8 .skip (.exit 0)) (.seq (.block 1 (sO [gI 9 4 5 7,gU 10 4 9,O1 (.alloc 3 (.one (.i (.agg [(.str []),(.int .i64 0),(.int .i64 0),(.list [])])))),gS 4 3 10] (sO [gF 11 3 0,gL 12 11,gB 13 .eql 12 (cS [117])] (.cond 13 (sO [gU 14 4 3,O1 (.bsl 15 50 4 (.agg [(.str []),(.int .i64 0),(.int .i64 0),(.list [])]) 1 [(0,14)]),gA 1 15] .ret) .skip)))) (.ops [gB 16 .add 7 (cI 1),gM 7 16]))))))) (sO [gA 1 (.nils 50 4)] .ret)))
theorem An{N:Nat}{os:List Opd}{st:St}{K:SV→St→Prop}(h:litK (En 17 os st) fun st=>F7 Tryd.prog Bu Kq ⟨Dq Tryd.prog 17 N [.t 1] K,noEx,Dq Tryd.prog 17 N [.t 1] K⟩ st)(hn:os.length≤17):InlWp Tryd.prog 45 N os st K:=
 InlWp.of_body Tryd.func45 rfl Tryd.ntmps45 (by kernel_rfl) (by kernel_rfl) hn h

open Go.Proofs
theorem awB1:LBd 80000 aw1.l:=⟨by decide,by intro h hh;cases hh⟩
theorem awB2:LBd 80000 aw2.l:=⟨by decide,by intro h hh;simp[aw2]at hh;rcases hh with rfl|rfl<;>simp⟩
theorem awB3:LBd 80000 aw3.l:=⟨by decide,by intro h hh;simp[aw3]at hh;rcases hh with rfl|rfl<;>simp⟩
theorem Ae1:Fn Tryd.prog Ec [sP ⟨[],[]⟩,.v (.str [116])] (Is (.v (ti 0)) [sP aw1,.no]):=by
 have h:=Aa1 [116];rw[show D9 [116]=true by rfl]at h
 exact Aa2 ⟨[],[]⟩ [116] true h
theorem Gn:Fn Tryd.prog Da [sP aw1,.v (.str [116]),.v (.list [(Chg.mk [97] [49] false).toI,(Chg.mk [98] [50] false).toI])] (Is (.tup [.i (ti 1),.i (ti 0)]) [sP aw2,.no,.no]):=
 R4 Aep Aex aw1 [116] awF1 0 (by rfl) (by decide) (by decide) awB1 ⟨by decide,by decide,by decide⟩ (by decide) awF1 (some awF1) rfl Hq ⟨⟨0,0,4,2,2⟩,aw2.l,true⟩ (by rw[G4];exact H3)
theorem Gr:Fn Tryd.prog Da [sP aw2,.v (.str [116]),.v (.list [(Chg.mk [97] [] true).toI])] (Is (.tup [.i (ti 2),.i (ti 0)]) [sP aw3,.no,.no]):=
 R4 Aep Aex aw2 [116] awF2 0 (by rfl) (by decide) (by decide) awB2 ⟨by decide,by decide,by decide⟩ (by decide) awF2 (some awF2) rfl Hr ⟨⟨1,0,2,1,3⟩,aw3.l,true⟩ (by rw[G6];exact H4)
theorem G0:Fn Tryd.prog C9 [sP aw3,.v (.str [116]),.v (⟨[],[]⟩:Sp).toI,.v (ti 1),.v (ti 9)] (Is (.tup [.i (.list [(Pr.mk [97] [49] 1 1).toI,(Pr.mk [98] [50] 1 1).toI]),.i (.bool false),.i (ti 0)]) [sP aw3,.no,.no,.no,.no]):=
 Ab6 ofC aw3 ⟨by decide,by intro h hh;simp[aw3]at hh;rcases hh with rfl|rfl<;>simp⟩ [116] (by decide) ⟨[],[]⟩ 1 9 0 (by rfl) (by decide) (by decide) (by decide) ([⟨[97],[49],1,1⟩,⟨[98],[50],1,1⟩],false) (by rfl)
theorem F5:Fn Tryd.prog C2 [sP aw3,.v (.str [116]),.v (ti 2)] (Is (.v (ti 0)) [sP aw4,.no,.no]):=
 D6 aw3 [116] 2 0 (by rfl) awB3 (by decide) ⟨aw4.l,1⟩ Ho
theorem Ht:Fn Tryd.prog A6 [sP aw4,.v (.str [116])] (Is (.v (ti 1)) [sP aw4,.no]):=E6 aw4 [116]
theorem Cp:Fn Tryd.prog C4 [] (Is (.v (.bool true)) []):=by
 refine Cv ?_ (by simp)
 repeat'((conv=>whnf);first|((with_reducible refine Ax (by first|(with_reducible assumption)|((with_reducible refine decide_eq_true ?_);omega)|(with_reducible rfl)) (fun hb=>?_));(try rw[hb]);(try simp only[Aa]at hb))|((with_reducible refine And.intro (fun hb=>?_) (fun hb=>?_))<;>first|(exact absurd hb (by decide))|((try rw[hb]);(try simp only[Aa]at hb)))|((with_reducible refine Exists.intro ?_ ?_);focus (and_intros<;>first|omega|(with_reducible rfl)|kernel_rfl|(intro _ hh;cases hh;done)|exact Ah (by rfl)|(simp;done)|decide))|(with_reducible intro hfact)|((with_reducible refine CallWp.mk ?_);refine⟨_,Adg,?_⟩;rintro _ _ ⟨rfl,rfl⟩)|((with_reducible refine CallWp.mk ?_);refine⟨_,Ae1,?_⟩;rintro _ _ ⟨rfl,rfl⟩)|((with_reducible refine CallWp.mk ?_);refine⟨_,Gn,?_⟩;rintro _ _ ⟨rfl,rfl⟩)|((with_reducible refine CallWp.mk ?_);refine⟨_,Gr,?_⟩;rintro _ _ ⟨rfl,rfl⟩)|((with_reducible refine CallWp.mk ?_);refine⟨_,G0,?_⟩;rintro _ _ ⟨rfl,rfl⟩)|((with_reducible refine CallWp.mk ?_);refine⟨_,F5,?_⟩;rintro _ _ ⟨rfl,rfl⟩)|((with_reducible refine CallWp.mk ?_);refine⟨_,Ht,?_⟩;rintro _ _ ⟨rfl,rfl⟩))
 all_goals(try(conv=>whnf))
 (apply dKq<;>kernel_rfl)

open Go.Proofs
theorem Air{m:Nat}{s:Sto}(h:SInv m s)(hm:m≤80000)(n:Az)(cs:List Chg)(hn:n.length≤1000)(hcs:cs.length≤1000):
 Fn Tryd.prog Da [sP s,.v (.str n),.v (.list (cs.map Chg.toI))] (Is (.tup [.i (ti (s.writeM n cs).2.1),.i (ti (s.writeM n cs).2.2)]) [sP (s.writeM n cs).1,.no,.no]):=by
 unfold Sto.writeM;cases hf:s.fi n with
 |none=>exact Ai8 s n cs hf
 |some i=>
  dsimp only;cases hF:K6 cs []with
  |none=>exact Aji s n cs i hf hcs none rfl hF
  |some F=>
   have hrv:=h.rv n;exact R4 Aep Aex s n cs i hf hn hcs (h.lb.mono hm) ((h.tb n).mono hm) (by omega) F (some F) rfl hF _ rfl
theorem Gf{m:Nat}{s:Sto}(h:SInv m s)(hm:m≤80000)(n:Az)(rev:Int):
 Fn Tryd.prog A7 [sP s,.v (.str n),.v (ti rev)] (Is (.v (ti (s.compM n rev).2)) [sP (s.compM n rev).1,.no,.no]):=by
 unfold Sto.compM;cases hf:s.fi n with
 |none=>exact Fc s n rev hf
 |some i=>
  dsimp only;by_cases he:s.compE n rev=0
  ·rw[if_pos he];obtain⟨e1,e2,e3⟩:=Aht he;have hrv:=h.rv n;exact D6 s n rev i hf (h.lb.mono hm) ⟨e1,e2,e3,by omega⟩ _ rfl
  ·rw[if_neg he];exact Fk s n rev i hf he
theorem Aff{m:Nat}{s:Sto}(h:SInv m s)(hm:m≤80000)(n:Az)(hn:n.length≤1000)(x:Sp)(rev most:Int):
 Fn Tryd.prog C9 [sP s,.v (.str n),.v x.toI,.v (ti rev),.v (ti most)] (Is (.tup [.i (.list ((s.rangeM n x rev most).1.map Pr.toI)),.i (.bool (s.rangeM n x rev most).2.1),.i (ti (s.rangeM n x rev most).2.2)]) [sP s,.no,.no,.no,.no]):=by
 have hrv:=h.rv n;exact Ai5 ofC s (h.bd hm) n (by omega) x rev most (by omega)
theorem Dy(s:Sto)(n:Az):Fn Tryd.prog Ec [sP s,.v (.str n)] (Is (.v (ti (s.openM (D9 n) n).2)) [sP (s.openM (D9 n) n).1,.no]):=
 Aa2 s n (D9 n) (Aa1 n)
theorem B8{n:Az}{x:Sp}{rev most:Int}:∀{l:List Hld} {out:List Pr},(out.length:Int)≤most→((Ep n x rev most l out).1.length:Int)≤most
 | [],out,h=>h
 |p::r,out,h=>by
  unfold Ep;split
  ·exact h
  ·split
   ·exact B8 h
   ·split
    ·exact B8 h
    ·split
     ·exact h
     ·exact B8 (by simp;omega)
theorem Ga(s:Sto)(n:Az)(x:Sp)(rev most:Int):(s.rangeM n x rev most).1.length≤16:=by
 unfold Sto.rangeM;split
 ·simp
 ·split
  ·simp
  ·rename_i h;have h:SpR x∧0≤rev∧1≤most∧most≤16:=Classical.not_not.1 h;split
   ·simp
   ·split
    ·simp
    ·have:=B8 (n:=n) (x:=x) (rev:=if rev=0 then(s.tal n).rev else rev) (l:=s.l.drop (Km (Kh (B7 n [])) s.l)) (out:=[]) (most:=most) (by simp;omega)
     dsimp only;omega
def Fa(s:Sto)(o:Opn):Bool:=
 if o.k=0 then decide ((s.writeM o.n o.l).2.1=0)&&decide ((s.writeM o.n o.l).2.2=16)
 else if o.k=1 then decide ((s.rangeM o.n o.x o.rev o.most).1=[])&&(decide ((s.rangeM o.n o.x o.rev o.most).2.1=false)&&decide ((s.rangeM o.n o.x o.rev o.most).2.2=16))
 else if o.k=2 then decide ((s.compM o.n o.rev).2=16)
 else if o.k=3 then decide ((s.openM (D9 o.n) o.n).2=(if D9 o.n=true then 0 else 5))
 else true
def B4(o:Opn):SV:=if o.k=3∧D9 o.n=true then r1 o.n else r0
theorem Ej{m:Nat}{s:Sto}(h:SInv m s)(hm:m≤80000)(o:Opn)(hn:o.n.length≤1000)(hl:o.l.length≤1000):
 Fn Tryd.prog Dj [sP s,r0,.v o.toI] (Is (.v (.bool (Fa s o))) [sP (s.stepM o),B4 o,.no]):=by
 refine Dh ?_ (by simp)
 obtain⟨k,n,l,x,rev,most⟩:=o;dsimp only at hn hl;unfold Fa B4 Sto.stepM Opn.toI;dsimp only;by_cases k0:k=0
 ·subst k0;simp only[if_true];have hw:=Air h hm n l hn hl;have hv:=Hw n (l.map Chg.toI);generalize s.writeM n l=Z at*;obtain⟨s',a,b⟩:=Z;dsimp only at hw ⊢;repeat'((conv=>whnf);first|((with_reducible refine Ax (by first|((with_reducible refine decide_eq_true ?_);omega)|(with_reducible rfl)) (fun hb=>?_));(try rw[hb]);(try simp only[Aa]at hb))|((with_reducible refine Aw (by(with_reducible rfl)) (fun hb=>?_));(try rw[hb]);(try simp only[Aa]at hb))|((with_reducible refine And.intro (fun hb=>?_) (fun hb=>?_))<;>(((try rw[hb]);(try simp only[Aa]at hb);(try subst hb))))|((with_reducible refine Exists.intro ?_ ?_);focus (and_intros<;>first|omega|kernel_rfl|(intro _ hh;cases hh;done)|(simp;done)|decide))|((with_reducible refine CallWp.mk ?_);refine⟨_,hw,?_⟩;rintro _ _ ⟨rfl,rfl⟩)|((with_reducible refine CallWp.mk ?_);refine⟨_,hv,?_⟩;rintro _ _ ⟨rfl,rfl⟩))
  all_goals(try(conv=>whnf))
  all_goals((apply dKq<;>kernel_rfl))
 rw[if_neg k0,if_neg k0];have g0:¬decide (k=0)=true:=by simpa using k0
 by_cases k1:k=1
 ·subst k1;simp only[if_true];have hw:=Aff h hm n hn x rev most;have hv:=Hv n x rev most;have hsl:=Ga s n x rev most;generalize s.rangeM n x rev most=Z at*;obtain⟨a,b,c⟩:=Z;dsimp only at hw hsl ⊢;have hs:=Er a [] (by omega)
  simp only[List.map_nil]at hs;generalize decide (a=[])=t at*;rw[if_neg (show ¬(1:Int)=2 by decide),if_neg (show ¬(1:Int)=3 by decide),if_neg (show ¬((1:Int)=3∧D9 n=true)by simp)]
  repeat'((conv=>whnf);first|((with_reducible refine Ax (by first|((with_reducible refine decide_eq_true ?_);omega)|(with_reducible rfl)) (fun hb=>?_));(try rw[hb]);(try simp only[Aa]at hb))|((with_reducible refine Aw (by first|(with_reducible exact Bool.of_not_eq_true (by assumption))|(with_reducible rfl)) (fun hb=>?_));(try rw[hb]);(try simp only[Aa]at hb))|((with_reducible refine And.intro (fun hb=>?_) (fun hb=>?_))<;>(((try rw[hb]);(try simp only[Aa]at hb);(try subst hb))))|((with_reducible refine Exists.intro ?_ ?_);focus (and_intros<;>first|omega|kernel_rfl|(intro _ hh;cases hh;done)|(simp;done)|decide))|((with_reducible refine CallWp.mk ?_);refine⟨_,hw,?_⟩;rintro _ _ ⟨rfl,rfl⟩)|((with_reducible refine CallWp.mk ?_);refine⟨_,hv,?_⟩;rintro _ _ ⟨rfl,rfl⟩)|((with_reducible refine CallWp.mk ?_);refine⟨_,hs,?_⟩;rintro _ _ ⟨rfl,rfl⟩))
  all_goals(try(conv=>whnf))
  all_goals((apply dKq<;>kernel_rfl))
 rw[if_neg k1];have g1:¬decide (k=1)=true:=by simpa using k1
 by_cases k2:k=2
 ·subst k2;simp only[if_true];have hw:=Gf h hm n rev;have hv:=H7 n rev;generalize s.compM n rev=Z at*;obtain⟨s',a⟩:=Z;dsimp only at hw ⊢;repeat'((conv=>whnf);first|((with_reducible refine Ax (by first|((with_reducible refine decide_eq_true ?_);omega)|(with_reducible rfl)) (fun hb=>?_));(try rw[hb]);(try simp only[Aa]at hb))|((with_reducible refine Aw (by(with_reducible exact Bool.of_not_eq_true (by assumption))) (fun hb=>?_));(try rw[hb]);(try simp only[Aa]at hb))|((with_reducible refine Exists.intro ?_ ?_);focus (and_intros<;>first|omega|kernel_rfl|(intro _ hh;cases hh;done)|(simp;done)|decide))|((with_reducible refine Drawn.mkV ?_ ?_ ?_ (fun hfact=>?_));(focus kernel_rfl);(focus kernel_rfl);(focus kernel_rfl);(try simp only[dRS]at hfact))|((with_reducible refine CallIs.mk ?_);refine⟨_,_,hw,?_⟩)|((with_reducible refine CallIs.mk ?_);refine⟨_,_,hv,?_⟩))
  all_goals(try(conv=>whnf))
  refine Done.mk ?_ ?_
  ·refine And.intro ?_ ?_
   ·kernel_rfl
   ·kernel_rfl
  ·kernel_rfl
 rw[if_neg k2,if_neg k2];have g2:¬decide (k=2)=true:=by simpa using k2
 by_cases k3:k=3
 ·subst k3;simp only[if_true,true_and];have hw:=Dy s n;have hv:=Jb n;generalize s.openM (D9 n) n=Z at*;obtain⟨s',a⟩:=Z;generalize D9 n=b at*;dsimp only at hw ⊢;cases b with
  |true=>
   simp only[if_true]at hv ⊢;repeat'((conv=>whnf);first|((with_reducible refine Ax (by first|((with_reducible refine decide_eq_true ?_);omega)|(with_reducible rfl)) (fun hb=>?_));(try rw[hb]);(try simp only[Aa]at hb))|((with_reducible refine Aw (by(with_reducible exact Bool.of_not_eq_true (by assumption))) (fun hb=>?_));(try rw[hb]);(try simp only[Aa]at hb))|((with_reducible refine Exists.intro ?_ ?_);focus (and_intros<;>first|omega|kernel_rfl|(intro _ hh;cases hh;done)|(simp;done)|decide))|((with_reducible refine Drawn.mkV ?_ ?_ ?_ (fun hfact=>?_));(focus kernel_rfl);(focus kernel_rfl);(focus kernel_rfl);(try simp only[dRS]at hfact))|((with_reducible refine CallIs.mk ?_);refine⟨_,_,hw,?_⟩)|((with_reducible refine CallIs.mk ?_);refine⟨_,_,hv,?_⟩))
   all_goals(try(conv=>whnf))
   (apply dKq<;>kernel_rfl)
  |false=>
   simp only[Bool.false_eq_true,if_false]at hv ⊢;repeat'((conv=>whnf);first|((with_reducible refine Ax (by first|((with_reducible refine decide_eq_true ?_);omega)|(with_reducible rfl)) (fun hb=>?_));(try rw[hb]);(try simp only[Aa]at hb))|((with_reducible refine Aw (by(with_reducible exact Bool.of_not_eq_true (by assumption))) (fun hb=>?_));(try rw[hb]);(try simp only[Aa]at hb))|((with_reducible refine Exists.intro ?_ ?_);focus (and_intros<;>first|omega|kernel_rfl|(intro _ hh;cases hh;done)|(simp;done)|decide))|((with_reducible refine Drawn.mkV ?_ ?_ ?_ (fun hfact=>?_));(focus kernel_rfl);(focus kernel_rfl);(focus kernel_rfl);(try simp only[dRS]at hfact))|((with_reducible refine CallIs.mk ?_);refine⟨_,_,hw,?_⟩)|((with_reducible refine CallIs.mk ?_);refine⟨_,_,hv,?_⟩))
   all_goals(try(conv=>whnf))
   (apply dKq<;>kernel_rfl)
 have g3:¬decide (k=3)=true:=by simpa using k3
 rw[if_neg k3,if_neg k3,if_neg (fun c=>k3 c.1)]
 repeat'((conv=>whnf);first|((with_reducible refine Aw (by(with_reducible exact Bool.of_not_eq_true (by assumption))) (fun hb=>?_));(try rw[hb]);(try simp only[Aa]at hb))|((with_reducible refine Exists.intro ?_ ?_);focus (and_intros<;>first|omega|kernel_rfl|(simp;done))))
 all_goals(try(conv=>whnf))
 (apply dKq<;>kernel_rfl)
end Go.Ab
