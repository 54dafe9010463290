/- Lemmas -/
import Derived.Test.YtkpojedpcabojaaDoorNV
set_option linter.unusedVariables false
set_option linter.unusedSimpArgs false
set_option maxRecDepth 100000
set_option maxHeartbeats 40000000
namespace Go.Ab
open Go.Proofs
def decN(n:Nat)(b0 b1 b2 b3:Nat):Nat × Nat:=
 if b0<128 then(b0,1)
 else if b0 / 32=6∧1<n∧b1 / 64=2 then
  if b0 % 32*64+b1 % 64≥128 then(b0 % 32*64+b1 % 64,2)else(65533,1)
 else if b0 / 16=14∧1<n∧b1 / 64=2∧2<n∧b2 / 64=2 then
  if b0 % 16*4096+b1 % 64*64+b2 % 64≥2048∧Utf8.valid ((b0 % 16*4096+b1 % 64*64+b2 % 64:Nat):Int)=true then(b0 % 16*4096+b1 % 64*64+b2 % 64,3)else(65533,1)
 else if b0 / 8=30∧1<n∧b1 / 64=2∧2<n∧b2 / 64=2∧3<n∧b3 / 64=2 then
  if b0 % 8*262144+b1 % 64*4096+b2 % 64*64+b3 % 64≥65536∧Utf8.valid ((b0 % 8*262144+b1 % 64*4096+b2 % 64*64+b3 % 64:Nat):Int)=true then(b0 % 8*262144+b1 % 64*4096+b2 % 64*64+b3 % 64,4)else(65533,1)
 else(65533,1)
def Ce(l:Az)(k:Nat):Nat:=((l[k]?).getD 0).toNat
theorem Aec(l:Az):Cd l 0=decN l.length (Ce l 0) (Ce l 1) (Ce l 2) (Ce l 3):=by
 have hs:(⟨⟨l⟩⟩:ByteArray).size=l.length:=rfl;have h0:((⟨⟨l⟩⟩:ByteArray).get! 0).toNat=Ce l 0:=by rw[E7];rfl
 have h1:((⟨⟨l⟩⟩:ByteArray).get! 1).toNat=Ce l 1:=by rw[E7];rfl
 have h2:((⟨⟨l⟩⟩:ByteArray).get! 2).toNat=Ce l 2:=by rw[E7];rfl
 have h3:((⟨⟨l⟩⟩:ByteArray).get! 3).toNat=Ce l 3:=by rw[E7];rfl
 unfold Cd Utf8.decode;simp only[Nat.zero_add,hs,h0,h1,h2,h3];generalize Ce l 0=b0;generalize Ce l 1=b1;generalize Ce l 2=b2;generalize Ce l 3=b3;generalize l.length=n;unfold decN;simp only[Bool.and_eq_true,decide_eq_true_eq,beq_iff_eq,and_assoc,ge_iff_le,Utf8.runeError]
def szN(n:Nat)(b0 b1 b2 b3:Nat):Nat:=
 if b0≤127 then 1
 else if(194≤b0∧b0≤223)∧1<n∧128≤b1∧b1≤191 then 2
 else if(1<n∧128≤b1∧b1≤191∧2<n∧128≤b2∧b2≤191)∧((b0=224∧160≤b1)∨(225≤b0∧b0≤236)∨(b0=237∧b1≤159)∨(238≤b0∧b0≤239))then 3
 else if(1<n∧128≤b1∧b1≤191∧2<n∧128≤b2∧b2≤191∧3<n∧128≤b3∧b3≤191)∧((b0=240∧144≤b1)∨(241≤b0∧b0≤243)∨(b0=244∧b1≤143))then 4
 else 0
theorem Bk(l:Az)(k:Nat)(lo hi:Nat):A8 l (k:Int) (lo:Int) (hi:Int)=decide (k<l.length∧lo≤Ce l k∧Ce l k≤hi):=by
 unfold A8 Ce;rw[Int.toNat_natCast];cases h:l[k]? with
 |none=>
  have:=List.getElem?_eq_none_iff.1 h;symm;simp only[decide_eq_false_iff_not];omega
 |some c=>
  have:=(List.getElem?_eq_some_iff.1 h).1;simp only[Option.getD_some]
  congr 1
  rw[eq_iff_iff];omega
theorem Aee(l:Az):Fv l 1 1=decide (1<l.length∧128≤Ce l 1∧Ce l 1≤191):=by
 have h1:=Bk l 1 128 191;simp only[Fv,List.range_succ,List.range_zero,List.nil_append,List.all_cons,List.all_nil,Bool.and_true];exact h1
theorem Aef(l:Az):Fv l 1 2=decide (1<l.length∧128≤Ce l 1∧Ce l 1≤191∧2<l.length∧128≤Ce l 2∧Ce l 2≤191):=by
 have h1:=Bk l 1 128 191;have h2:=Bk l 2 128 191;have:Fv l 1 2=(A8 l ((1:Nat):Int) ((128:Nat):Int) ((191:Nat):Int)&&A8 l ((2:Nat):Int) ((128:Nat):Int) ((191:Nat):Int)):=by simp[Fv,List.range_succ]
 rw[this,h1,h2, ←Bool.decide_and]
 congr 1
 rw[eq_iff_iff];omega
theorem Aeg(l:Az):Fv l 1 3=decide (1<l.length∧128≤Ce l 1∧Ce l 1≤191∧2<l.length∧128≤Ce l 2∧Ce l 2≤191∧3<l.length∧128≤Ce l 3∧Ce l 3≤191):=by
 have h1:=Bk l 1 128 191;have h2:=Bk l 2 128 191;have h3:=Bk l 3 128 191;have:Fv l 1 3=(A8 l ((1:Nat):Int) ((128:Nat):Int) ((191:Nat):Int)&&(A8 l ((2:Nat):Int) ((128:Nat):Int) ((191:Nat):Int)&&A8 l ((3:Nat):Int) ((128:Nat):Int) ((191:Nat):Int))):=by simp[Fv,List.range_succ]
 rw[this,h1,h2,h3, ←Bool.decide_and, ←Bool.decide_and]
 congr 1
 rw[eq_iff_iff];omega
theorem Afg(l:Az)(hl:0<l.length):G9 l=(szN l.length (Ce l 0) (Ce l 1) (Ce l 2) (Ce l 3):Nat):=by
 have e1:A8 l 0 0 127=_:=Bk l 0 0 127;have e2:A8 l 0 194 223=_:=Bk l 0 194 223;have e3:A8 l 0 224 224=_:=Bk l 0 224 224;have e4:A8 l 1 160 191=_:=Bk l 1 160 191;have e5:A8 l 0 225 236=_:=Bk l 0 225 236;have e6:A8 l 0 237 237=_:=Bk l 0 237 237;have e7:A8 l 1 128 159=_:=Bk l 1 128 159;have e8:A8 l 0 238 239=_:=Bk l 0 238 239;have e9:A8 l 0 240 240=_:=Bk l 0 240 240;have e10:A8 l 1 144 191=_:=Bk l 1 144 191;have e11:A8 l 0 241 243=_:=Bk l 0 241 243;have e12:A8 l 0 244 244=_:=Bk l 0 244 244;have e13:A8 l 1 128 143=_:=Bk l 1 128 143;unfold G9 szN;rw[Aee,Aef,Aeg,e1,e2,e3,e4,e5,e6,e7,e8,e9,e10,e11,e12,e13];generalize Ce l 0=b0;generalize Ce l 1=b1;generalize Ce l 2=b2;generalize Ce l 3=b3;generalize l.length=n at hl ⊢;simp only[Bool.and_eq_true,Bool.or_eq_true,decide_eq_true_eq];repeat' split
 all_goals first|rfl|(exfalso;omega)
theorem Afq(l:Az)(k:Nat):Ce l k<256:=UInt8.toNat_lt _
theorem Adj(n b0 b1 b2 b3:Nat)(h0:b0<256)(hn:0<n):
 (szN n b0 b1 b2 b3=0∧decN n b0 b1 b2 b3=(65533,1))∨
 (szN n b0 b1 b2 b3=1∧decN n b0 b1 b2 b3=(b0,1)∧b0<128)∨
 (szN n b0 b1 b2 b3=2∧2≤n∧∃r,decN n b0 b1 b2 b3=(r,2)∧128≤r∧r≤1114111∧(161≤r↔(b0=194→161≤b1)))∨
 (szN n b0 b1 b2 b3=3∧3≤n∧∃r,decN n b0 b1 b2 b3=(r,3)∧161≤r∧r≤1114111)∨
 (szN n b0 b1 b2 b3=4∧4≤n∧∃r,decN n b0 b1 b2 b3=(r,4)∧161≤r∧r≤1114111):=by
 unfold szN;split
 ·rename_i hb;refine .inr (.inl ⟨rfl,?_,by omega⟩)
  unfold decN;rw[if_pos (show b0<128 by omega)]
 split
 ·refine .inr (.inr (.inl ⟨rfl,by omega,b0 % 32*64+b1 % 64,?_,by omega,by omega,by omega⟩))
  unfold decN;rw[if_neg (by omega),if_pos (by omega),if_pos (by omega)]
 split
 ·refine .inr (.inr (.inr (.inl ⟨rfl,by omega,b0 % 16*4096+b1 % 64*64+b2 % 64,?_,by omega,by omega⟩)))
  unfold decN;rw[if_neg (by omega),if_neg (by omega),if_pos (by omega),if_pos ⟨by omega,by simp only[Utf8.valid,Bool.or_eq_true,Bool.and_eq_true,decide_eq_true_eq];omega⟩]
 split
 ·refine .inr (.inr (.inr (.inr ⟨rfl,by omega,b0 % 8*262144+b1 % 64*4096+b2 % 64*64+b3 % 64,?_,by omega,by omega⟩)))
  unfold decN;rw[if_neg (by omega),if_neg (by omega),if_neg (by omega),if_pos (by omega),if_pos ⟨by omega,by simp only[Utf8.valid,Bool.or_eq_true,Bool.and_eq_true,decide_eq_true_eq];omega⟩]
 ·refine .inl ⟨rfl,?_⟩;unfold decN;rw[if_neg (by omega)]
  split
  ·rw[if_neg (by omega)]
  split
  ·rw[if_neg];rintro⟨hv1,hv2⟩;simp only[Utf8.valid,Bool.or_eq_true,Bool.and_eq_true,decide_eq_true_eq]at hv2;omega
  split
  ·rw[if_neg];rintro⟨hv1,hv2⟩;simp only[Utf8.valid,Bool.or_eq_true,Bool.and_eq_true,decide_eq_true_eq]at hv2;omega
  rfl
theorem Afd(c d:UInt8):E8 [c,d]=decide (c.toNat=194→161≤d.toNat):=by
 simp only[E8];split
 ·congr 1
  rw[eq_iff_iff];omega
 ·symm;simp only[decide_eq_true_eq];omega
theorem Ye(c d e:UInt8)(r:Az):E8 (c::d::e::r)=true:=rfl
theorem Z1(l:Az)(hl:0<l.length):
 (G9 l=0∧Cd l 0=(65533,1))∨
 (∃c r,l=c::r∧G9 l=1∧Cd l 0=(c.toNat,1)∧c.toNat<128)∨
 (∃k r:Nat,2≤k∧G9 l=(k:Int)∧k≤l.length∧Cd l 0=(r,k)∧128≤r∧r≤1114111∧E8 (l.take k)=decide (161≤r)):=by
 rw[Afg l hl,Aec];rcases Adj l.length (Ce l 0) (Ce l 1) (Ce l 2) (Ce l 3) (Afq l 0) hl with⟨h1,h2⟩|⟨h1,h2,h3⟩|⟨h1,h2,r,h3,h4,h5,h6⟩|⟨h1,h2,r,h3,h4,h5⟩|⟨h1,h2,r,h3,h4,h5⟩
 ·rw[h1,h2];exact .inl ⟨rfl,rfl⟩
 ·rw[h1,h2];cases l with
  |nil=>simp at hl
  |cons c r=>exact .inr (.inl ⟨c,r,rfl,rfl,rfl,h3⟩)
 ·rw[h1,h3];rcases l with _|⟨c,_|⟨d,t⟩⟩
  ·simp at hl
  ·simp at h2
  ·refine .inr (.inr ⟨2,r,by omega,rfl,h2,rfl,h4,h5,?_⟩)
   show E8 [c,d]=_;rw[Afd]
   congr 1
   rw[eq_iff_iff];exact h6.symm
 ·rw[h1,h3];rcases l with _|⟨c,_|⟨d,_|⟨e,t⟩⟩⟩
  ·simp at hl
  ·simp at h2
  ·simp at h2
  ·exact .inr (.inr ⟨3,r,by omega,rfl,h2,rfl,by omega,h5,by show E8 [c,d,e]=_;rw[Ye];simp[h4]⟩)
 ·rw[h1,h3];rcases l with _|⟨c,_|⟨d,_|⟨e,_|⟨f,t⟩⟩⟩⟩
  ·simp at hl
  ·simp at h2
  ·simp at h2
  ·simp at h2
  ·exact .inr (.inr ⟨4,r,by omega,rfl,h2,rfl,by omega,h5,by show E8 [c,d,e,f]=_;rw[Ye];simp[h4]⟩)

open Go.Proofs
theorem Fn.strLen{P:Program}{f:FuncId}{s:Az}{rest:List SV}{Post:SV→List SV→Prop}(h:s.length≤maxLen→Fn P f (.v (.str s)::rest) Post):Fn P f (.v (.str s)::rest) Post:=by
 intro G σ Fr w cargs hok hsz hargs;have h0:=(hargs 0 _ rfl).2;exact h (RepV.str.1 h0).2 G σ Fr w cargs hok hsz hargs
theorem Tz(s:Az)(p:Nat)(hp:p<s.length):Lib.decodeGo ⟨⟨s.drop p⟩⟩=Cd s p:=by
 rw[Gp s p];unfold Lib.decodeGo;rw[if_neg]
 ·rfl
 ·show ¬(s.drop p).length=0;rw[List.length_drop];omega
theorem L3(s:Az)(p:Nat)(hp:p<s.length)(r:Int):Fn Tryd.prog Ur [.v (.str s),.v (.int .i64 p),.v (.int .i32 r)] (Is (.v (.bool (decide (r=65533)&&decide ((Cd s p).2=1)))) [.no,.no,.no]):=by
 refine T6 ?_ (by simp)
 have hd:=X6 (s.drop p);rw[Tz s p hp]at hd;by_cases hr:r=65533
 ·have hb0:¬(!decide (r=65533))=true:=by simp[hr]
  repeat'((conv=>whnf);first|(refine aI (fun hb=>?_) (fun hb=>?_)<;>first|(exact absurd hb (by assumption))|((try rw[hb]);(try simp only[Aa]at hb);(try subst hb)))|(refine eI ?_ ?_;focus (and_intros<;>first|omega|exact rfl|(intro _ hh;cases hh;done)|(simp;done)|decide))|((simp only[List.headD,Int.toNat_natCast,List.take_length]))|(refine CallWp.mk ⟨_,hd,?_⟩;rintro _ _ ⟨rfl,rfl⟩))
  all_goals(try(conv=>whnf))
  refine Done.mk ⟨SV.bool_congr ?_,by kernel_rfl⟩ (by kernel_rfl)
  rw[eq_comm,Bool.eq_iff_iff];simp;omega
 ·repeat'((conv=>whnf);(refine aI (fun hb=>?_) (fun hb=>?_)<;>first|(exfalso;((simp only[Bu]at hb<;>omega)))|((try rw[hb]);(try simp only[Aa]at hb))))
  all_goals(try(conv=>whnf))
  all_goals first|contradiction|skip
  refine Done.mk ⟨SV.bool_congr (by simp[hr]),by kernel_rfl⟩ (by kernel_rfl)
theorem Tt(r:Int):Fn Tryd.prog W7 [.v (.int .i32 r)] (Is (.v (.bool (decide (161≤r)))) [.no]):=by
 refine Vj ?_ (by simp)
 (skip)
 all_goals(try(conv=>whnf))
 exact Done.mk ⟨SV.bool_congr (by simp),by kernel_rfl⟩ (by kernel_rfl)
theorem J5{f:Nat}{s:Az}{p n:Nat}{c:UInt8}(hc:s[p]?=some c){k:Nat}(hk:G9 (s.drop p)=(k:Int)):
 Ey (f+1) s p n=(if k=0 then false else if badR k c.toNat p ((s.drop p).take k)=true then false else if 24<n+1 then false else Ey f s (p+k) (n+1)):=by
 rw[Ey,hc];dsimp only;rw[hk,Int.toNat_natCast]
theorem S1{f:Nat}{s:Az}{p n:Nat}{c:UInt8}(hc:s[p]?=some c){k:Nat}(hk:G9 (s.drop p)=(k:Int))(hk0:0<k)(hkl:k≤s.length - p)(hp:p<s.length)
 (hb:badR k c.toNat p ((s.drop p).take k)=false) (h2:s.length<f+1+p) (h3:n≤p) (h4:n≤24→Ey (f+1) s p n=D9 s) (h5:24<n→D9 s=false):
 p+k≤s.length∧s.length<f+(p+k)∧n+1≤p+k∧(n+1≤24→Ey f s (p+k) (n+1)=D9 s)∧(24<n+1→D9 s=false):=by
 refine⟨by omega,by omega,by omega,fun h=>?_,fun h=>?_⟩
 ·rw[←h4 (by omega),J5 hc hk,if_neg (by omega),hb,if_neg (by simp),if_neg (by omega)]
 ·by_cases h24:24<n
  ·exact h5 h24
  ·rw[←h4 (by omega),J5 hc hk,if_neg (by omega),hb,if_neg (by simp),if_pos h]
theorem P9{f:Nat}{s:Az}{p n:Nat}{c:UInt8}(hc:s[p]?=some c){k:Nat}(hk:G9 (s.drop p)=(k:Int))
 (hb:k=0∨badR k c.toNat p ((s.drop p).take k)=true) (h4:n≤24→Ey (f+1) s p n=D9 s) (h5:24<n→D9 s=false):D9 s=false:=by
 by_cases h24:24<n
 ·exact h5 h24
 ·rw[←h4 (by omega),J5 hc hk]
  rcases hb with hb|hb
  ·rw[if_pos hb]
  ·rw[hb];split<;>simp
theorem Aa1(s:Az):Fn Tryd.prog Mr [.v (.str s)] (Is (.v (.bool (D9 s))) [.no]):=Fn.strLen fun hl=>by
 refine T5 ?_ (by simp)
 (skip)
 all_goals(try(conv=>whnf))
 refine LoopWq.by (X:=Nat × Nat × Nat) (fun x=>[(3,.v (.int .i64 x.2.2)),(7,.sit s x.2.1)]) (fun x=>x.2.1≤s.length∧s.length<x.1+x.2.1∧x.2.2≤x.2.1∧(x.2.2≤24→Ey x.1 s x.2.1 x.2.2=D9 s)∧(24<x.2.2→D9 s=false)) (fun x=>s.length - x.2.1)
  (s.length+1,0,0) (by kernel_rfl) ⟨Nat.zero_le _,by dsimp only;omega,Nat.le_refl _,fun _=>rfl,fun h=>by simp at h⟩ ?_
 rintro⟨f,p,n⟩ ⟨h1,h2,h3,h4,h5⟩;dsimp only at h1 h2 h3 h4 h5 ⊢;obtain⟨f,rfl⟩:∃g,f=g+1:=⟨f - 1,by omega⟩
 by_cases hp:p<s.length
 case neg=>
  have hlt:¬decide (p<s.length)=true:=by simp;omega
  have hv:D9 s=(decide (0<n)&&decide (n≤24)):=by
   by_cases h24:n≤24
   ·rw[←h4 h24,Ey,List.getElem?_eq_none (by omega)]
    simp[h24]
   ·rw[h5 (by omega)]
    simp[h24]
  rw[hv];repeat'((conv=>whnf);(refine aI (fun hb=>?_) (fun hb=>?_)<;>first|(exact absurd hb (by first|assumption|decide))|((try rw[hb]);(try simp only[Aa]at hb))))
  all_goals(try(conv=>whnf))
  all_goals refine Done.mk ⟨SV.bool_congr ?_,by kernel_rfl⟩ (by kernel_rfl)
  all_goals(rw[Bool.eq_iff_iff];simp;omega)
 have hlt:¬decide (p<s.length)=false:=by simp[hp]
 obtain⟨c,hc⟩:∃c,s[p]?=some c:=⟨_,List.getElem?_eq_getElem hp⟩;have hdl:(s.drop p).length=s.length - p:=List.length_drop ..;have hwn:IntKind.i64.wrap ((n:Int)+1)=((n+1:Nat):Int):=Dk (n:=maxLen) (by omega) (Nat.le_refl _)
 rcases Z1 (s.drop p) (by omega)with⟨hk,hr⟩|⟨c',t,hd,hk,hr,hc8⟩|⟨k,r,hk2,hk,hkl,hr,hr1,hr2,hit⟩
 ·rw[←Gp]at hr;have hw:=L3 s p hp (65533:Nat);rw[hr]at hw;rw[P9 hc hk (.inl rfl) h4 h5];repeat'((conv=>whnf);first|(refine aI (fun hb=>?_) (fun hb=>?_)<;>first|(exact absurd hb (by first|assumption|decide))|((try rw[hb]);(try simp only[Aa]at hb)))|(refine eI ?_ ?_;focus (and_intros<;>first|(intro _ hh;cases hh;done)|(simp;done)|decide))|((simp only[hr]))|(refine CallWp.mk ⟨_,hw,?_⟩;rintro _ _ ⟨rfl,rfl⟩))
  all_goals(try(conv=>whnf))
  (apply dKq<;>kernel_rfl)
 ·rw[←Gp]at hr;obtain rfl:c=c':=by
   have:=congrArg (fun q=>q[0]?) hd
   simp only[List.getElem?_drop,Nat.add_zero,List.getElem?_cons_zero]at this;rw[hc]at this;exact Option.some.inj this
  have hw:=L3 s p hp (c.toNat:Nat);rw[hr,show(decide (((c.toNat:Nat):Int)=65533)&&decide (((c.toNat,1):Nat × Nat).2=1))=false by simp;omega]at hw
  have hh:=Tt (c.toNat:Nat);rw[show decide (161≤((c.toNat:Nat):Int))=false by simp;omega]at hh
  have hlen:1≤s.length - p:=by omega
  have hgood:=fun hb=>S1 hc (k:=1) hk (by omega) hlen hp hb h2 h3 h4 h5
  have hbad:=fun hb=>P9 (k:=1) hc hk (.inr hb) h4 h5
  rw[hd]at hgood hbad;generalize hm:D9 s=m at*;have hB:∀q,badR 1 (c.toNat:Nat) p q=true↔¬((97≤c.toNat∧c.toNat≤122)∨(48≤c.toNat∧c.toNat≤57)∨c.toNat=95∨(c.toNat=45∧0<p)):=fun q=>by
   simp only[badR];simp;omega
  have hB':∀q,badR 1 (c.toNat:Nat) p q=false↔((97≤c.toNat∧c.toNat≤122)∨(48≤c.toNat∧c.toNat≤57)∨c.toNat=95∨(c.toNat=45∧0<p)):=fun q=>by
   have:=hB q;cases hx:badR 1 (c.toNat:Nat) p q
   ·rw[hx]at this;simp at this;simp;omega
   ·rw[hx]at this;simp at this;simp;omega
  repeat'((conv=>whnf);first|(refine aI (fun hb=>?_) (fun hb=>?_)<;>first|(exact absurd hb (by first|assumption|decide))|(exfalso;((simp only[Bu]at hb<;>omega)))|((try rw[hb]);(try simp only[Aa]at hb)))|(refine eI ?_ ?_;focus (and_intros<;>first|(intro _ hh;cases hh;done)|(simp;done)|decide))|((simp only[hr]))|(refine CallWp.mk ⟨_,hw,?_⟩;rintro _ _ ⟨rfl,rfl⟩)|(refine CallWp.mk ⟨_,hh,?_⟩;rintro _ _ ⟨rfl,rfl⟩))
  all_goals(try(conv=>whnf))
  all_goals first
   |(refine Done.mk ⟨congrArg (fun b=>SV.v (.bool b)) (hbad ((hB _).2 (by omega))).symm,by kernel_rfl⟩ (by kernel_rfl);done)
   |(refine Round.by (f,p+1,n+1) ?_ (hgood ((hB' _).2 (by omega))) (by dsimp only;omega)
     rw[hwn];show norm _ _=upd _ _
     kernel_rfl)
 ·rw[←Gp]at hr;have hw:=L3 s p hp (r:Nat);rw[hr,show(decide (((r:Nat):Int)=65533)&&decide (((r,k):Nat × Nat).2=1))=false by simp;omega]at hw
  have hh:=Tt (r:Nat);have hgood:=fun hb=>S1 hc (k:=k) hk (by omega) (by omega) hp hb h2 h3 h4 h5
  have hbad:=fun hb=>P9 (k:=k) hc hk (.inr hb) h4 h5
  have hB:badR k c.toNat p ((s.drop p).take k)= !decide (161≤r):=by
   simp only[badR,hit];rw[show decide (k=1)=false by simp;omega,show decide (1<k)=true by simp;omega]
   simp
  rw[hB]at hgood hbad;generalize hm:D9 s=m at*;by_cases h161:161≤r
  ·rw[show decide (161≤((r:Nat):Int))=true by simp;omega]at hh
   repeat'((conv=>whnf);first|(refine aI (fun hb=>?_) (fun hb=>?_)<;>first|(exact absurd hb (by first|assumption|decide))|(exfalso;((simp only[Bu]at hb<;>omega)))|((try rw[hb]);(try simp only[Aa]at hb)))|(refine eI ?_ ?_;focus (and_intros<;>first|(intro _ hh;cases hh;done)|(simp;done)|decide))|((simp only[hr]))|(refine CallWp.mk ⟨_,hw,?_⟩;rintro _ _ ⟨rfl,rfl⟩)|(refine CallWp.mk ⟨_,hh,?_⟩;rintro _ _ ⟨rfl,rfl⟩))
   all_goals(try(conv=>whnf))
   refine Round.by (f,p+k,n+1) ?_ (hgood (by simp[h161])) (by dsimp only;omega)
   rw[hwn];show norm _ _=upd _ _
   kernel_rfl
  ·rw[show decide (161≤((r:Nat):Int))=false by simp;omega]at hh
   repeat'((conv=>whnf);first|(refine aI (fun hb=>?_) (fun hb=>?_)<;>first|(exact absurd hb (by first|assumption|decide))|(exfalso;((simp only[Bu]at hb<;>omega)))|((try rw[hb]);(try simp only[Aa]at hb)))|(refine eI ?_ ?_;focus (and_intros<;>first|(intro _ hh;cases hh;done)|(simp;done)|decide))|((simp only[hr]))|(refine CallWp.mk ⟨_,hw,?_⟩;rintro _ _ ⟨rfl,rfl⟩)|(refine CallWp.mk ⟨_,hh,?_⟩;rintro _ _ ⟨rfl,rfl⟩))
   all_goals(try(conv=>whnf))
   exact Done.mk ⟨congrArg (fun b=>SV.v (.bool b)) (hbad (by simp[h161])).symm,by kernel_rfl⟩ (by kernel_rfl)

open Go.Proofs
abbrev Ev:FuncId:=4
abbrev Kx:FuncId:=17
def Jw:Stm:=(sO [gA 0 cF] (sO [gC 3 19 [],gA 1 3] (sO [gM 4 1,gC 5 20 [(true,4),nL (cS [116])]] (sO [gM 6 1,O1 (.build 7 [(.str []),(.str []),(.bool false)] [(0,(cS [97])),(1,(cS [49,50,51,52,53,54,55,56,57]))]),O1 (.bsl 8 38 3 (.agg [(.str []),(.str []),(.bool false)]) 1 [(0,7)]),gC 9 24 [(true,6),nL (cS [116]),nL 8]] (sO [O1 (.build 10 [(.str []),(.int .i64 0),(.int .i64 0)] [(0,(cS [116])),(1,(cI 8)),(2,(cI 2))]),O1 (.alloc 2 (.one (.i (.agg [(.str []),(.int .i64 0),(.int .i64 0)])))),gS 3 2 10] (sO [gM 11 1,gU 12 3 2,O1 (.build 13 [(.str []),(.str []),(.bool false)] [(0,(cS [97])),(1,(cS [49,50,51,52,53,54,55,56]))]),O1 (.bsl 14 38 3 (.agg [(.str []),(.str []),(.bool false)]) 1 [(0,13)]),gC 15 21 [(true,11),nL 12,nL 14],gM 16 15,qt 16 (iM 17 1),qt 16 (iU 18 3 2),qt 16 (.build 19 [(.str []),(.str []),(.bool false)] [(0,(cS [98])),(1,(cS []))]),qt 16 (.bsl 20 38 3 (.agg [(.str []),(.str []),(.bool false)]) 1 [(0,19)]),.call (some (16,true)) (some 21) 21 [(true,17),nL 18,nL 20],qt 16 (iT 22 21),gP 23 16 22 cF,gA 0 23] .ret))))))
theorem Kc:OF 17 24 Jw [.t 0]:=oF Tryd.func17 rfl Tryd.ntmps17 (by kernel_rfl) (by kernel_rfl)
abbrev Lf:FuncId:=18
def J3:Stm:=(sO [gA 2 cF] (.seq (sO [gM 7 0,gN 8 7,gB 9 .gtr 8 (cI 60)] (cR 9 [gA 2 cT])) (.seq (sO [gM 10 0,gN 11 10,gM 12 (cI 0)] (.block 0 (.loop (kr [2,4,6,7] 13 24) (sO [gB 13 .lss 12 11] (.seq (.cond 13 .skip (.exit 0)) (.seq (.block 1 (sO [gI 14 1 10 12,gL 15 14,gA 4 15] (.seq (sO [gM 16 4,gN 17 16,gB 18 .gtr 17 (cI 100)] (cR 18 [gA 2 cT])) (sO [gM 19 4,gN 20 19,gM 21 (cI 0)] (.block 2 (.loop (kr [2,6,7,16] 22 14) (sO [gB 22 .lss 21 20] (.seq (.cond 22 .skip (.exit 2)) (.seq (.block 3 (sO [gI 23 3 19 21,gU 24 3 23,O1 (.alloc 6 (.one (.i (.agg [(.str []),(.str []),(.bool false)])))),gS 3 6 24] (sO [gF 25 6 0,gL 26 25,O1 (.len 27 true 26),gB 28 .gtr 27 (cI 1000),gM 29 28,qf 29 (iG 30 6 1 1),qf 29 (iL 31 30),qf 29 (.len 32 true 31),qf 29 (iB 33 .gtr 32 (cI 1000)),gP 34 29 cT 33] (cR 34 [gA 2 cT])))) (.ops [gB 35 .add 21 (cI 1),gM 21 35])))))))))) (.ops [gB 36 .add 12 (cI 1),gM 12 36]))))))) (sO [gA 2 cF] .ret))))
theorem Ko:OF 18 37 J3 [.t 2]:=oF Tryd.func18 rfl Tryd.ntmps18 (by kernel_rfl) (by kernel_rfl)
abbrev Jj:FuncId:=21
def Rv:Stm:=(sO [O1 (.box 4 1),gA 6 cF] (sO [gM 10 0,gF 11 4 0,gL 12 11,gM 13 2,gC 14 27 [(true,10),nL 12,nL 13],gA 9 14,gE 15 9 0,gE 16 9 1,gA 7 15,gA 8 16] (.seq (.drw [0,0,2,0,0,16,56,126,255,511,1023,1023,3071,1023,1023,17407,58367,130047,262143,524287,1048575] [gM 17 7,gF 18 4 1,gL 19 18,gM 20 0,gF 21 4 0,gL 22 21,gC 23 22 [(true,20),nL 22],O1 (.mm 24 true 19 23),gB 25 .leq 17 24,gM 26 25,qt 26 (iM 27 8),qt 26 (iG 28 4 2 2),qt 26 (iL 29 28),qt 26 (iM 30 0),qt 26 (iG 31 4 0 0),qt 26 (iL 32 31),.call (some (26,true)) (some 33) 23 [(true,30),nL 32],qt 26 (.mm 34 true 29 33),qt 26 (iB 35 .leq 27 34),gP 36 26 35 cF,gA 6 36]) .ret)))
theorem Sk:OF 21 37 Rv [.t 6]:=oF Tryd.func21 rfl Tryd.ntmps21 (by kernel_rfl) (by kernel_rfl)
abbrev Ez:FuncId:=27
def Nf:Stm:=(sO [gA 6 (cI 0),gA 7 (cI 0)] (sO [gM 20 0,gM 21 1,gC 22 22 [(true,20),nL 21],gM 23 0,gM 24 1,gC 25 23 [(true,23),nL 24],gA 8 22,gA 9 25] (sO [gM 26 8,gM 27 9,gA 10 26,gA 11 27] (sO [O1 (.mkmap 28),gA 12 28] (.seq (sO [gM 29 2,gN 30 29,gM 31 (cI 0)] (.block 0 (.loop [6,7,14,32,33,34,35,36,37,38,39,40,41,42,43,44,45,46,47,48,49,50,51,52,53,54,55,56,57,58,59,60,61,62,83,91] (sO [gB 32 .lss 31 30] (.seq (.cond 32 .skip (.exit 0)) (.seq (.block 1 (sO [gI 33 3 29 31,gU 34 3 33,O1 (.alloc 14 (.one (.i (.agg [(.str []),(.str []),(.bool false)])))),gS 3 14 34] (.seq (sO [gF 35 14 0,gL 36 35,O1 (.len 37 true 36),gB 38 .lss 37 (cI 1),gM 39 38,qf 39 (iG 40 14 0 0),qf 39 (iL 41 40),qf 39 (.len 42 true 41),qf 39 (iB 43 .gtr 42 (cI 64)),gP 44 39 cT 43,gM 45 44,qf 45 (iG 46 14 2 2),qf 45 (iL 47 46),qf 45 (iT 48 47),qf 45 (iM 49 48),qt 49 (iG 50 14 1 1),qt 49 (iL 51 50),qt 49 (.len 52 true 51),qt 49 (iB 53 .gtr 52 (cI 256)),qf 45 (iP 54 49 53 cF),gP 55 45 cT 54] (cR 55 [gM 56 10,gM 57 11,gA 6 56,gA 7 57])) (.ops [gM 58 12,gF 59 14 0,gL 60 59,gU 61 3 14,O1 (.mupd 58 60 61)])))) (.ops [gB 62 .add 31 (cI 1),gM 31 62]))))))) (.seq (sO [O1 (.movD 63 12),O1 (.rngM 64 63)] (.block 2 (.loop (kr [6,7,15,16,17,18,19,29] 65 46) (sO [O1 (.nextM 65 64),gE 66 65 0] (.seq (.cond 66 .skip (.exit 2)) (.block 3 (sO [O1 (.entM 67 64),gE 68 67 0,gE 69 67 1,O1 (.alloc 16 (.one (.i (.agg [(.str []),(.str []),(.bool false)])))),gA 15 68,gS 3 16 69] (sO [gM 71 0,gM 72 1,gM 73 15,gC 74 77 [nL 73],gC 75 33 [(true,71),nL 72,nL 74,nL (cI 0),nL (cI 1)],gA 70 75,gE 76 70 0,gE 77 70 1,gE 78 70 2,gA 17 76,gA 18 77,gA 19 78] (.seq (sO [gM 79 19,gB 80 .neq 79 (cI 0)] (cR 80 [gM 81 10,gM 82 11,gA 6 81,gA 7 82])) (.seq (sO [gM 83 17,gN 84 83,gB 85 .gtr 84 (cI 0)] (.cond 85 (sO [gM 86 9,gB 87 .sub 86 (cI 1),gA 9 87] (.ops [gM 88 8,gM 89 15,O1 (.len 90 true 89),gM 91 17,gI 92 4 91 (cI 0),gF 93 92 1,gL 94 93,O1 (.len 95 true 94),gB 96 .add 90 95,gB 97 .sub 88 96,gA 8 97])) .skip)) (sO [gF 98 16 2,gL 99 98,gT 100 99] (.cond 100 (sO [gM 101 9,gB 102 .add 101 (cI 1),gA 9 102] (.ops [gM 103 8,gM 104 15,O1 (.len 105 true 104),gF 106 16 1,gL 107 106,O1 (.len 108 true 107),gB 109 .add 105 108,gB 110 .add 103 109,gA 8 110])) .skip)))))))))))) (sO [gM 111 8,gM 112 9,gA 6 111,gA 7 112] .ret)))))))
theorem Jh:OF 27 113 Nf [.t 6,.t 7]:=oF Tryd.func27 rfl Tryd.ntmps27 (by kernel_rfl) (by kernel_rfl)

open Go.Proofs
theorem Ae1:Fn Tryd.prog Ec [sP ⟨[],[]⟩,.v (.str [116])] (Is (.v (ti 0)) [sP aw1,.no]):=by
 have h:=Aa1 [116];rw[show D9 [116]=true by rfl]at h
 exact Aa2 ⟨[],[]⟩ [116] true h

open Go.Proofs
theorem Air{m:Nat}{s:Sto}(h:SInv m s)(hm:m≤80000)(n:Az)(cs:List Chg)(hn:n.length≤1000)(hcs:cs.length≤1000):
 Fn Tryd.prog Da [sP s,.v (.str n),.v (.list (cs.map Chg.toI))] (Is (.tup [.i (ti (s.writeM n cs).2.1),.i (ti (s.writeM n cs).2.2)]) [sP (s.writeM n cs).1,.no,.no]):=by
 unfold Sto.writeM;cases hf:s.fi n with
 |none=>exact Ai8 s n cs hf
 |some i=>
  dsimp only;cases hF:K6 cs []with
  |none=>exact Aji s n cs i hf hcs none rfl hF
  |some F=>
   have hrv:=h.rv n;exact R4 Aep Aex s n cs i hf hn hcs (h.lb.mono hm) ((h.tb n).mono hm) (by omega) F (some F) rfl hF _ rfl
theorem Aff{m:Nat}{s:Sto}(h:SInv m s)(hm:m≤80000)(n:Az)(hn:n.length≤1000)(x:Sp)(rev most:Int):
 Fn Tryd.prog C9 [sP s,.v (.str n),.v x.toI,.v (ti rev),.v (ti most)] (Is (.tup [.i (.list ((s.rangeM n x rev most).1.map Pr.toI)),.i (.bool (s.rangeM n x rev most).2.1),.i (ti (s.rangeM n x rev most).2.2)]) [sP s,.no,.no,.no,.no]):=by
 have hrv:=h.rv n;exact Ai5 ofC s (h.bd hm) n (by omega) x rev most (by omega)

theorem Nz:∀{p k:Az},(p≤k∧k<p++[0])↔k=p
 | [],[]=>by simp
 | [],x::k=>by
   simp only[List.nil_append];rw[List.cons_lt_cons_iff];have h1:¬x<0:=by
    intro h;have:=UInt8.lt_iff_toNat_lt.1 h;simp at this
   have h2:¬k<[]:=List.not_lt_nil k;simp[h1,h2]
 |a::p,[]=>by simp
 |a::p,x::k=>by
  have ih:=Nz (p:=p) (k:=k);simp only[List.cons_append];rw[List.cons_le_cons_iff,List.cons_lt_cons_iff,List.cons.injEq, ←ih];constructor
  ·rintro⟨h3,h4⟩;rcases h3 with h3|⟨rfl,h3⟩
   ·rcases h4 with h4|⟨rfl,_⟩
    ·exact absurd (UInt8.lt_trans h3 h4) (UInt8.lt_irrefl _)
    ·exact absurd h3 (UInt8.lt_irrefl _)
   ·rcases h4 with h4|⟨_,h4⟩
    ·exact absurd h4 (UInt8.lt_irrefl _)
    ·exact⟨rfl,h3,h4⟩
  ·rintro⟨rfl,h3,h4⟩;exact⟨.inr ⟨rfl,h3⟩,.inr ⟨rfl,h4⟩⟩

def A1(vs:List Ver):Ver:=vs.getLast?.getD ver0
def fK(n a:Az)(v:Ver):Int:=if(C1 a).1=n∧v.gone=false then 1 else 0
def fB(n a:Az)(v:Ver):Int:=if(C1 a).1=n∧v.gone=false then((C1 a).2.1.length:Int)+(v.val.length:Int)else 0
def sumF(f:Az→Ver→Int):List Hld→Int
 | []=>0
 |h::r=>f h.at_ (A1 h.vs)+sumF f r
theorem Aim(f:Az→Ver→Int):∀a b:List Hld,sumF f (a++b)=sumF f a+sumF f b
 | [],b=>by simp[sumF]
 |h::r,b=>by simp only[List.cons_append,sumF,Aim f r b];omega
theorem Aj0{f:Az→Ver→Int}{h:Hld}:∀{l:List Hld} {p:Nat} {e:Hld},l[p]?=some e→sumF f (l.set p h)=sumF f l - f e.at_ (A1 e.vs)+f h.at_ (A1 h.vs)
 | [],p,e,he=>by simp at he
 |x::r,0,e,he=>by
  simp only[List.getElem?_cons_zero,Option.some.injEq]at he;subst he;simp only[List.set_cons_zero,sumF];omega
 |x::r,p+1,e,he=>by
  simp only[List.getElem?_cons_succ]at he;simp only[List.set_cons_succ,sumF,Aj0 he];omega
theorem Aj4(vs:List Ver)(v:Ver):A1 (vs++[v])=v:=by simp[A1]
theorem Ai4{l:List Hld}{a:Az}{e:Hld}(hf:bsF (Kh a) (eqH a) l=true)(he:l[Km (Kh a) l]?=some e):Q1 l a=A1 e.vs:=by
 unfold Q1 Sto.lastM Sto.pi Sto.pf;dsimp only;rw[he];dsimp only;rw[if_pos hf];rfl
theorem Gs{f:Az→Ver→Int}{l:List Hld}{a:Az}{v:Ver}(h0:f a ver0=0):sumF f (putA l a v)=sumF f l - f a (Q1 l a)+f a v:=by
 unfold putA putL;split
 ·rename_i hf;obtain⟨e,h2,h3⟩:=Afp hf;have h4:e.at_=a:=by simpa[eqH]using h3
  rw[Zv h2,Aj0 h2,Ai4 hf h2];dsimp only;rw[Aj4,h4]
 ·rename_i hf;rw[show Q1 l a=ver0 from Sto.lastM_no (s:=⟨[],l⟩) (show bsF (Kh a) (eqH a) l=false by simpa using hf),h0]
  rw[Aim]
  conv=>rhs;rw[←List.take_append_drop (Km (Kh a) l) l,Aim]
  simp only[sumF,A1,List.getLast?_singleton,Option.getD_some];omega
theorem Ah8{n k:Az}{v:Ver}(hn:n.length<256):fK n (B7 n k) v=if v.gone=false then 1 else 0:=by
 unfold fK;rw[Mt hn];simp
theorem Ah7{n k:Az}{v:Ver}(hn:n.length<256):fB n (B7 n k) v=if v.gone=false then(k.length:Int)+(v.val.length:Int)else 0:=by
 unfold fB;rw[Mt hn];simp
theorem Akf{n n' k:Az}{v:Ver}(hn:n.length<256)(h:n'≠n):fK n' (B7 n k) v=0:=by
 unfold fK;rw[Mt hn,if_neg (fun c=>h c.1.symm)]
theorem Ake{n n' k:Az}{v:Ver}(hn:n.length<256)(h:n'≠n):fB n' (B7 n k) v=0:=by
 unfold fB;rw[Mt hn,if_neg (fun c=>h c.1.symm)]
theorem Af5{n a:Az}{v:Ver}(h:v.gone=true):fK n a v=0:=by unfold fK;rw[if_neg (fun c=>by rw[h]at c;cases c.2)]
theorem Lq{n a:Az}{v:Ver}(h:v.gone=true):fB n a v=0:=by unfold fB;rw[if_neg (fun c=>by rw[h]at c;cases c.2)]
theorem Ajs{n k:Az}{c:Chg}{x:WSt}(hn:n.length<256)(h1:x.t.keys=sumF (fK n) x.l)(h2:x.t.bytes=sumF (fB n) x.l):
 (Dw n k c x).t.keys=sumF (fK n) (Dw n k c x).l∧(Dw n k c x).t.bytes=sumF (fB n) (Dw n k c x).l:=by
 have g0:ver0.gone=true:=rfl;unfold Dw;dsimp only;split
 ·exact⟨h1,h2⟩
 ·rename_i hcw;split
  ·rename_i hc;have hw:(Q1 x.l (B7 n k)).gone=false:=by
    cases h:(Q1 x.l (B7 n k)).gone with
    |false=>rfl
    |true=>exact absurd ⟨hc,h⟩ hcw
   dsimp only;rw[Gs (Af5 g0),Gs (Lq g0),Ah8 hn,Ah8 hn,Ah7 hn,Ah7 hn,hw];simp only[if_true,Bool.true_eq_false,if_false];omega
  ·split
   ·rename_i hw;dsimp only;rw[Gs (Af5 g0),Gs (Lq g0),Ah8 hn,Ah8 hn,Ah7 hn,Ah7 hn,hw];simp only[if_true,Bool.true_eq_false,if_false];omega
   ·rename_i hw;have hw:(Q1 x.l (B7 n k)).gone=false:=by simpa using hw
    dsimp only;rw[Gs (Af5 g0),Gs (Lq g0),Ah8 hn,Ah8 hn,Ah7 hn,Ah7 hn,hw];simp only[if_true,Bool.true_eq_false,if_false];omega
theorem Ajy{n k n':Az}{c:Chg}{x:WSt}(hn:n.length<256)(h:n'≠n):
 sumF (fK n') (Dw n k c x).l=sumF (fK n') x.l∧sumF (fB n') (Dw n k c x).l=sumF (fB n') x.l:=by
 have g0:ver0.gone=true:=rfl;rcases Q7 n k c x with e|⟨v,_,e,_⟩
 ·rw[e];exact⟨rfl,rfl⟩
 ·rw[e,Gs (Af5 g0),Gs (Lq g0),Akf hn h,Akf hn h,Ake hn h,Ake hn h];omega
def VK(l:List Hld):Prop:=∀h∈l,(C1 h.at_).2.1.length≤64∧∀v∈h.vs,v.gone=false→1≤v.made∧v.made≤v.rev
theorem VK.put{l:List Hld}{n k:Az}{v:Ver}(h:VK l)(hn:n.length<256)(hk:k.length≤64)(hv:v.gone=false→1≤v.made∧v.made≤v.rev):VK (putA l (B7 n k) v):=by
 intro x hx;rcases Ajm hx with hx|rfl|⟨e,he,_,rfl⟩
 ·exact h x hx
 ·dsimp only;rw[Mt hn];exact⟨hk,fun w hw=>by simp only[List.mem_singleton]at hw;subst hw;exact hv⟩
 ·dsimp only;rw[Mt hn];refine⟨hk,fun w hw=>?_⟩
  rcases List.mem_append.1 hw with hw|hw
  ·exact(h e he).2 w hw
  ·simp only[List.mem_singleton]at hw;subst hw;exact hv
theorem Aj9(l:List Hld)(a:Az):Q1 l a=ver0∨∃e∈l,e.at_=a∧Q1 l a∈e.vs:=by
 cases hf:bsF (Kh a) (eqH a) l with
 |false=>exact .inl (Sto.lastM_no (s:=⟨[],l⟩) hf)
 |true=>
  obtain⟨e,h2,h3⟩:=Afp hf;rw[Ai4 hf h2];unfold A1;cases hl:e.vs.getLast? with
  |none=>exact .inl rfl
  |some v=>exact .inr ⟨e,List.mem_of_getElem? h2,by simpa[eqH]using h3,List.mem_of_getLast? hl⟩
theorem Aj1{n k:Az}{c:Chg}{x:WSt}{U:Az→Int}(hn:n.length<256)(hk:k.length≤64)(hr:0≤x.t.rev)(h:VK x.l)(hw:WInv U x.l)(hU:U (B7 n k)≤x.t.rev):VK (Dw n k c x).l:=by
 unfold Dw;dsimp only;split
 ·exact h
 ·split
  ·exact h.put hn hk (fun c=>by cases c)
  ·split
   ·exact h.put hn hk (fun _=>by dsimp only;omega)
   ·rename_i hg;refine h.put hn hk (fun _=>?_)
    dsimp only;rcases Aj9 x.l (B7 n k)with e|⟨e,he,hea,hm⟩
    ·rw[e]at hg;exact absurd rfl hg
    ·have h3:=(h e he).2 _ hm (by simpa using hg)
     have h4:=((hw.2 e he).2.2 _ hm).2;rw[hea]at h4;omega
theorem Aif{n:Az}{F:List Chg}{R:Az→Int}{r:Int}(hn:n.length<256)(hr:0≤r):∀{KK:List Az} {x:WSt},KK.Nodup→(∀k∈KK,k.length≤64)→x.t.rev=r→WInv (bndW n r R KK) x.l→VK x.l→x.t.keys=sumF (fK n) x.l→x.t.bytes=sumF (fB n) x.l→
 VK (Ge n F KK x).l∧(Ge n F KK x).t.keys=sumF (fK n) (Ge n F KK x).l∧(Ge n F KK x).t.bytes=sumF (fB n) (Ge n F KK x).l∧∀n',n'≠n→sumF (fK n') (Ge n F KK x).l=sumF (fK n') x.l∧sumF (fB n') (Ge n F KK x).l=sumF (fB n') x.l
 | [],x,_,_,_,_,h1,h2,h3=>⟨h1,h2,h3,fun _ _=>⟨rfl,rfl⟩⟩
 |k::KK,x,hd,hk,hx,hw,h1,h2,h3=>by
  obtain⟨d1,d2⟩:=List.nodup_cons.1 hd;have g1:=Ag6 (x:=x) (R:=R) (c:=getF F k) hn d1 (by omega) (by rw[hx];exact hw)
  rw[hx]at g1;have g2:=Aj1 (c:=getF F k) hn (hk k (List.mem_cons_self ..)) (by omega) h1 hw (by unfold bndW;rw[Mt hn,if_pos rfl,if_pos (List.mem_cons_self ..)];omega)
  obtain⟨g3,g4⟩:=Ajs (k:=k) (c:=getF F k) hn h2 h3;obtain⟨i1,i2,i3,i4⟩:=Aif (F:=F) (R:=R) hn hr (KK:=KK) (x:=Dw n k (getF F k) x) d2 (fun y hy=>hk y (List.mem_cons_of_mem _ hy)) ((Agt _ _ _ _).1.trans hx) g1 g2 g3 g4
  refine⟨i1,i2,i3,fun n' hn'=>?_⟩
  obtain⟨j1,j2⟩:=i4 n' hn';obtain⟨o1,o2⟩:=Ajy (k:=k) (c:=getF F k) (x:=x) hn hn';exact⟨j1.trans o1,j2.trans o2⟩
structure CInv(s:Sto):Prop where
 cnt:∀n,(s.tal n).keys=sumF (fK n) s.l∧(s.tal n).bytes=sumF (fB n) s.l
 vk:VK s.l
theorem CInv.write{m:Nat}{s:Sto}(h:SInv m s)(hc:CInv s)(n:Az)(cs:List Chg):CInv (s.writeM n cs).1:=by
 unfold Sto.writeM;split
 ·exact hc
 ·rename_i i hi;split
  ·exact hc
  ·rename_i F hF;obtain⟨f1,f2,_⟩:=Agz hF (by simp) (by simp)
   have hn:=h.name hi;obtain⟨g1,g2,g3,g4⟩:=Aif (F:=F) (R:=fun n=>(s.tal n).rev) (r:=(s.tal n).rev) hn (by have:=h.rv n;omega) (KK:=Dc (F.map Chg.key)) (x:=⟨s.tal n,s.l,false⟩) (Ahj f1) (fun k hk=>(Ajq f2 hk).1) rfl (h.start n _) hc.vk (hc.cnt n).1 (hc.cnt n).2
   generalize Ge n F (Dc (F.map Chg.key)) ⟨s.tal n,s.l,false⟩=Z at*;dsimp only at g1 g2 g3 g4;refine⟨fun n'=>?_,g1⟩
   rw[Mi hi];dsimp only;split
   ·rename_i e;subst e;unfold WSt.fin;split
    ·exact⟨g2,g3⟩
    ·exact⟨g2,g3⟩
   ·rename_i e;obtain⟨o1,o2⟩:=g4 n' e;rw[o1,o2];exact hc.cnt n'
theorem Aj2{r:Int}{vs:List Ver}(h0:vs≠[])(h:vs.length≤Lm r vs):(A1 vs).gone=true:=by
 have h1:=Ve r vs h0;unfold Lm at h;rw[List.getElem?_eq_getElem h1]at h;dsimp only at h;split at h
 ·rename_i hg;unfold A1;rw[List.getLast?_eq_getElem?,show vs.length - 1=Eo r vs by omega,List.getElem?_eq_getElem h1]
  exact hg.1
 ·omega
theorem Aj3{vs:List Ver}{k:Nat}(h:vs.drop k≠[]):A1 (vs.drop k)=A1 vs:=by
 unfold A1;rw[List.getLast?_drop,if_neg];intro c;exact h (List.drop_eq_nil_of_le c)
theorem Ahm{f:Az→Ver→Int}{n:Az}{r:Int}(hg:∀a v,v.gone=true→f a v=0):∀{l:List Hld},(∀h∈l,h.vs≠[])→sumF f (l.filterMap (Pf n r))=sumF f l
 | [],_=>rfl
 |h::t,h0=>by
  have ih:=Ahm (n:=n) (r:=r) hg (l:=t) fun x hx=>h0 x (List.mem_cons_of_mem _ hx)
  have hv:=h0 h (List.mem_cons_self ..);rw[List.filterMap_cons];cases e:Pf n r h with
  |none=>
   dsimp only;rw[ih,sumF];unfold Pf at e;split at e
   ·split at e
    ·rename_i hk;rw[hg _ _ (Aj2 hv hk)];omega
    ·cases e
   ·cases e
  |some h'=>
   obtain⟨a1,k,a2,a3⟩:=Agy e;dsimp only;have h4:=a3 hv;rw[sumF,sumF,ih,a1,a2,Aj3 (by rw[←a2];exact h4)]
theorem CInv.comp{m:Nat}{s:Sto}(h:SInv m s)(hc:CInv s)(n:Az)(rev:Int):CInv (s.compM n rev).1:=by
 unfold Sto.compM;split
 ·exact hc
 ·rename_i i hi;split
  ·obtain⟨c1,_⟩:=Ahp (n:=n) (rev:=rev) (l:=s.l) (x:=⟨[],0⟩);rw[List.nil_append]at c1;generalize Mz n rev s.l ⟨[],0⟩=Z at*;have h0:∀x∈s.l,x.vs≠[]:=fun x hx=>(h.lb.held x hx).2.1
   refine⟨fun n'=>?_,fun x hx=>?_⟩
   ·rw[Mi hi];dsimp only;rw[c1,Ahm (fun a v hg=>Af5 hg) h0,Ahm (fun a v hg=>Lq hg) h0]
    split
    ·rename_i e;subst e;exact hc.cnt n'
    ·exact hc.cnt n'
   ·dsimp only at hx;rw[c1]at hx;obtain⟨y,hy,e⟩:=List.mem_filterMap.1 hx;obtain⟨a1,k,a2,_⟩:=Agy e;rw[a1,a2];exact⟨(hc.vk y hy).1,fun v hv=>(hc.vk y hy).2 v (List.mem_of_mem_drop hv)⟩
  ·exact hc
theorem CInv.open{s:Sto}(hc:CInv s)(nm:Bool)(n:Az):CInv (s.openM nm n).1:=by
 have h2:=(Ah4 (s:=s) (nm:=nm) (n:=n) (n':=[])).2;refine⟨fun n'=>?_,?_⟩
 ·rw[h2,Ah4.1];exact hc.cnt n'
 ·rw[h2];exact hc.vk
theorem CInv.step{m:Nat}{s:Sto}(h:SInv m s)(hc:CInv s)(o:Opn):CInv (s.stepM o):=by
 unfold Sto.stepM;split
 ·exact hc.write h _ _
 ·split
  ·exact hc.comp h _ _
  ·split
   ·exact hc.open _ _
   ·exact hc
theorem Aj7:∀{p a b:Az},p++a<p++b↔a<b
 | [],a,b=>by simp
 |c::p,a,b=>by
  simp only[List.cons_append];rw[List.cons_lt_cons_iff,Aj7 (p:=p)];have:¬c<c:=UInt8.lt_irrefl c;simp[this]

open Go.Proofs
def Opn.hd(j:Nat)(o:Opn):Prop:=100≤j∨40<o.l.length∨1000<o.n.length∨1000<o.x.f.length∨1000<o.x.t.length
instance(j:Nat)(o:Opn):Decidable (o.hd j):=by unfold Opn.hd;infer_instance
def Chg.big(c:Chg):Prop:=1000<c.key.length∨1000<c.val.length
instance(c:Chg):Decidable c.big:=by unfold Chg.big;infer_instance
def cGo:List Chg→Bool
 | []=>false
 |c::r=>if c.big then true else cGo r

open Go.Proofs
def sto2:Sto:=⟨[([116],tal0),([117],tal0)],[]⟩
theorem Ai9:(Sto.mk [] []).openM (D9 [116]) [116]=(⟨[([116],tal0)],[]⟩,0):=by
 rw[show D9 [116]=true by rfl];rfl
theorem Aja:(Sto.mk [([116],tal0)] []).openM (D9 [117]) [117]=(sto2,0):=by
 rw[show D9 [117]=true by rfl];rfl
theorem inv2:SInv 0 sto2:=by
 have h1:=Ajr.open (nm:=D9 [116]) [116] Aha;rw[Ai9]at h1;have h2:=h1.open (nm:=D9 [117]) [117] Aha;rw[Aja]at h2;exact h2

open Go.Proofs
def Kv.toD(h:Kv):D:=.st [.it (.str h.key),.vec Bb 4 ((h.vs.map Ver.toI).map D.it)]
theorem Kv.toD_I(h:Kv):h.toD.toI=some h.toI:=by
 simp only[Kv.toD,Kv.toI,D.toI,toIs,Ak]

open Go.Proofs
def atGo(rev:Int):List Ver→Ver→Ver
 | [],v=>v
 |w::r,v=>atGo rev r (if w.rev≤rev then w else v)

def G3(n:Az)(h:Hld):Option Kv:=if(C1 h.at_).1=n then some ⟨(C1 h.at_).2.1,h.vs⟩else none
def keysOf(n:Az)(l:List Hld):List Kv:=l.filterMap (G3 n)
theorem V1{rev:Int}:∀{vs:List Ver} {v:Ver},atGo rev vs v=((vs.filter fun w=>decide (w.rev≤rev)).getLast?).getD v
 | [],v=>rfl
 |w::r,v=>by
  unfold atGo;rw[V1,List.filter_cons];by_cases h:w.rev≤rev
  ·rw[if_pos h,if_pos (by simpa using h),List.getLast?_cons]
   rfl
  ·rw[if_neg h,if_neg (by simpa using h)]
theorem Amw{vs:List Ver}(h:VSo vs)(rev:Int):D1 vs rev=if(atGo rev vs ver0).gone=true then(verN,false)else(atGo rev vs ver0,true):=by
 rw[Lg h,V1];cases (vs.filter fun w=>decide (w.rev≤rev)).getLast? with
 |none=>rfl
 |some v=>rfl
def selR(x:Sp)(rev:Int)(h:Kv):Option Pr:=if(atGo rev h.vs ver0).gone=false∧SpH x h.key then some ⟨h.key,(atGo rev h.vs ver0).val,(atGo rev h.vs ver0).made,(atGo rev h.vs ver0).rev⟩else none
theorem Aiz{x:Sp}{m:Nat}:∀{V:List (Az × Ver)} {out:List Pr},out.length≤m→
 Mf x (m:Int) V out=(out++(((V.filter fun p=>decide (SpH x p.1)).map prOf).take (m - out.length)),decide (m - out.length<(V.filter fun p=>decide (SpH x p.1)).length))
 | [],out,_=>by simp[Mf]
 |p::V,out,ho=>by
  unfold Mf;by_cases h:SpH x p.1
  ·have hf:(p::V).filter (fun p=>decide (SpH x p.1))=p::V.filter (fun p=>decide (SpH x p.1)):=by rw[List.filter_cons,if_pos (by simpa using h)]
   rw[if_neg (fun c=>c h),hf]
   by_cases e:out.length=m
   ·rw[if_pos (by omega),e,Nat.sub_self]
    simp
   ·rw[if_neg (by omega),Aiz (by simp;omega)]
    have:m - out.length=(m - (out++[prOf p]).length)+1:=by simp;omega
    rw[this,List.map_cons,List.take_succ_cons];simp only[List.append_assoc,List.singleton_append,List.length_cons,Nat.add_lt_add_iff_right]
  ·have hf:(p::V).filter (fun p=>decide (SpH x p.1))=V.filter (fun p=>decide (SpH x p.1)):=by rw[List.filter_cons,if_neg (by simpa using h)]
   rw[if_pos h,hf];exact Aiz ho
theorem Ajh{n:Az}{x:Sp}{rev:Int}:∀{l:List Hld},(∀h∈l,VSo h.vs)→((Lh n rev l).filter fun p=>decide (SpH x p.1)).map prOf=(keysOf n l).filterMap (selR x rev)
 | [],_=>rfl
 |h::r,hv=>by
  have ih:=Ajh (n:=n) (x:=x) (rev:=rev) (l:=r) fun y hy=>hv y (List.mem_cons_of_mem _ hy)
  have ha:=Amw (hv h (List.mem_cons_self ..)) rev;unfold Lh keysOf at ih ⊢;rw[List.filterMap_cons,List.filterMap_cons];by_cases hn:(C1 h.at_).1=n
  ·rw[show G3 n h=some ⟨(C1 h.at_).2.1,h.vs⟩by unfold G3;rw[if_pos hn]]
   dsimp only;rw[List.filterMap_cons];cases hg:(atGo rev h.vs ver0).gone with
   |true=>
    rw[hg,if_pos rfl]at ha;rw[show gV n rev h=none by unfold gV;rw[ha,if_neg (fun c=>by cases c.2)],show selR x rev ⟨(C1 h.at_).2.1,h.vs⟩=none by unfold selR;rw[if_neg (fun c=>by rw[hg]at c;cases c.1)]]
    exact ih
   |false=>
    rw[hg,if_neg (by simp)]at ha
    rw[show gV n rev h=some ((C1 h.at_).2.1,atGo rev h.vs ver0)by unfold gV;rw[ha,if_pos ⟨hn,rfl⟩]]
    dsimp only;rw[List.filter_cons];by_cases hs:SpH x (C1 h.at_).2.1
    ·rw[if_pos (by simpa using hs),show selR x rev ⟨(C1 h.at_).2.1,h.vs⟩=some (prOf ((C1 h.at_).2.1,atGo rev h.vs ver0))by unfold selR;rw[if_pos ⟨hg,hs⟩];rfl]
     rw[List.map_cons,ih]
    ·rw[if_neg (by simpa using hs),show selR x rev ⟨(C1 h.at_).2.1,h.vs⟩=none by unfold selR;rw[if_neg (fun c=>hs c.2)]]
     exact ih
  ·rw[Ahu hn,show G3 n h=none by unfold G3;rw[if_neg hn]]
   exact ih

theorem Nv{n:Az}{h:Hld}(e:(C1 h.at_).1≠n):G3 n h=none:=by unfold G3;rw[if_neg e]
end Go.Ab
