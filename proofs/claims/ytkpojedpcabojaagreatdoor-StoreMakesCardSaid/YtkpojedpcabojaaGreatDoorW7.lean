/- Lemmas -/
import Derived.Test.YtkpojedpcabojaaGreatDoorWR
set_option linter.unusedVariables false
set_option linter.unusedSimpArgs false
set_option maxRecDepth 100000
namespace Go.Ab
open Go.Proofs
theorem Vh(s:Sp):Fn Tryz.prog A0r [.v s.Ap] (Is (.v (.bool (decide (Wo s)))) [.no]):=by
 refine Azq ?_ (by simp)
 repeat'((conv=>whnf);first|(with_reducible first|refine Bv (by rfl) fun hb=>?_|refine Bq (by rfl) fun hb=>?_);(try rw[hb]);try simp only[Am]at hb|(with_reducible refine Ai (fun hb=>?_) fun hb=>?_)<;>(((try rw[hb]);(try simp only[Am]at hb)))|(with_reducible refine Aa ?_ ?_);focus (and_intros<;>first|omega|with_reducible rfl|kernel_rfl|simp;done)|with_reducible intro Av)
 all_goals(try(conv=>whnf))
 all_goals(refine Gg.mk ⟨SV.E1 ?_,by kernel_rfl⟩ (by kernel_rfl))
 all_goals(simp[Wo,Kq]at*;grind)
theorem A49(s:Sp):Fn Tryz.prog Ae5 [.v s.Ap] (Is (.v (.bool (decide (Wo s)))) [.no]):=by
 refine Adw ?_ (by simp)
 repeat'((conv=>whnf);first|(with_reducible first|refine Bv (by rfl) fun hb=>?_|refine Bq (by rfl) fun hb=>?_);(try rw[hb]);try simp only[Am]at hb|(with_reducible refine Ai (fun hb=>?_) fun hb=>?_)<;>(((try rw[hb]);(try simp only[Am]at hb)))|(with_reducible refine Aa ?_ ?_);focus (and_intros<;>first|omega|with_reducible rfl|kernel_rfl|simp;done)|with_reducible intro Av)
 all_goals(try(conv=>whnf))
 all_goals(refine Gg.mk ⟨SV.E1 ?_,by kernel_rfl⟩ (by kernel_rfl))
 all_goals(simp[Wo,Kq]at*;grind)
theorem Bcn(s:Sp)(k:A1):Fn Tryz.prog Ahn [.v s.Ap,.v (.str k)] (Is (.v (.bool (decide (R8 s k)))) [.no,.no]):=by
 refine Ag0 ?_ (by simp)
 repeat'((conv=>whnf);first|(with_reducible first|refine Bv (by rfl) fun hb=>?_|refine Bq (by rfl) fun hb=>?_);(try rw[hb]);try simp only[Am]at hb|(with_reducible refine Ai (fun hb=>?_) fun hb=>?_)<;>(((try rw[hb]);(try simp only[Am]at hb)))|(with_reducible refine Aa ?_ ?_);focus (and_intros<;>first|omega|kernel_rfl|simp;done))
 all_goals(try(conv=>whnf))
 all_goals(refine Gg.mk ⟨SV.E1 ?_,by kernel_rfl⟩ (by kernel_rfl))
 all_goals(simp[R8,Kq]at*;grind)
theorem Bci(k:A1):Fn Tryz.prog Ak4 [.v (.str k)] (Is (.v (.bool false)) [.no]):=by
 refine Ak0 ?_ (by simp)
 (skip)
 all_goals(try(conv=>whnf))
 exact Gg.mk ⟨SV.E1 (by simp),by kernel_rfl⟩ (by kernel_rfl)
def Aaa(a b:A1):Int:=if a<b then -1 else if b<a then 1 else 0
theorem A46(a b:A1):Fn Tryz.prog Ahm [.v (.str a),.v (.str b)] (Is (.v (.int .i64 (Aaa a b))) [.no,.no]):=by
 refine Agz ?_ (by simp)
 repeat'((conv=>whnf);first|(with_reducible refine Bq (by first|assumption|rfl) fun hb=>?_);(try rw[hb]);try simp only[Am]at hb|(with_reducible refine Ai (fun hb=>?_) fun hb=>?_)<;>(((try rw[hb]);(try simp only[Am]at hb)))|(with_reducible refine Aa ?_ ?_);focus (and_intros<;>first|intro _ hh;cases hh;done|simp;done|decide)|(with_reducible refine A5.mk ?_);refine⟨_,Bci _,?_⟩;rintro _ _ ⟨rfl,rfl⟩)
 all_goals(try(conv=>whnf))
 all_goals(refine Gg.mk ⟨congrArg (fun n=>SV.v (.int .i64 n)) ?_,by kernel_rfl⟩ (by kernel_rfl))
 all_goals(simp[Aaa,Kq]at* <;>grind)
theorem Ay4(s:Sp)(k:A1):Fn Tryz.prog A89 [.v s.Ap,.v (.str k)] (Is (.v (.bool (decide (R8 s k)))) [.no,.no]):=by
 refine A6b ?_ (by simp)
 repeat'((conv=>whnf);first|(with_reducible first|refine Bv (by rfl) fun hb=>?_|refine Bq (by rfl) fun hb=>?_);(try rw[hb]);try simp only[Am]at hb|(with_reducible refine Ai (fun hb=>?_) fun hb=>?_)<;>(((try rw[hb]);(try simp only[Am]at hb)))|(with_reducible refine Aa ?_ ?_);focus (and_intros<;>first|omega|kernel_rfl|simp;done))
 all_goals(try(conv=>whnf))
 all_goals(refine Gg.mk ⟨SV.E1 ?_,by kernel_rfl⟩ (by kernel_rfl))
 all_goals(simp[R8,Kq]at*;grind)
set_option maxHeartbeats 40000000

open Go.Proofs
theorem Ajk(k:A1):Fn Tryz.prog Azg [.v (.str k)] (Is (.v (.bool (decide (1≤k.length∧k.length≤64)))) [.no]):=by
 refine Awq ?_ (by simp)
 repeat'((conv=>whnf);first|(with_reducible first|refine Bv (by rfl) fun hb=>?_|refine Bq (by rfl) fun hb=>?_);(try rw[hb]);try simp only[Am]at hb|(with_reducible refine Ai (fun hb=>?_) fun hb=>?_)<;>(((try rw[hb]);(try simp only[Am]at hb)))|(with_reducible refine Aa ?_ ?_);focus (and_intros<;>(with_reducible rfl))|with_reducible intro Av)
 all_goals(try(conv=>whnf))
 all_goals(refine Gg.mk ⟨SV.E1 ?_,by kernel_rfl⟩ (by kernel_rfl))
 all_goals(simp only[decide_eq_decide,decide_eq_true_eq,decide_eq_false_iff_not,Bool.false_eq]at*;omega)
theorem Adb(k:A1):Fn Tryz.prog Ash [.v (.str k)] (Is (.v (.bool (decide (k.length≤256)))) [.no]):=by
 refine Aru ?_ (by simp)
 repeat'((conv=>whnf);first|(with_reducible refine Aa ?_ ?_);focus (and_intros<;>(with_reducible rfl))|with_reducible intro Av)
 all_goals(try(conv=>whnf))
 all_goals(refine Gg.mk ⟨SV.E1 ?_,by kernel_rfl⟩ (by kernel_rfl))
 all_goals(simp only[decide_eq_decide];omega)
theorem Xs(n k:A1)(hn:n.length≤100000)(hk:k.length≤100000):Fn Tryz.prog Aze [.v (.str n),.v (.str k)] (Is (.v (.str (Cp n k))) [.no,.no]):=by
 refine Awo ?_ (by simp)
 repeat'((conv=>whnf);first|(with_reducible refine Aa ?_ ?_);focus (and_intros<;>first|omega|with_reducible rfl|kernel_rfl|exact F0 (by rfl)|simp only[Eu];omega)|with_reducible intro Av)
 all_goals(try(conv=>whnf))
 refine Gg.mk ⟨?_,by kernel_rfl⟩ (by kernel_rfl)
 show SV.v (.str _)=SV.v (.str _);have h:IntKind.u8.wrap (n.length:Int)=((n.length % 256:Nat):Int):=by simp[IntKind.wrap,IntKind.bits,IntKind.signed]
 rw[h,Hq];rfl
theorem Abe(s:A1)(hs:s.length≤1000000):Fn Tryz.prog Azf [.v (.str s)] (Is (.F4 [.i (.str (Cz s).1),.i (.str (Cz s).2.1),.i (.bool (Cz s).2.2)]) [.no]):=by
 refine Awp ?_ (by simp)
 cases s with
 |nil=>
  repeat'((conv=>whnf);first|(with_reducible refine Bv (by rfl) fun hb=>?_);(try rw[hb]);try simp only[Am]at hb|((with_reducible refine Ai (fun hb=>?_) fun hb=>?_)<;>first|exact absurd hb (by decide)|(try rw[hb]);try simp only[Am]at hb))
  all_goals(try(conv=>whnf))
  (apply D6<;>kernel_rfl)
 |cons c r=>
  have A2:¬decide (c::r=[])=true:=by simp
  simp only[Cg]at hs;have hc:=c.toNat_lt;have hw1:IntKind.i64.wrap (c.toNat:Int)=(c.toNat:Int):=Cd (by omega)
  have Sb:IntKind.i64.wrap (1+(c.toNat:Int))=((1+c.toNat:Nat):Int):=by rw[Cd (by omega)];omega
  have hw3:IntKind.i64.wrap (((c::r).length:Int) - 1)=(r.length:Int):=by rw[Cg,Cd (by omega)];omega
  by_cases Di:r.length<c.toNat
  ·have h1:¬decide ((r.length:Int)<(c.toNat:Int))=false:=by simp;omega
   have hM:Cz (c::r)=([],[],false):=by simp[Cz,Di]
   rw[hM];repeat'((conv=>whnf);first|(with_reducible first|refine Bv (by first|exact Ae (by assumption)|refine decide_eq_true ?_;omega) fun hb=>?_|refine Bq (by first|exact Ag (by assumption)|rfl) fun hb=>?_);(try rw[hb]);try simp only[Am]at hb|(with_reducible refine Aa ?_ ?_);focus (and_intros<;>first|omega|with_reducible rfl)|with_reducible intro Av|(try dsimp only);rw[hw1]|skip;rw[hw3])
   all_goals(try(conv=>whnf))
   (apply D6<;>kernel_rfl)
  ·have h1:¬decide ((r.length:Int)<(c.toNat:Int))=true:=by simp;omega
   have hM:Cz (c::r)=(r.take c.toNat,r.drop c.toNat,true):=by simp[Cz,Di]
   rw[hM];repeat'((conv=>whnf);first|(with_reducible refine Bq (by first|exact Ag (by assumption)|refine decide_eq_false ?_;omega|rfl) fun hb=>?_);(try rw[hb]);try simp only[Am]at hb|(with_reducible refine Aa ?_ ?_);focus (and_intros<;>first|omega|with_reducible rfl|simp only[Eu];omega)|with_reducible intro Av|(with_reducible apply Dw.by0);(focus kernel_rfl);intro Av;try simp only[zRL]at Av|(try dsimp only);rw[hw1]|skip;rw[hw3]|skip;rw[Sb])
   all_goals(try(conv=>whnf))
   refine Gg.mk ⟨?_,by kernel_rfl⟩ (by kernel_rfl)
   show SV.F4 [.i (.str _),.i (.str _),_]=_;simp only[Hq,Int.toNat_one,Hb];rw[Nat.add_comm 1 c.toNat,List.take_succ_cons,List.drop_succ_cons];rfl
theorem A6y(n:Int):Fn Tryz.prog Asf [.v (ti n)] (Is (.v (.bool false)) [.no]):=by
 refine Ars ?_ (by simp)
 (skip)
 all_goals(try(conv=>whnf))
 exact Gg.mk ⟨SV.E1 (by simp),by kernel_rfl⟩ (by kernel_rfl)
def Z9(a b:Int):Int:=if a<b then -1 else if b<a then 1 else 0
theorem Azt(a b:Int):Fn Tryz.prog Apk [.v (ti a),.v (ti b)] (Is (.v (ti (Z9 a b))) [.no,.no]):=by
 refine Anq ?_ (by simp)
 repeat'((conv=>whnf);first|(with_reducible refine Bq (by rfl) fun hb=>?_);(try rw[hb]);try simp only[Am]at hb|(with_reducible refine Ai (fun hb=>?_) fun hb=>?_)<;>(((try rw[hb]);(try simp only[Am]at hb)))|(with_reducible refine Aa ?_ ?_);focus (and_intros<;>first|intro _ hh;cases hh;done|simp;done|decide)|(with_reducible refine A5.mk ?_);refine⟨_,A6y _,?_⟩;rintro _ _ ⟨rfl,rfl⟩)
 all_goals(try(conv=>whnf))
 all_goals(refine Gg.mk ⟨congrArg (fun n=>SV.v (.int .i64 n)) ?_,by kernel_rfl⟩ (by kernel_rfl))
 all_goals(simp only[Z9];grind)
theorem Afz(a:A1)(x:I)(hx:x.size=1)(n:A1):Fn Tryz.prog V5 [.v (.agg [.str a,x]),.v (.str n)] (Is (.v (ti (Aaa a n))) [.no,.no]):=by
 refine Afs ?_ (by simp)
 repeat'((conv=>whnf);first|(with_reducible refine Aa ?_ ?_);focus (and_intros<;>first|omega|kernel_rfl|intro _ hh;cases hh;done|simp;done|decide)|(with_reducible refine A5.mk ?_);refine⟨_,A46 _ _,?_⟩;rintro _ _ ⟨rfl,rfl⟩)
 all_goals(try(conv=>whnf))
 exact Gg.mk ⟨rfl,by kernel_rfl⟩ (by kernel_rfl)
theorem Aaj(v:Bt)(n:Int):Fn Tryz.prog U1 [.v v.Ap,.v (ti n)] (Is (.v (ti (Z9 v.rev n))) [.no,.no]):=by
 refine Adz ?_ (by simp)
 repeat'((conv=>whnf);first|(with_reducible refine Aa ?_ ?_);focus (and_intros<;>first|omega|kernel_rfl|intro _ hh;cases hh;done|simp;done|decide)|(with_reducible refine A5.mk ?_);refine⟨_,Azt _ _,?_⟩;rintro _ _ ⟨rfl,rfl⟩)
 all_goals(try(conv=>whnf))
 exact Gg.mk ⟨rfl,by kernel_rfl⟩ (by kernel_rfl)

open Go.Proofs
theorem Bhr(a b:A1):decide (Aaa a b<0)=decide (a<b):=by
 unfold Aaa;by_cases h:a<b
 ·simp[h]
 ·by_cases h2:b<a<;>simp[h,h2]
theorem Bdf(a b:A1):decide (Aaa a b=0)=decide (a=b):=by
 unfold Aaa;by_cases h:a<b
 ·have:a≠b:=by rintro rfl;exact absurd h (Dt a)
  simp[h,this]
 ·by_cases h2:b<a
  ·have:a≠b:=by rintro rfl;exact absurd h2 (Dt a)
   simp[h,h2,this]
  ·have:a=b:=List.le_antisymm (List.not_lt.1 h2) (List.not_lt.1 h);rw[if_neg h,if_neg h2];simp[this]
theorem Bhq(a b:Int):decide (Z9 a b<0)=decide (a<b):=by
 unfold Z9;by_cases h:a<b
 ·simp[h]
 ·by_cases h2:b<a<;>simp[h,h2]
theorem Bde(a b:Int):decide (Z9 a b=0)=decide (a=b):=by
 unfold Z9;by_cases h:a<b
 ·simp[h];omega
 ·by_cases h2:b<a
  ·simp[h,h2];omega
  ·simp[h,h2];omega
def Fe(n:A1)(h:C0):Bool:=decide (h.at_<n)
def Su(n:A1)(h:C0):Bool:=decide (h.at_=n)
def Yc(n:Int)(v:Bt):Bool:=decide (v.rev<n)
def eqV(n:Int)(v:Bt):Bool:=decide (v.rev=n)
theorem Abd(l:List C0)(n:A1)(hl:l.length≤100000):Fn Tryz.prog M0 [.v (.list (l.map C0.Ap)),.v (.str n),.v (.fn V5)] (Is (.F4 [.i (.int .i64 (Gm (Fe n) l)),.i (.bool (U6 (Fe n) (Su n) l))]) [.no,.no,.no]):=by
 refine Mz ?_ (by simp)
 repeat'((conv=>whnf);first|(with_reducible refine Aa ?_ ?_);focus (and_intros<;>(with_reducible rfl))|with_reducible intro Av)
 all_goals(try(conv=>whnf))
 obtain⟨A,hA⟩:∃A,A=Gm (Fe n) l:=⟨_,rfl⟩;have hAF:U6 (Fe n) (Su n) l=(l[A]?).any (Su n):=by rw[hA];rfl
 have Bv5:A≤l.length:=by rw[hA];exact Wx _ _
 rw[hAF, ←hA];unfold Gm at hA;refine Ep.by (X:=Nat × Nat × Nat) (fun x=>[(9,.v (.int .i64 x.2.1)),(10,.v (.int .i64 x.2.2))]) (fun x=>x.2.1≤x.2.2∧x.2.2≤l.length∧x.2.2 - x.2.1≤x.1∧Ur (fun h=>(l[h]?).any (Fe n)) x.1 x.2.1 x.2.2=A) (fun x=>x.2.2 - x.2.1)
  (l.length,0,l.length) (by rw[An];kernel_rfl) ⟨A3 _,Ay _,Nat.sub_le _ _,hA.symm⟩ ?_
 rintro⟨f,i,j⟩ ⟨h1,h2,h3,h4⟩;dsimp only at h1 h2 h3 h4 ⊢;by_cases L7:i<j
 case neg=>
  have Di:¬decide ((i:Int)<(j:Int))=true:=by simp;omega
  obtain rfl:i=A:=by
   rw[←h4];cases f with
   |zero=>rfl
   |succ f=>rw[Ur,if_neg L7]
  by_cases Pv:i<l.length
  ·obtain⟨e,he⟩:∃e,l[i]?=some e:=⟨_,Ac Pv⟩;have Tf:¬decide ((i:Int)<((l.map C0.Ap).length:Int))=false:=by simp[Pv]
   have hl3:¬decide ((i:Int)<(l.length:Int))=false:=by simp[Pv]
   rw[he];simp only[Option.any_some];repeat'((conv=>whnf);first|(with_reducible first|refine Bv (by first|exact Ae (by assumption)|rfl) fun hb=>?_|refine Bq (by exact Ag (by assumption)) fun hb=>?_);(try rw[hb]);try simp only[Am]at hb|(with_reducible refine Aa ?_ ?_);focus (and_intros<;>first|omega|kernel_rfl|intro _ hh;cases hh;done|simp;done|decide)|(try dsimp only);rw[Be he]|(with_reducible refine A5.mk ?_);refine⟨_,Afz _ _ rfl _,?_⟩;rintro _ _ ⟨rfl,rfl⟩)
   all_goals(try(conv=>whnf))
   refine Gg.mk ⟨?_,by kernel_rfl⟩ (by kernel_rfl)
   rw[show Su n e=decide (Aaa e.at_ n=0)from(Bdf e.at_ n).symm];rfl
  ·have Tf:¬decide ((i:Int)<((l.map C0.Ap).length:Int))=true:=by simp;omega
   have hl3:¬decide ((i:Int)<(l.length:Int))=true:=by simp;omega
   rw[D9 (by omega)]
   simp only[Option.any_none];repeat'((conv=>whnf);((with_reducible refine Bq (by first|(with_reducible exact Ag (by assumption))|(with_reducible rfl)) fun hb=>?_);(try rw[hb]);(try simp only[Am]at hb)))
   all_goals(try(conv=>whnf))
   (apply D6<;>kernel_rfl)
 have Di:¬decide ((i:Int)<(j:Int))=false:=by simp[L7]
 obtain⟨g,rfl⟩:∃g,f=g+1:=⟨f - 1,by omega⟩
 rw[Ur,if_pos L7]at h4;have Ard:=Bfx (i:=i) (j:=j) (by omega)
 obtain⟨h,hh⟩:∃h,h=(i+j) / 2:=⟨_,rfl⟩;rw[←hh]at Ard h4;have hhj:h<j:=by omega
 obtain⟨e,he⟩:∃e,l[h]?=some e:=⟨_,Ac (by omega)⟩
 have hle:(l[h]?).any (Fe n)=decide (Aaa e.at_ n<0):=by rw[he];exact(Bhr e.at_ n).symm
 have hw:IntKind.i64.wrap ((h:Int)+1)=((h+1:Nat):Int):=Mj (n:=1000000) (by omega) (by simp only[maxLen];omega)
 rw[hle]at h4;by_cases hc:Aaa e.at_ n<0
 ·have hb:¬decide (Aaa e.at_ n<0)=false:=by simp[hc]
  rw[if_pos (by simpa using hc)]at h4
  repeat'((conv=>whnf);first|(with_reducible refine Bv (by exact Ae (by assumption)) fun hb=>?_);(try rw[hb]);try simp only[Am]at hb|(with_reducible refine Aa ?_ ?_);focus (and_intros<;>first|omega|kernel_rfl|intro _ hh;cases hh;done|simp;done|decide)|(try dsimp only);(first|rw[Ard]|rw[Be he])|(with_reducible refine A5.mk ?_);refine⟨_,Afz _ _ rfl _,?_⟩;rintro _ _ ⟨rfl,rfl⟩|skip;rw[hw])
  all_goals(try(conv=>whnf))
  refine Round.by (g,h+1,j) ?_ ⟨by dsimp only;omega,h2,by dsimp only;omega,h4⟩ (by dsimp only;omega)
  dsimp only;show norm _ _=Dy _ _
  kernel_rfl
 ·have hb:¬decide (Aaa e.at_ n<0)=true:=by simp[hc]
  rw[if_neg (by simpa using hc)]at h4
  repeat'((conv=>whnf);first|(with_reducible first|refine Bv (by exact Ae (by assumption)) fun hb=>?_|refine Bq (by exact Ag (by assumption)) fun hb=>?_);(try rw[hb]);try simp only[Am]at hb|(with_reducible refine Aa ?_ ?_);focus (and_intros<;>first|omega|kernel_rfl|intro _ hh;cases hh;done|simp;done|decide)|(try dsimp only);(first|rw[Ard]|rw[Be he])|(with_reducible refine A5.mk ?_);refine⟨_,Afz _ _ rfl _,?_⟩;rintro _ _ ⟨rfl,rfl⟩)
  all_goals(try(conv=>whnf))
  refine Round.by (g,i,h) ?_ ⟨by dsimp only;omega,by dsimp only;omega,by dsimp only;omega,h4⟩ (by dsimp only;omega)
  dsimp only;show norm _ _=Dy _ _
  kernel_rfl
theorem Bcg(l:List Bt)(n:Int)(hl:l.length≤100000):Fn Tryz.prog Nc [.v (.list (l.map Bt.Ap)),.v (ti n),.v (.fn U1)] (Is (.F4 [.i (.int .i64 (Gm (Yc n) l)),.i (.bool (U6 (Yc n) (eqV n) l))]) [.no,.no,.no]):=by
 refine M6 ?_ (by simp)
 repeat'((conv=>whnf);first|(with_reducible refine Aa ?_ ?_);focus (and_intros<;>(with_reducible rfl))|with_reducible intro Av)
 all_goals(try(conv=>whnf))
 obtain⟨A,hA⟩:∃A,A=Gm (Yc n) l:=⟨_,rfl⟩;have hAF:U6 (Yc n) (eqV n) l=(l[A]?).any (eqV n):=by rw[hA];rfl
 have Bv5:A≤l.length:=by rw[hA];exact Wx _ _
 rw[hAF, ←hA];unfold Gm at hA;refine Ep.by (X:=Nat × Nat × Nat) (fun x=>[(9,.v (.int .i64 x.2.1)),(10,.v (.int .i64 x.2.2))]) (fun x=>x.2.1≤x.2.2∧x.2.2≤l.length∧x.2.2 - x.2.1≤x.1∧Ur (fun h=>(l[h]?).any (Yc n)) x.1 x.2.1 x.2.2=A) (fun x=>x.2.2 - x.2.1)
  (l.length,0,l.length) (by rw[An];kernel_rfl) ⟨A3 _,Ay _,Nat.sub_le _ _,hA.symm⟩ ?_
 rintro⟨f,i,j⟩ ⟨h1,h2,h3,h4⟩;dsimp only at h1 h2 h3 h4 ⊢;by_cases L7:i<j
 case neg=>
  have Di:¬decide ((i:Int)<(j:Int))=true:=by simp;omega
  obtain rfl:i=A:=by
   rw[←h4];cases f with
   |zero=>rfl
   |succ f=>rw[Ur,if_neg L7]
  by_cases Pv:i<l.length
  ·obtain⟨e,he⟩:∃e,l[i]?=some e:=⟨_,Ac Pv⟩;have Tf:¬decide ((i:Int)<((l.map Bt.Ap).length:Int))=false:=by simp[Pv]
   have hl3:¬decide ((i:Int)<(l.length:Int))=false:=by simp[Pv]
   rw[he];simp only[Option.any_some];repeat'((conv=>whnf);first|(with_reducible first|refine Bv (by first|exact Ae (by assumption)|rfl) fun hb=>?_|refine Bq (by exact Ag (by assumption)) fun hb=>?_);(try rw[hb]);try simp only[Am]at hb|(with_reducible refine Aa ?_ ?_);focus (and_intros<;>first|omega|kernel_rfl|intro _ hh;cases hh;done|simp;done|decide)|(try dsimp only);rw[Be he]|(with_reducible refine A5.mk ?_);refine⟨_,Aaj _ _,?_⟩;rintro _ _ ⟨rfl,rfl⟩)
   all_goals(try(conv=>whnf))
   refine Gg.mk ⟨?_,by kernel_rfl⟩ (by kernel_rfl)
   rw[show eqV n e=decide (Z9 e.rev n=0)from(Bde e.rev n).symm];rfl
  ·have Tf:¬decide ((i:Int)<((l.map Bt.Ap).length:Int))=true:=by simp;omega
   have hl3:¬decide ((i:Int)<(l.length:Int))=true:=by simp;omega
   rw[D9 (by omega)]
   simp only[Option.any_none];repeat'((conv=>whnf);((with_reducible refine Bq (by first|(with_reducible exact Ag (by assumption))|(with_reducible rfl)) fun hb=>?_);(try rw[hb]);(try simp only[Am]at hb)))
   all_goals(try(conv=>whnf))
   (apply D6<;>kernel_rfl)
 have Di:¬decide ((i:Int)<(j:Int))=false:=by simp[L7]
 obtain⟨g,rfl⟩:∃g,f=g+1:=⟨f - 1,by omega⟩
 rw[Ur,if_pos L7]at h4;have Ard:=Bfx (i:=i) (j:=j) (by omega)
 obtain⟨h,hh⟩:∃h,h=(i+j) / 2:=⟨_,rfl⟩;rw[←hh]at Ard h4;have hhj:h<j:=by omega
 obtain⟨e,he⟩:∃e,l[h]?=some e:=⟨_,Ac (by omega)⟩
 have hle:(l[h]?).any (Yc n)=decide (Z9 e.rev n<0):=by rw[he];exact(Bhq e.rev n).symm
 have hw:IntKind.i64.wrap ((h:Int)+1)=((h+1:Nat):Int):=Mj (n:=1000000) (by omega) (by simp only[maxLen];omega)
 rw[hle]at h4;by_cases hc:Z9 e.rev n<0
 ·have hb:¬decide (Z9 e.rev n<0)=false:=by simp[hc]
  rw[if_pos (by simpa using hc)]at h4
  repeat'((conv=>whnf);first|(with_reducible refine Bv (by exact Ae (by assumption)) fun hb=>?_);(try rw[hb]);try simp only[Am]at hb|(with_reducible refine Aa ?_ ?_);focus (and_intros<;>first|omega|kernel_rfl|intro _ hh;cases hh;done|simp;done|decide)|(try dsimp only);(first|rw[Ard]|rw[Be he])|(with_reducible refine A5.mk ?_);refine⟨_,Aaj _ _,?_⟩;rintro _ _ ⟨rfl,rfl⟩|skip;rw[hw])
  all_goals(try(conv=>whnf))
  refine Round.by (g,h+1,j) ?_ ⟨by dsimp only;omega,h2,by dsimp only;omega,h4⟩ (by dsimp only;omega)
  dsimp only;show norm _ _=Dy _ _
  kernel_rfl
 ·have hb:¬decide (Z9 e.rev n<0)=true:=by simp[hc]
  rw[if_neg (by simpa using hc)]at h4
  repeat'((conv=>whnf);first|(with_reducible first|refine Bv (by exact Ae (by assumption)) fun hb=>?_|refine Bq (by exact Ag (by assumption)) fun hb=>?_);(try rw[hb]);try simp only[Am]at hb|(with_reducible refine Aa ?_ ?_);focus (and_intros<;>first|omega|kernel_rfl|intro _ hh;cases hh;done|simp;done|decide)|(try dsimp only);(first|rw[Ard]|rw[Be he])|(with_reducible refine A5.mk ?_);refine⟨_,Aaj _ _,?_⟩;rintro _ _ ⟨rfl,rfl⟩)
  all_goals(try(conv=>whnf))
  refine Round.by (g,i,h) ?_ ⟨by dsimp only;omega,by dsimp only;omega,by dsimp only;omega,h4⟩ (by dsimp only;omega)
  dsimp only;show norm _ _=Dy _ _
  kernel_rfl
theorem Vr(l:List I)(h:∀u∈l,u.size=4)(hl:l.length≤100000):Fn Tryz.prog Sf [.v (.list l)] (Is (.vec Ft 4 l) [.no]):=by
 refine R3 ?_ (by simp)
 repeat'((conv=>whnf);first|(with_reducible refine Ai (fun hb=>?_) fun hb=>?_)<;>(((try rw[hb]);(try subst hb)))|(with_reducible refine Aa ?_ ?_);focus (and_intros<;>first|omega|with_reducible rfl|simp only[Eu];omega|simp;done)|with_reducible intro Av)
 all_goals(try(conv=>whnf))
 ·refine Gg.mk ⟨congrArg (fun l=>SV.vec Ft 4 l) ?_,by kernel_rfl⟩ (by kernel_rfl)
  exact(Av rfl).symm
 ·exact Gg.mk ⟨congrArg (fun l=>SV.vec Ft 4 l) (Cu _),by kernel_rfl⟩ (by kernel_rfl)

abbrev Pq:=(Nat × SV) × (Nat × SV)
def Ao0(c:Nat × (Nat × SV)):List Rd→List Pq
 | []=>[]
 | .all _::r=>Ao0 c r
 | .Qa i f o::r=>match Nat.beq i c.1 with
   |true=>(f c.2.1 c.2.2,o)::Ao0 c r
   |false=>Ao0 c r
def As2:Log→List Rd→List Pq
 | [],_=>[]
 |c::L,R=>Ao0 c R++As2 L R
def Aq3(rd:Rd):List Rec→List Pq
 | []=>[]
 |e::r=>As2 e.L [rd]++Aq3 rd r
def Bo1:Pq:=((0,.no),(1,.no))
abbrev Eqs(l:List Pq):Prop:=∀p∈l,p.1=p.2
theorem Eqs.of:∀{l:List Pq},l.map Prod.fst=l.map Prod.snd→Eqs l
 | [],_=>by intro p hp;cases hp
 |q::l,h=>by
  simp only[A0,Em]at h;intro p hp;rcases Ah.1 hp with rfl|hp
  ·exact h.1
  ·exact Eqs.of h.2 p hp
theorem Ad6{c:Nat × (Nat × SV)}:∀{R:List Rd},Eqs (Ao0 c R)→Ah8 c R
 | [],_=>trivial
 | .all _::r,h=>Ad6 (R:=r) h
 | .Qa i f o::r,h=>by
   simp only[Ao0]at h;simp only[Ah8];cases hb:Nat.beq i c.1 with
   |true=>
    rw[hb]at h;exact⟨h _ (Ar ..),Ad6 (R:=r) fun p hp=>h p (Au _ hp)⟩
   |false=>
    rw[hb]at h;exact⟨trivial,Ad6 (R:=r) h⟩
theorem Ah7:∀{L:Log} {R:List Rd},Eqs (As2 L R)→Qu L R
 | [],_,_=>trivial
 |c::L,R,h=>⟨Ad6 fun p hp=>h p (E5 _ hp),Ah7 fun p hp=>h p (Fi _ hp)⟩
def okC(d e:Rec):Bool:=Nt (Bj d.L) (Bj e.L)&&Nt (Bj d.L) (K0 e.R)&&Nt (Bj e.L) (K0 d.R)
def Auk(d:Rec)(m:Nat):Nat→List Rec→Bool
 |n+1,e::r=>(m.testBit n||okC d e)&&Auk d m n r
 |_,_=>true
def okV(n:Nat)(rp:List Rec):List Rec→List Nat→Bool
 | [],_=>true
 |d::r,m::ms=>Auk d m n rp&&okV (n+1) (d::rp) r ms
 |_::_,[]=>false
def Ab8(d:Rec)(m:Nat):Nat→List Rec→List Pq
 |n+1,e::r=>match m.testBit n with
  |true=>Ab8 d m n r
  |false=>As2 d.L e.R++Ab8 d m n r
 |_,_=>[]
def Az5(n:Nat)(rp:List Rec):List Rec→List Nat→List Pq
 | [],_=>[]
 |d::r,m::ms=>Ab8 d m n rp++Az5 (n+1) (d::rp) r ms
 |_::_,[]=>[]
def Ba7(y m:Nat):Nat→List Rec→Bool
 |n+1,e::r=>(m.testBit n|| !(Bj e.L).contains y)&&Ba7 y m n r
 |_,_=>true
def Yi(st0:St)(n:Nat)(rp:List Rec)(m:Nat):List Rd→List Pq
 | []=>[]
 | .all _::r=>Yi st0 n rp m r
 | .Qa y f o::r=>match Ba7 y m n rp with
   |true=>Yi st0 n rp m r
   |false=>(match st0[y]? with
    |some c=>(f c.1 c.2,o)
    |none=>Bo1)::(Aq3 (.Qa y f o) rp++Yi st0 n rp m r)
def Az4(st0:St)(n:Nat)(rp:List Rec):List Rec→List Nat→List Pq
 | [],_=>[]
 |d::r,m::ms=>Yi st0 n rp m d.R++Az4 st0 (n+1) (d::rp) r ms
 |_::_,[]=>[]
theorem Aum{d e:Rec}{m:Nat}:∀{l:List Rec} {k:Nat},Xg d m k (l++[e])=(Xg d m k l&&(m.testBit (k+l.length)||okC d e))
 | [],k=>by simp[Xg,okC]
 |x::l,k=>by
  simp only[C4,Xg,Cg];rw[Aum (l:=l) (k:=k+1),show k+1+l.length=k+(l.length+1)by omega]
  simp only[Bool.and_assoc]
theorem Ax4{d:Rec}{m:Nat}:∀{rp:List Rec},Auk d m rp.length rp=Xg d m 0 rp.reverse
 | []=>rfl
 |e::r=>by
  simp only[Cg,Auk,List.reverse_cons];rw[Aum,Ax4 (rp:=r),Bm,List.length_reverse,Bool.and_comm]
theorem Bf1:∀{ds rp:List Rec} {ms:List Nat},okV rp.length rp ds ms=Zd rp.reverse ds ms
 | [],_,_=>by simp[okV,Zd]
 |_::_,_,[]=>rfl
 |d::r,rp,m::ms=>by
  simp only[okV,Zd];rw[Ax4, ←List.reverse_cons, ←Bf1 (rp:=d::rp)];rfl
theorem Aca{d e:Rec}{m:Nat}:∀{l:List Rec} {k:Nat},S1 d m k l→(m.testBit (k+l.length)=false→Qu d.L e.R)→S1 d m k (l++[e])
 | [],k,_,h=>by
   simp only[Cu,S1];refine⟨?_,trivial⟩;cases hb:m.testBit k with
   |true=>trivial
   |false=>exact h hb
 |x::l,k,h1,h2=>by
  simp only[C4,S1]at h1 ⊢;exact⟨h1.1,Aca h1.2 fun hb=>h2 (by rwa [Cg,show k+(l.length+1)=k+1+l.length by omega])⟩
theorem Ab9{d:Rec}{m:Nat}:∀{rp:List Rec},Eqs (Ab8 d m rp.length rp)→S1 d m 0 rp.reverse
 | [],_=>trivial
 |e::r,h=>by
  simp only[Cg,Ab8]at h;rw[List.reverse_cons];cases hb:m.testBit r.length with
  |true=>
   rw[hb]at h;exact Aca (Ab9 (rp:=r) h) fun Dc=>by rw[Bm,List.length_reverse,hb]at Dc;cases Dc
  |false=>
   rw[hb]at h;exact Aca (Ab9 (rp:=r) fun p hp=>h p (Fi _ hp)) fun _=>Ah7 fun p hp=>h p (E5 _ hp)
theorem Axh:∀{ds rp:List Rec} {ms:List Nat},okV rp.length rp ds ms=true→Eqs (Az5 rp.length rp ds ms)→Abp rp.reverse ds ms
 | [],_,_,_,_=>trivial
 |_::_,_,[],h,_=>by cases h
 |d::r,rp,m::ms,hk,h=>by
  simp only[okV,Ad]at hk;refine⟨Ab9 fun p hp=>h p (E5 _ hp),?_⟩
  rw[←List.reverse_cons];exact Axh (rp:=d::rp) hk.2 fun p hp=>h p (Fi _ hp)
theorem Ant{y m:Nat}{e:Rec}:∀{l:List Rec} {k:Nat},M7 y m k (l++[e])=(M7 y m k l&&(m.testBit (k+l.length)|| !(Bj e.L).contains y))
 | [],k=>by simp[M7]
 |x::l,k=>by
  simp only[C4,M7,Cg];rw[Ant (l:=l) (k:=k+1),show k+1+l.length=k+(l.length+1)by omega]
  simp only[Bool.and_assoc]
theorem A8c{y m:Nat}:∀{rp:List Rec},Ba7 y m rp.length rp=M7 y m 0 rp.reverse
 | []=>rfl
 |e::r=>by
  simp only[Cg,Ba7,List.reverse_cons];rw[Ant,A8c (rp:=r),Bm,List.length_reverse,Bool.and_comm]
theorem Amp{rd:Rd}{e:Rec}:∀{l:List Rec},T9 rd l→Qu e.L [rd]→T9 rd (l++[e])
 | [],_,h=>⟨h,trivial⟩
 |x::l,h1,h2=>⟨h1.1,Amp h1.2 h2⟩
theorem Amo{rd:Rd}:∀{rp:List Rec},Eqs (Aq3 rd rp)→T9 rd rp.reverse
 | [],_=>trivial
 |e::r,h=>by
  rw[List.reverse_cons];exact Amp (Amo fun p hp=>h p (Fi _ hp)) (Ah7 fun p hp=>h p (E5 _ hp))
theorem Wu{st0:St}{rp:List Rec}{m:Nat}:∀{R:List Rd},Eqs (Yi st0 rp.length rp m R)→T7 st0 rp.reverse m R
 | [],_=>trivial
 | .all _::r,h=>Wu (R:=r) h
 | .Qa y f o::r,h=>by
   simp only[Yi,A8c]at h;simp only[T7];cases hb:M7 y m 0 rp.reverse with
   |true=>
    rw[hb]at h;exact⟨trivial,Wu (R:=r) h⟩
   |false=>
    rw[hb]at h;have h1:=h _ (Ar ..);refine⟨⟨?_,Amo fun p hp=>h p (Au _ (E5 _ hp))⟩,Wu fun p hp=>h p (Au _ (Fi _ hp))⟩
    cases hs:st0[y]? with
    |some c=>rw[hs]at h1;exact h1
    |none=>rw[hs]at h1;simp[Bo1]at h1
theorem Aw6{st0:St}:∀{ds rp:List Rec} {ms:List Nat},okV rp.length rp ds ms=true→Eqs (Az4 st0 rp.length rp ds ms)→Abm st0 rp.reverse ds ms
 | [],_,_,_,_=>trivial
 |_::_,_,[],h,_=>by cases h
 |d::r,rp,m::ms,hk,h=>by
  simp only[okV,Ad]at hk;refine⟨Wu fun p hp=>h p (E5 _ hp),?_⟩
  rw[←List.reverse_cons];exact Aw6 (rp:=d::rp) hk.2 fun p hp=>h p (Fi _ hp)
theorem Dw.Gx{st0:St}{ms:List Nat}{Q:St→Prop}{ds:List Rec}{st:St}(h:okV 0 [] ds ms=true)(h2:(Az5 0 [] ds ms).map Prod.fst=(Az5 0 [] ds ms).map Prod.snd)
 (h3:(Az4 st0 0 [] ds ms).map Prod.fst=(Az4 st0 0 [] ds ms).map Prod.snd) (hq:(∀d∈ds,∀p∈d.F,p)→Q st):Dw st0 ms Q ds st:=
 ⟨by rw[←show okV 0 [] ds ms=Zd [] ds ms from Bf1 (rp:=[])];exact h,Axh (rp:=[]) h (Eqs.of h2),Aw6 (rp:=[]) h (Eqs.of h3),hq⟩

open Go.Proofs
def C0.Dp(h:C0):D:=.st [.it (.str h.at_),.vec Ft 4 ((h.vs.map Bt.Ap).map D.it)]
def A6.Dp(s:A6):D:=.st [.map (s.sp.map fun x=>.str x.1) (s.sp.map fun x=>.ptr (.it x.2.Ap)),.vec Np 2 (s.l.map C0.Dp)]
abbrev sP(s:A6):SV:=.own [] (.ptr s.Dp)
theorem C0.Avi(h:C0):h.Dp.Ap=some h.Ap:=by
 simp only[C0.Dp,C0.Ap,D.Ap,B8,A4]
theorem Atm(l:List C0):B8 (l.map C0.Dp)=some (l.map C0.Ap):=Ar7 C0.Avi l
theorem Tp{α:Type}(f:α→A1)(k:A1):∀(l:List α) (i:Nat),Nd k (l.map fun x=>.str (f x)) i=some ((l.findIdx? (fun x=>decide (f x=k))).map (· +i))
 | [],i=>by simp[Nd]
 |x::l,i=>by
  simp only[A0,Nd,List.findIdx?_cons];by_cases h:f x=k
  ·simp[h]
  ·rw[if_neg h,Tp f k l (i+1)];simp only[h,decide_false,D0,if_false,Option.map_map]
   congr 2
   funext a;simp only[Function.comp];omega
def A6.fi(s:A6)(n:A1):Option Nat:=s.sp.findIdx? fun x=>decide (x.1=n)
def Ny:Ef:=⟨0,0,0,0,0⟩
def A6.De(s:A6)(n:A1):Ef:=((s.sp.find? fun x=>decide (x.1=n)).map (·.2)).getD Ny
theorem A6.P1{s:A6}{n:A1}(h:s.fi n=none):Nd n (s.sp.map fun x=>.str x.1) 0=some none∧s.De n=Ny:=by
 refine⟨by rw[Tp (fun x:A1 × Ef=>x.1)];unfold A6.fi at h;rw[h];rfl,?_⟩
 unfold A6.fi at h;rw[List.findIdx?_eq_none_iff]at h;unfold A6.De;rw[List.find?_eq_none.2 (by simpa using h)]
 rfl
theorem A6.Jt{s:A6}{n:A1}{i:Nat}(h:s.fi n=some i):Nd n (s.sp.map fun x=>.str x.1) 0=some (some i)∧(s.sp.map fun x=>D.ptr (.it x.2.Ap))[i]?=some (.ptr (.it (s.De n).Ap))∧s.sp[i]?=some (n,s.De n):=by
 have h0:=h;unfold A6.fi at h;have hs:s.sp[i]?=some (n,s.De n):=by
  obtain⟨hi,h1,h2⟩:=List.findIdx?_eq_some_iff_getElem.1 h;have hf:s.sp.find? (fun x=>decide (x.1=n))=some s.sp[i]:=by
   rw[List.find?_eq_some_iff_getElem];exact⟨h1,i,hi,rfl,fun j hj=>by simpa using h2 j hj⟩
  rw[Ac hi];simp only[decide_eq_true_eq]at h1;unfold A6.De;rw[hf];show some s.sp[i]=some (n,s.sp[i].2);rw[←h1]
 refine⟨by rw[Tp (fun x:A1 × Ef=>x.1),h];rfl,by rw[B2,hs];rfl,hs⟩
theorem Ch{N:Nat}{os:List Bh}{st:St}{K:SV→St→Prop}(h:M5 (Ub 23 os st) fun st=>Mc Tryz.prog Aky Lu ⟨Ahr 23 N 4 5 K,Pe,Ahr 23 N 4 5 K⟩ st)(hn:os.length≤23:=by decide):Ky Tryz.prog 59 N os st K:=
 Ky.Bjw Tryz.func59 rfl Tryz.ntmps59 (by kernel_rfl) (by kernel_rfl) (by decide) (by decide) hn h
theorem A48(s:A6)(n:A1):Fn Tryz.prog Apm [sP s,.v (.str n)] (Is (.v (ti (s.De n).rev)) [sP s,.no]):=by
 refine Anr ?_ (by simp)
 cases hf:s.fi n with
 |none=>
  obtain⟨h1,h2⟩:=A6.P1 hf;rw[h2];repeat'((conv=>whnf);first|(with_reducible first|refine Bv (by rfl) fun hb=>?_|refine Bq (by rfl) fun hb=>?_);(try rw[hb]);try simp only[Am]at hb|(with_reducible refine Aa ?_ ?_);focus (and_intros<;>first|omega|with_reducible rfl|kernel_rfl|simp;done)|refine Ch ?_|(with_reducible apply Ed);(focus (simp only[D.at,D.put,D.Cr,D.Bc,B7,Bw,D.Ap,B8,A4,Dq,h1,A6.Dp]<;>exact rfl)))
  all_goals(try(conv=>whnf))
  (apply D6<;>kernel_rfl)
 |some i=>
  obtain⟨h1,h2,h3⟩:=A6.Jt hf;repeat'((conv=>whnf);first|(with_reducible refine Bv (by rfl) fun hb=>?_);(try rw[hb]);try simp only[Am]at hb|(with_reducible refine Aa ?_ ?_);focus (and_intros<;>first|omega|with_reducible rfl|kernel_rfl|simp;done)|(with_reducible refine Ai ?_ ?_);focus (decide)|refine Ch ?_|(with_reducible apply Ed);(focus (simp only[D.at,D.put,D.Cr,D.Bc,B7,Bw,D.Ap,B8,A4,Dq,h1,h3,A6.Dp,Ef.Ap]<;>exact rfl))|(with_reducible apply Dh);(focus rfl);(focus (simp only[D.at,D.put,D.Cr,D.Bc,B7,Bw,D.Ap,B8,A4,Dq,h1,h3,A6.Dp,Ef.Ap]<;>exact rfl));(try(focus exact rfl)))
  all_goals(try(conv=>whnf))
  (apply D6<;>kernel_rfl)
theorem Au8(s:A6)(n:A1):Fn Tryz.prog Aku [sP s,.v (.str n)] (Is (.v (ti (s.De n).floor)) [sP s,.no]):=by
 refine Ai2 ?_ (by simp)
 cases hf:s.fi n with
 |none=>
  obtain⟨h1,h2⟩:=A6.P1 hf;rw[h2];repeat'((conv=>whnf);first|(with_reducible first|refine Bv (by rfl) fun hb=>?_|refine Bq (by rfl) fun hb=>?_);(try rw[hb]);try simp only[Am]at hb|(with_reducible refine Aa ?_ ?_);focus (and_intros<;>first|omega|with_reducible rfl|kernel_rfl|simp;done)|refine Ch ?_|(with_reducible apply Ed);(focus (simp only[D.at,D.put,D.Cr,D.Bc,B7,Bw,D.Ap,B8,A4,Dq,h1,A6.Dp]<;>exact rfl)))
  all_goals(try(conv=>whnf))
  (apply D6<;>kernel_rfl)
 |some i=>
  obtain⟨h1,h2,h3⟩:=A6.Jt hf;repeat'((conv=>whnf);first|(with_reducible refine Bv (by rfl) fun hb=>?_);(try rw[hb]);try simp only[Am]at hb|(with_reducible refine Aa ?_ ?_);focus (and_intros<;>first|omega|with_reducible rfl|kernel_rfl|simp;done)|(with_reducible refine Ai ?_ ?_);focus (decide)|refine Ch ?_|(with_reducible apply Ed);(focus (simp only[D.at,D.put,D.Cr,D.Bc,B7,Bw,D.Ap,B8,A4,Dq,h1,h3,A6.Dp,Ef.Ap]<;>exact rfl))|(with_reducible apply Dh);(focus rfl);(focus (simp only[D.at,D.put,D.Cr,D.Bc,B7,Bw,D.Ap,B8,A4,Dq,h1,h3,A6.Dp,Ef.Ap]<;>exact rfl));(try(focus exact rfl)))
  all_goals(try(conv=>whnf))
  (apply D6<;>kernel_rfl)
theorem Au7(s:A6)(n:A1):Fn Tryz.prog Akt [sP s,.v (.str n)] (Is (.v (ti (s.De n).bytes)) [sP s,.no]):=by
 refine Ai0 ?_ (by simp)
 cases hf:s.fi n with
 |none=>
  obtain⟨h1,h2⟩:=A6.P1 hf;rw[h2];repeat'((conv=>whnf);first|(with_reducible first|refine Bv (by rfl) fun hb=>?_|refine Bq (by rfl) fun hb=>?_);(try rw[hb]);try simp only[Am]at hb|(with_reducible refine Aa ?_ ?_);focus (and_intros<;>first|omega|with_reducible rfl|kernel_rfl|simp;done)|refine Ch ?_|(with_reducible apply Ed);(focus (simp only[D.at,D.put,D.Cr,D.Bc,B7,Bw,D.Ap,B8,A4,Dq,h1,A6.Dp]<;>exact rfl)))
  all_goals(try(conv=>whnf))
  (apply D6<;>kernel_rfl)
 |some i=>
  obtain⟨h1,h2,h3⟩:=A6.Jt hf;repeat'((conv=>whnf);first|(with_reducible refine Bv (by rfl) fun hb=>?_);(try rw[hb]);try simp only[Am]at hb|(with_reducible refine Aa ?_ ?_);focus (and_intros<;>first|omega|with_reducible rfl|kernel_rfl|simp;done)|(with_reducible refine Ai ?_ ?_);focus (decide)|refine Ch ?_|(with_reducible apply Ed);(focus (simp only[D.at,D.put,D.Cr,D.Bc,B7,Bw,D.Ap,B8,A4,Dq,h1,h3,A6.Dp,Ef.Ap]<;>exact rfl))|(with_reducible apply Dh);(focus rfl);(focus (simp only[D.at,D.put,D.Cr,D.Bc,B7,Bw,D.Ap,B8,A4,Dq,h1,h3,A6.Dp,Ef.Ap]<;>exact rfl));(try(focus exact rfl)))
  all_goals(try(conv=>whnf))
  (apply D6<;>kernel_rfl)
theorem Ay1(s:A6)(n:A1):Fn Tryz.prog Ak6 [sP s,.v (.str n)] (Is (.v (ti (s.De n).keys)) [sP s,.no]):=by
 refine Ak1 ?_ (by simp)
 cases hf:s.fi n with
 |none=>
  obtain⟨h1,h2⟩:=A6.P1 hf;rw[h2];repeat'((conv=>whnf);first|(with_reducible first|refine Bv (by rfl) fun hb=>?_|refine Bq (by rfl) fun hb=>?_);(try rw[hb]);try simp only[Am]at hb|(with_reducible refine Aa ?_ ?_);focus (and_intros<;>first|omega|with_reducible rfl|kernel_rfl|simp;done)|refine Ch ?_|(with_reducible apply Ed);(focus (simp only[D.at,D.put,D.Cr,D.Bc,B7,Bw,D.Ap,B8,A4,Dq,h1,A6.Dp]<;>exact rfl)))
  all_goals(try(conv=>whnf))
  (apply D6<;>kernel_rfl)
 |some i=>
  obtain⟨h1,h2,h3⟩:=A6.Jt hf;repeat'((conv=>whnf);first|(with_reducible refine Bv (by rfl) fun hb=>?_);(try rw[hb]);try simp only[Am]at hb|(with_reducible refine Aa ?_ ?_);focus (and_intros<;>first|omega|with_reducible rfl|kernel_rfl|simp;done)|(with_reducible refine Ai ?_ ?_);focus (decide)|refine Ch ?_|(with_reducible apply Ed);(focus (simp only[D.at,D.put,D.Cr,D.Bc,B7,Bw,D.Ap,B8,A4,Dq,h1,h3,A6.Dp,Ef.Ap]<;>exact rfl))|(with_reducible apply Dh);(focus rfl);(focus (simp only[D.at,D.put,D.Cr,D.Bc,B7,Bw,D.Ap,B8,A4,Dq,h1,h3,A6.Dp,Ef.Ap]<;>exact rfl));(try(focus exact rfl)))
  all_goals(try(conv=>whnf))
  (apply D6<;>kernel_rfl)
theorem Aak(s:A6)(n:A1):Fn Tryz.prog U0 [sP s,.v (.str n)] (Is (.v (ti (s.De n).Jk)) [sP s,.no]):=by
 refine Ady ?_ (by simp)
 cases hf:s.fi n with
 |none=>
  obtain⟨h1,h2⟩:=A6.P1 hf;rw[h2];repeat'((conv=>whnf);first|(with_reducible first|refine Bv (by rfl) fun hb=>?_|refine Bq (by rfl) fun hb=>?_);(try rw[hb]);try simp only[Am]at hb|(with_reducible refine Aa ?_ ?_);focus (and_intros<;>first|omega|with_reducible rfl|kernel_rfl|simp;done)|refine Ch ?_|(with_reducible apply Ed);(focus (simp only[D.at,D.put,D.Cr,D.Bc,B7,Bw,D.Ap,B8,A4,Dq,h1,A6.Dp]<;>exact rfl)))
  all_goals(try(conv=>whnf))
  (apply D6<;>kernel_rfl)
 |some i=>
  obtain⟨h1,h2,h3⟩:=A6.Jt hf;repeat'((conv=>whnf);first|(with_reducible refine Bv (by rfl) fun hb=>?_);(try rw[hb]);try simp only[Am]at hb|(with_reducible refine Aa ?_ ?_);focus (and_intros<;>first|omega|with_reducible rfl|kernel_rfl|simp;done)|(with_reducible refine Ai ?_ ?_);focus (decide)|refine Ch ?_|(with_reducible apply Ed);(focus (simp only[D.at,D.put,D.Cr,D.Bc,B7,Bw,D.Ap,B8,A4,Dq,h1,h3,A6.Dp,Ef.Ap]<;>exact rfl))|(with_reducible apply Dh);(focus rfl);(focus (simp only[D.at,D.put,D.Cr,D.Bc,B7,Bw,D.Ap,B8,A4,Dq,h1,h3,A6.Dp,Ef.Ap]<;>exact rfl));(try(focus exact rfl)))
  all_goals(try(conv=>whnf))
  (apply D6<;>kernel_rfl)

open Go.Proofs
def Aoo:Bt:=⟨0,0,[],false⟩
def Avm(vs:List Bt):Nat→Bt × Bool
 |0=>(Aoo,false)
 |i+1=>match vs[i]? with
  |some v=>if v.gone=true then(Aoo,false)else(v,true)
  |none=>(Aoo,false)
def Ks(vs:List Bt)(rev:Int):Bt × Bool:=Avm vs (Gm (Yc (rev+1)) vs)
theorem Aof(a:A1)(vs:List Bt)(rev:Int)(hr: -1≤rev∧rev≤9000000000000000000)(hl:vs.length≤100000):
 Fn Tryz.prog Ahq [.v (.agg [.str a,.list (vs.map Bt.Ap)]),.v (ti rev)] (Is (.F4 [.i (Ks vs rev).1.Ap,.i (.bool (Ks vs rev).2)]) [.no,.no]):=by
 refine Ag5 ?_ (by simp)
 have hw:IntKind.i64.wrap (rev+1)=rev+1:=Cd (by omega)
 have N1:=Bcg vs (rev+1) hl;have hle:=Wx (Yc (rev+1)) vs;obtain⟨A,hA⟩:∃A,A=Gm (Yc (rev+1)) vs:=⟨_,rfl⟩;obtain⟨B,hB⟩:∃B,B=U6 (Yc (rev+1)) (eqV (rev+1)) vs:=⟨_,rfl⟩;have hM:Ks vs rev=Avm vs A:=by rw[hA];rfl
 rw[←hA, ←hB]at N1;rw[←hA]at hle;rw[hM];cases A with
 |zero=>
  have h0:¬decide (((0:Nat):Int)=0)=false:=by simp
  repeat'((conv=>whnf);first|(with_reducible refine Bv (by first|exact Ae (by assumption)|rfl) fun hb=>?_);(try rw[hb]);try simp only[Am]at hb|(with_reducible refine Aa ?_ ?_);focus (and_intros<;>first|omega|kernel_rfl|intro _ hh;cases hh;done|simp;done|decide)|(try dsimp only);rw[hw]|(with_reducible refine A5.mk ?_);refine⟨_,N1,?_⟩;rintro _ _ ⟨rfl,rfl⟩)
  all_goals(try(conv=>whnf))
  (apply D6<;>kernel_rfl)
 |succ i=>
  obtain⟨v,hv⟩:∃v,vs[i]?=some v:=⟨_,Ac (by omega)⟩
  have h0:¬decide (((i+1:Nat):Int)=0)=true:=by simp;omega
  have Sb:IntKind.i64.wrap (((i+1:Nat):Int) - 1)=(i:Int):=by rw[Cd (by omega)];omega
  have hN:Avm vs (i+1)=if v.gone=true then(Aoo,false)else(v,true):=by simp only[Avm,hv]
  rw[hN];cases hg:v.gone with
  |true=>
   repeat'((conv=>whnf);first|(with_reducible refine Bv (by(assumption)) fun hb=>?_);try rw[hb]|(with_reducible refine Bq (by first|exact Ag (by assumption)|rfl) fun hb=>?_);(try rw[hb]);try simp only[Am]at hb|(with_reducible refine Aa ?_ ?_);focus (and_intros<;>first|omega|kernel_rfl|intro _ hh;cases hh;done|simp;done|decide)|(try dsimp only);rw[hw]|(with_reducible refine A5.mk ?_);refine⟨_,N1,?_⟩;rintro _ _ ⟨rfl,rfl⟩|(try dsimp only);rw[Sb]|skip;rw[Be hv])
   all_goals(try(conv=>whnf))
   (apply D6<;>kernel_rfl)
  |false=>
   repeat'((conv=>whnf);first|(with_reducible refine Bq (by first|assumption|exact Ag (by assumption)|rfl) fun hb=>?_);(try rw[hb]);try simp only[Am]at hb|(with_reducible refine Aa ?_ ?_);focus (and_intros<;>first|omega|kernel_rfl|intro _ hh;cases hh;done|simp;done|decide)|(try dsimp only);rw[hw]|(with_reducible refine A5.mk ?_);refine⟨_,N1,?_⟩;rintro _ _ ⟨rfl,rfl⟩|(try dsimp only);rw[Sb]|skip;rw[Be hv])
   all_goals(try(conv=>whnf))
   (apply D6<;>kernel_rfl)
end Go.Ab
