/- Lemmas -/
import Derived.Test.YtgcccllpegilnaaGreatDoorA8
set_option linter.unusedVariables false
set_option linter.unusedSimpArgs false
set_option maxRecDepth 100000
set_option maxHeartbeats 40000000
namespace Go.Ab
open Go.Proofs
def Mb(r:A8)(c:Ds):A8 × Int:=
 if D2 c.name=false then(r,5)
 else if Dq c.bytes=false then(r,1)
 else if Dq c.keys=false then(r,1)
 else if 0≤r.Hn c.name then(r,15)
 else if 8≤(r.Be.length:Int)then(r,17)
 else({r with rev:=r.rev+1,Be:=E8 (fun e:B7=>decide (c.name<e.name)) ⟨c.name,c.bytes,c.keys⟩ r.Be},0)
theorem Ath(r:A8)(hs:r.Small)(c:Ds)(Pu: -9223372036854775808≤r.rev∧r.rev<1099511627776)(hk:c.kind=4):Fn Tryz.prog C6 [.v r.Ae,.v c.Ae] (Is (.Dv [.i (Mb r c).1.Ae,.i (.int .i64 (Mb r c).2)]) [.no,.no]):=by
 refine Fn.isF (x:=[(Mb r c).1.Ae,.int .i64 (Mb r c).2]) ?_;refine C3 ?_ (by simp)
 have cp:=T2 r hs;have hw:IntKind.i64.wrap (r.rev+1)=r.rev+1:=Cf (by omega)
 have Jf:=hs.hT;have Kd:=hs.hU;have Pj:=hs.hX;have t1:=D6 r c.other (by omega)
 have t2:=D6 r c.name (by omega)
 have u1:=Gc r c.name (by omega)
 have x1:=Fs r c.name (by omega)
 have nm:=S1 c.name;have n1:Fn Tryz.prog G4 [.v (.int .i64 c.bytes)] (Is (.v (.bool (Dq c.bytes))) [.no]):=Vf c.bytes;have n2:Fn Tryz.prog G4 [.v (.int .i64 c.keys)] (Is (.v (.bool (Dq c.keys))) [.no]):=Vf c.keys;have ad:=Atc r.Be ⟨c.name,c.bytes,c.keys⟩ (by omega)
 repeat'((conv=>whnf);first|(apply aI<;>intro hb<;>first|exact absurd hb (by decide)|(exfalso;simp only[Az]at hb<;>omega)|((try rw[hb]);(try simp only[Ad]at hb)))|(refine eI ?_ ?_;focus (and_intros<;>first|omega|exact rfl|(intro _ hh;cases hh;done)|(simp;done)|decide))|(intro Aa)|((with_reducible apply A5.B5);(focus kernel_rfl);intro Aa;(try simp only[dRS]at Aa))|(refine Ac.mk ⟨_,cp,?_⟩;rintro _ _ ⟨rfl,rfl⟩)|((try dsimp only);rw[hw])|(refine Aj.mk ⟨_,_,t1,?_⟩)|(refine Aj.mk ⟨_,_,u1,?_⟩)|(refine Aj.mk ⟨_,_,x1,?_⟩)|(refine Ac.mk ⟨_,t2,?_⟩;rintro _ _ ⟨rfl,rfl⟩)|(refine Ac.mk ⟨_,n1,?_⟩;rintro _ _ ⟨rfl,rfl⟩)|(refine Ac.mk ⟨_,n2,?_⟩;rintro _ _ ⟨rfl,rfl⟩)|(refine Ac.mk ⟨_,nm,?_⟩;rintro _ _ ⟨rfl,rfl⟩)|(refine Ac.mk ⟨_,ad,?_⟩;rintro _ _ ⟨rfl,rfl⟩))
 all_goals(try(conv=>whnf))
 all_goals(refine Bd.mk ⟨?_,by kernel_rfl⟩ (by kernel_rfl))
 all_goals(try simp only[Mb])
 all_goals(try simp only[Mb, *,if_true,if_false,Bool.false_eq_true,Bool.true_eq_false,Bool.not_true,Bool.not_false,decide_true,decide_false,not_true_eq_false,not_false_eq_true,ne_eq,reduceIte])
 all_goals(try simp only[F4,Es,I.put,List.replicate_succ,List.replicate_zero,Bx,D.Ae,Bn,Dy,List.map_cons,List.map_nil,List.set_cons_zero,List.set_cons_succ,Cu,Cn,List.map_set,Int.toNat_natCast])
 all_goals(try rfl)
def Tz(r:A8)(c:Ds):A8 × Int:=
 if D2 c.name=false then(r,5)
 else if 0≤r.Ex c.name then(r,15)
 else if r.Hn c.other<0 then(r,16)
 else if 16≤(r.Am.length:Int)then(r,17)
 else({r with rev:=r.rev+1,Am:=E8 (fun e:Bh=>decide (c.name<e.name)) ⟨c.name,c.other,[]⟩ r.Am},0)
theorem A1z(r:A8)(hs:r.Small)(c:Ds)(Pu: -9223372036854775808≤r.rev∧r.rev<1099511627776)(hk:c.kind=9):Fn Tryz.prog C6 [.v r.Ae,.v c.Ae] (Is (.Dv [.i (Tz r c).1.Ae,.i (.int .i64 (Tz r c).2)]) [.no,.no]):=by
 refine Fn.isF (x:=[(Tz r c).1.Ae,.int .i64 (Tz r c).2]) ?_;refine C3 ?_ (by simp)
 have cp:=T2 r hs;have hw:IntKind.i64.wrap (r.rev+1)=r.rev+1:=Cf (by omega)
 have Jf:=hs.hT;have Kd:=hs.hU;have Pj:=hs.hX;have t1:=D6 r c.other (by omega)
 have u1:=Gc r c.name (by omega)
 have x1:=Fs r c.name (by omega)
 have nm:=S1 c.name;have ad:=A1q r.Am ⟨c.name,c.other,[]⟩ (by omega)
 repeat'((conv=>whnf);first|(apply aI<;>intro hb<;>first|exact absurd hb (by decide)|(exfalso;simp only[Az]at hb<;>omega)|((try rw[hb]);(try simp only[Ad]at hb)))|(refine eI ?_ ?_;focus (and_intros<;>first|exact rfl|(intro _ hh;cases hh;done)|(simp;done)|decide))|(intro Aa)|((with_reducible apply A5.B5);(focus kernel_rfl);intro Aa;(try simp only[dRS]at Aa))|(refine Ac.mk ⟨_,cp,?_⟩;rintro _ _ ⟨rfl,rfl⟩)|((try dsimp only);rw[hw])|(refine Aj.mk ⟨_,_,t1,?_⟩)|(refine Aj.mk ⟨_,_,u1,?_⟩)|(refine Aj.mk ⟨_,_,x1,?_⟩)|(refine Ac.mk ⟨_,nm,?_⟩;rintro _ _ ⟨rfl,rfl⟩)|(refine Ac.mk ⟨_,ad,?_⟩;rintro _ _ ⟨rfl,rfl⟩))
 all_goals(try(conv=>whnf))
 all_goals(refine Bd.mk ⟨?_,by kernel_rfl⟩ (by kernel_rfl))
 all_goals(try simp only[Tz])
 all_goals(try simp only[Tz, *,if_true,if_false,Bool.false_eq_true,Bool.true_eq_false,Bool.not_true,Bool.not_false,decide_true,decide_false,not_true_eq_false,not_false_eq_true,ne_eq,reduceIte])
 all_goals(try simp only[F4,Es,I.put,List.replicate_succ,List.replicate_zero,Bx,D.Ae,Bn,Dy,List.map_cons,List.map_nil,List.set_cons_zero,List.set_cons_succ,Cu,Cn,List.map_set,Int.toNat_natCast])
 all_goals(try rfl)
def T7(r:A8)(c:Ds):A8 × Int:=
 if D2 c.name=false then(r,5)
 else if 64<(c.word.length:Int)then(r,2)
 else if 64<(c.Bp.length:Int)then(r,2)
 else if 0≤r.Fa c.name then(r,15)
 else if r.Hn c.other<0 then(r,16)
 else if 16≤(r.Ag.length:Int)then(r,17)
 else({r with rev:=r.rev+1,Ag:=E8 (fun e:Bc=>decide (c.name<e.name)) ⟨c.name,c.other,c.Bp,Hj c.Bp c.word,[]⟩ r.Ag},0)
theorem A10(r:A8)(hs:r.Small)(c:Ds)(Pu: -9223372036854775808≤r.rev∧r.rev<1099511627776)(hk:c.kind=6)(hws:c.word.length≤1000000∧c.Bp.length≤1000000):Fn Tryz.prog C6 [.v r.Ae,.v c.Ae] (Is (.Dv [.i (T7 r c).1.Ae,.i (.int .i64 (T7 r c).2)]) [.no,.no]):=by
 refine Fn.isF (x:=[(T7 r c).1.Ae,.int .i64 (T7 r c).2]) ?_;refine C3 ?_ (by simp)
 have cp:=T2 r hs;have hw:IntKind.i64.wrap (r.rev+1)=r.rev+1:=Cf (by omega)
 have Jf:=hs.hT;have Kd:=hs.hU;have Pj:=hs.hX;have t1:=D6 r c.other (by omega)
 have u1:=Gc r c.name (by omega)
 have x1:=Fs r c.name (by omega)
 have nm:=S1 c.name;have hh:=Ava c.Bp c.word hws.2 hws.1;have ad:=A1r r.Ag ⟨c.name,c.other,c.Bp,Hj c.Bp c.word,[]⟩ (by omega)
 repeat'((conv=>whnf);first|(apply aI<;>intro hb<;>first|exact absurd hb (by decide)|(exfalso;simp only[Az]at hb<;>omega)|((try rw[hb]);(try simp only[Ad]at hb)))|(refine eI ?_ ?_;focus (and_intros<;>first|exact rfl|(intro _ hh;cases hh;done)|(simp;done)|decide))|(intro Aa)|((with_reducible apply A5.B5);(focus kernel_rfl);intro Aa;(try simp only[dRS]at Aa))|(refine Ac.mk ⟨_,cp,?_⟩;rintro _ _ ⟨rfl,rfl⟩)|((try dsimp only);rw[hw])|(refine Aj.mk ⟨_,_,t1,?_⟩)|(refine Aj.mk ⟨_,_,u1,?_⟩)|(refine Aj.mk ⟨_,_,x1,?_⟩)|(refine Ac.mk ⟨_,nm,?_⟩;rintro _ _ ⟨rfl,rfl⟩)|(refine Aj.mk ⟨_,_,hh,?_⟩)|(refine Aj.mk ⟨_,_,ad,?_⟩))
 all_goals(try(conv=>whnf))
 all_goals(refine Bd.mk ⟨?_,by kernel_rfl⟩ (by kernel_rfl))
 all_goals(try simp only[T7])
 all_goals(try simp only[T7, *,if_true,if_false,Bool.false_eq_true,Bool.true_eq_false,Bool.not_true,Bool.not_false,decide_true,decide_false,not_true_eq_false,not_false_eq_true,ne_eq,reduceIte])
 all_goals(try simp only[F4,Es,I.put,List.replicate_succ,List.replicate_zero,Bx,D.Ae,Bn,Dy,List.map_cons,List.map_nil,List.set_cons_zero,List.set_cons_succ,Cu,Cn,List.map_set,Int.toNat_natCast])
 all_goals(try rfl)
def Q6(r:A8)(c:Ds):A8 × Int:=
 if 64<(c.word.length:Int)then(r,2)
 else if 64<(c.Bp.length:Int)then(r,2)
 else if r.Fa c.name<0 then(r,16)
 else match r.Ag[(r.Fa c.name).toNat]? with
 |none=>(r,16)
 |some u=>({r with rev:=r.rev+1,Ag:=r.Ag.set (r.Fa c.name).toNat {u with Bp:=c.Bp,hash:=Hj c.Bp c.word}},0)
theorem A11(r:A8)(hs:r.Small)(c:Ds)(Pu: -9223372036854775808≤r.rev∧r.rev<1099511627776)(hk:c.kind=7)(hws:c.word.length≤1000000∧c.Bp.length≤1000000):Fn Tryz.prog C6 [.v r.Ae,.v c.Ae] (Is (.Dv [.i (Q6 r c).1.Ae,.i (.int .i64 (Q6 r c).2)]) [.no,.no]):=by
 refine Fn.isF (x:=[(Q6 r c).1.Ae,.int .i64 (Q6 r c).2]) ?_;refine C3 ?_ (by simp)
 have cp:=Ka r hs;have hw:IntKind.i64.wrap (r.rev+1)=r.rev+1:=Cf (by omega)
 have Jf:=hs.hT;have Kd:=hs.hU;have Pj:=hs.hX;have t1:=D6 r c.other (by omega)
 have u1:=Gc r c.name (by omega)
 have x1:=Fs r c.name (by omega)
 have hh:=Ava c.Bp c.word hws.2 hws.1;rcases G7 (fun t:Bc=>decide (t.name=c.name)) 0 r.Ag with h|⟨j,h,hj,u,Hg,Mg⟩
 ·have h':r.Fa c.name= -1:=h;rw[h']at u1;repeat'((conv=>whnf);first|(apply aI<;>intro hb<;>first|exact absurd hb (by decide)|(exfalso;simp only[Az]at hb<;>omega)|((try rw[hb]);(try simp only[Ad]at hb)))|(refine eI ?_ ?_;focus (and_intros<;>first|exact rfl|(intro _ hh;cases hh;done)|(simp;done)|decide))|(intro Aa)|((with_reducible apply A5.B5);(focus kernel_rfl);intro Aa;(try simp only[dRS]at Aa))|(refine Ac.mk ⟨_,cp,?_⟩;rintro _ _ ⟨rfl,rfl⟩)|((try dsimp only);rw[hw])|(refine Aj.mk ⟨_,_,t1,?_⟩)|(refine Aj.mk ⟨_,_,u1,?_⟩)|(refine Aj.mk ⟨_,_,x1,?_⟩))
  all_goals(try(conv=>whnf))
  all_goals(refine Bd.mk ⟨?_,by kernel_rfl⟩ (by kernel_rfl))
  all_goals(try simp only[Q6,h'])
  all_goals(try simp only[Q6,h', *,if_true,if_false,Bool.false_eq_true,Bool.true_eq_false,Bool.not_true,Bool.not_false,decide_true,decide_false,not_true_eq_false,not_false_eq_true,ne_eq,reduceIte])
  all_goals(try simp only[F4,Es,I.put,List.replicate_succ,List.replicate_zero,Bx,D.Ae,Bn,Dy,List.map_cons,List.map_nil,List.set_cons_zero,List.set_cons_succ,Cu,Cn,List.map_set,Int.toNat_natCast])
  all_goals(try rfl)
 ·have h':r.Fa c.name=(j:Int):=by rw[show r.Fa c.name=((0+j:Nat):Int)from h,Nat.zero_add]
  rw[h']at u1;have Po:r.Ag[Int.toNat (j:Int)]?=some u:=Hg;repeat'((conv=>whnf);first|(apply aI<;>intro hb<;>first|exact absurd hb (by decide)|(exfalso;simp only[Az]at hb<;>omega)|((try rw[hb]);(try simp only[Ad]at hb)))|(refine eI ?_ ?_;focus (and_intros<;>first|omega|exact rfl|(intro _ hh;cases hh;done)|(simp only[Az];omega)|(simp;done)|decide))|(intro Aa)|(refine A5.mk (by kernel_rfl) (by repeat'((conv=>whnf);first|exact True.intro|refine And.intro ?_ ?_|rfl|(dsimp only[Agd,Ar8,Ai5,Agc,seen];rfl))) (fun Aa=>?_);(try simp only[dRS]at Aa))|(refine Ac.mk ⟨_,cp,?_⟩;rintro _ _ ⟨rfl,rfl⟩)|((try dsimp only);rw[hw])|(refine Aj.mk ⟨_,_,t1,?_⟩)|(refine Aj.mk ⟨_,_,u1,?_⟩)|(refine Aj.mk ⟨_,_,x1,?_⟩)|(refine Aj.mk ⟨_,_,hh,?_⟩)|((first|with_reducible apply Lr|((with_reducible apply D9);(focus rfl)));(focus (simp only[D.at,D.put,D.Dj,D.Db,List.cons_append,List.nil_append,List.append,List.getElem?_cons_zero,List.getElem?_cons_succ,Int.toNat_natCast,List.getElem?_set_self',Option.map_eq_map,Option.map_some,List.set_cons_zero,List.set_cons_succ,List.set_set,Function.const_apply,List.map_cons,List.map_nil,Cu,Cn,D.Ae,Bx,Bn,List.getElem?_map,List.length_map,List.length_set,Hg]<;>exact rfl));(try(focus exact rfl))))
  all_goals(try(conv=>whnf))
  all_goals clear h Hg
  all_goals(refine Bd.mk ⟨?_,by kernel_rfl⟩ (by kernel_rfl))
  all_goals(try simp only[Q6,h',Po])
  all_goals(try simp only[Q6,h',Po, *,if_true,if_false,Bool.false_eq_true,Bool.true_eq_false,Bool.not_true,Bool.not_false,decide_true,decide_false,not_true_eq_false,not_false_eq_true,ne_eq,reduceIte])
  all_goals(try simp only[F4,Es,I.put,List.replicate_succ,List.replicate_zero,Bx,D.Ae,Bn,Dy,List.map_cons,List.map_nil,List.set_cons_zero,List.set_cons_succ,Cu,Cn,List.map_set,Int.toNat_natCast,Fm,A8.Ae,Bc.Ae])
  all_goals(try rfl)
set_option maxHeartbeats 4000000

open Go.Proofs
def doM(r:A8)(c:Ds):A8 × Int:=
 if c.kind<4∨14<c.kind then(r,1)
 else if 1099511627776≤r.rev then(r,17)
 else if c.kind=4 then Mb r c
 else if c.kind=5 then L8 r c
 else if c.kind=6 then T7 r c
 else if c.kind=7 then Q6 r c
 else if c.kind=8 then L3 r c
 else if c.kind=9 then Tz r c
 else if c.kind=10 then Qo r c
 else if c.kind=11 then Lx r c
 else if c.kind=12 then Hu r c
 else Jv r c
theorem Bhm(r:A8)(hs:r.Small)(c:Ds)(Pu: -9223372036854775808≤r.rev∧r.rev≤9223372036854775806)(hws:c.word.length≤1000000∧c.Bp.length≤1000000):
 Fn Tryz.prog C6 [.v r.Ae,.v c.Ae] (Is (.Dv [.i (doM r c).1.Ae,.i (.int .i64 (doM r c).2)]) [.no,.no]):=by
 unfold doM;split
 ·rename_i h;exact A3x r hs c Pu h
 rename_i h;have h1:4≤c.kind∧c.kind≤14:=by omega
 split
 ·rename_i h2;exact A3y r hs c Pu h1 h2
 rename_i h2;have hr: -9223372036854775808≤r.rev∧r.rev<1099511627776:=by omega
 split
 ·rename_i hk;exact Ath r hs c hr hk
 split
 ·rename_i hk;exact Awh r hs c hr hk
 split
 ·rename_i hk;exact A10 r hs c hr hk hws
 split
 ·rename_i hk;exact A11 r hs c hr hk hws
 split
 ·rename_i hk;exact Awg r hs c hr hk
 split
 ·rename_i hk;exact A1z r hs c hr hk
 split
 ·rename_i hk;exact A1x r hs c hr hk
 split
 ·rename_i hk;exact Awf r hs c hr hk
 split
 ·rename_i hk;exact Atg r hs c hr hk
 ·exact A1y r hs c hr (by omega)
set_option maxHeartbeats 40000000

open Go.Proofs
def Lg(lt:Nat→Bool):Nat→Nat→Nat→Nat
 |0,i,_=>i
 |f+1,i,j=>if i<j then(if lt ((i+j) / 2)then Lg lt f ((i+j) / 2+1) j else Lg lt f i ((i+j) / 2))else i
theorem Af6(lt:Nat→Bool):∀f i j,i≤j→i≤Lg lt f i j∧Lg lt f i j≤j
 |0,i,j,h=>⟨Nat.le_refl _,h⟩
 |f+1,i,j,h=>by
  unfold Lg;split
  ·split
   ·have:=Af6 lt f ((i+j) / 2+1) j (by omega);omega
   ·have:=Af6 lt f i ((i+j) / 2) (by omega);omega
  ·omega
def K2{α:Type}(nm:α→Ai)(l:List α)(n:Ai)(h:Nat):Bool:=(l[h]?).any fun x=>decide (nm x<n)
def Ch{α:Type}(nm:α→Ai)(l:List α)(n:Ai):Nat:=Lg (K2 nm l n) l.length 0 l.length
def Et{α:Type}(nm:α→Ai)(l:List α)(n:Ai):Bool:=(l[Ch nm l n]?).any fun x=>decide (nm x=n)
theorem S9{α:Type}(nm:α→Ai)(l:List α)(n:Ai):Ch nm l n≤l.length:=(Af6 _ _ _ _ (Nat.zero_le _)).2
theorem Lv{α:Type}{nm:α→Ai}{l:List α}{n:Ai}(h:Et nm l n=true):∃x,l[Ch nm l n]?=some x∧nm x=n:=by
 unfold Et at h;cases hx:l[Ch nm l n]? with
 |none=>rw[hx]at h;cases h
 |some x=>rw[hx]at h;exact⟨x,rfl,by simpa using h⟩
theorem Ann(a b:Ai):decide (G6 a b<0)=decide (a<b):=by
 unfold G6;by_cases h:a<b
 ·simp[h]
 ·by_cases h2:b<a<;>simp[h,h2]
theorem Ai2(a b:Ai):decide (G6 a b=0)=decide (a=b):=by
 unfold G6;by_cases h:a<b
 ·have:a≠b:=by rintro rfl;exact absurd h (List.lt_irrefl a)
  simp[h,this]
 ·by_cases h2:b<a
  ·have:a≠b:=by rintro rfl;exact absurd h2 (List.lt_irrefl a)
   simp[h,h2,this]
  ·have:a=b:=List.le_antisymm (List.not_lt.1 h2) (List.not_lt.1 h);rw[if_neg h,if_neg h2];simp[this]
theorem Aqk{i j:Nat}(h:i+j≤9223372036854775807):IntKind.i64.wrap (L9 .u64 (IntKind.u64.wrap (IntKind.i64.wrap ((i:Int)+(j:Int)))) 1)=(((i+j) / 2:Nat):Int):=by
 have h1:IntKind.i64.wrap ((i:Int)+(j:Int))=((i+j:Nat):Int):=by rw[IntKind.wrap_i64];omega
 have h2:IntKind.u64.wrap ((i+j:Nat):Int)=((i+j:Nat):Int):=by simp[IntKind.wrap,IntKind.bits,IntKind.signed];omega
 rw[h1,h2];have h3:L9 .u64 ((i+j:Nat):Int) 1=(((i+j) / 2:Nat):Int):=(show Int.fdiv ((i+j:Nat):Int) ((2:Nat):Int)=_ from(Int.ofNat_fdiv _ _).symm);rw[h3,IntKind.wrap_i64];omega
theorem Nw(x:B7):Fn Tryz.prog He [.v x.Ae] (Is (.v (.str x.name)) [.no]):=by
 refine Aj6 ?_ (by simp)
 repeat'((conv=>whnf);(refine eI ?_ ?_;focus (and_intros<;>first|omega|exact rfl|(simp;done))))
 all_goals(try(conv=>whnf))
 exact Bd.mk ⟨rfl,by kernel_rfl⟩ (by kernel_rfl)
def Fc(l:List B7)(n:Ai):B7 × Bool:=match l.find? (fun t=>decide (t.name=n))with
 |some x=>(x,true)
 |none=>(⟨[],0,0⟩,false)
def Yy(n:Ai)(_:Unit)(e:B7):Unit ⊕ (B7 × Bool):=if e.name=n then .inr (e,true)else .inl ()
theorem Ayc(n:Ai):∀(l:List B7) (u:Unit),Ef (Yy n) (fun _=>((⟨[],0,0⟩:B7),false)) l u=Fc l n
 | [],_=>rfl
 |a::r,u=>by
  rw[Kh];by_cases h:a.name=n
  ·simp[Yy,h,Gk,Fc]
  ·have:=Ayc n r ();simp[Yy,h,Gk,Fc,this]
theorem Bcd(l:List B7)(n:Ai)(hl:l.length≤10000):Fn Tryz.prog Aec [.v (.list (l.map B7.Ae)),.v (.str n),.v (.fn He)] (Is (.Dv [.i (Fc l n).1.Ae,.i (.bool (Fc l n).2)]) [.no,.no,.no]):=by
 refine Ado ?_ (by simp)
 have hm:l.length≤maxLen:=by simp only[maxLen];omega
 have Ea:Ef (Yy n) (fun _=>((⟨[],0,0⟩:B7),false)) l ()=Fc l n:=Ayc n l ()
 generalize Fc l n=A at Ea ⊢;repeat'((conv=>whnf);first|(refine eI ?_ ?_;focus (and_intros<;>exact rfl))|(intro Aa))
 all_goals(try(conv=>whnf))
 refine each (l) _ _ _ (fun k s=>[(13,.v (.int .i64 k))]) (fun k s=>True) () (by kernel_rfl) (by simp) Ea ?_ ?_<;>clear Ea
 ·rintro k ⟨⟩ e he hk hi hA;dsimp only at hi hA ⊢;repeat'((conv=>whnf);first|(apply aI<;>intro hb<;>first|(exfalso;simp only[Az]at hb<;>omega)|((try rw[hb]);(try simp only[Ad]at hb);(try subst hb)))|(refine eI ?_ ?_;focus (and_intros<;>first|omega|exact rfl|(intro _ hh;cases hh;done)|(simp;done)|decide))|((try dsimp only);first|rw[Av he]|rw[An he]|rw[Ap he])|(refine Ac.mk ⟨_,Nw _,?_⟩;rintro _ _ ⟨rfl,rfl⟩))
  all_goals(try(conv=>whnf))
  all_goals first
   |(simp[-List.append_assoc,Yy, *]at hA
     first
     |(refine Dx.Gk hA ?_ ?_
       ·(try dsimp only);(try rw[Ak hk hm]);(try simp only[List.map_append,List.map_cons,List.map_nil])
        show norm _ _=Bt _ _
        kernel_rfl
       ·first|trivial|omega|((try dsimp only);simp only[Az];omega)|((try dsimp only);(try simp at*);omega))
     |(refine Bd.mk ⟨?_,by kernel_rfl⟩ (by kernel_rfl)
       have C5:=hA;first|(rw[←C5];first|rfl|kernel_rfl|(simp only[List.map_append,List.map_cons,List.map_nil];first|rfl|kernel_rfl))|(rw[←Ff C5];first|rfl|kernel_rfl|(simp only[List.map_append,List.map_cons,List.map_nil];first|rfl|kernel_rfl))|(simp at C5 ⊢;simp[*];done))
    )
 ·rintro⟨⟩ k rfl hi hA;dsimp only at hi hA ⊢;repeat'((conv=>whnf);first|(apply aI<;>intro hb<;>first|(exfalso;simp only[Az]at hb<;>omega)|((try rw[hb]);(try simp only[Ad]at hb)))|(refine eI ?_ ?_;focus (and_intros<;>first|omega|exact rfl)))
  all_goals(try(conv=>whnf))
  subst hA;exact Bd.mk ⟨rfl,by kernel_rfl⟩ (by kernel_rfl)
theorem Wt(x:B7)(n:Ai):Fn Tryz.prog N6 [.v x.Ae,.v (.str n),.rp (.fn He)] (Is (.v (.int .i64 (G6 x.name n))) [.no,.no,.no]):=by
 refine Xt ?_ (by simp)
 repeat'((conv=>whnf);first|(refine eI ?_ ?_;focus (and_intros<;>first|omega|exact rfl|(intro _ hh;cases hh;done)|(simp;done)|decide))|(refine Ac.mk ⟨_,Nw _,?_⟩;rintro _ _ ⟨rfl,rfl⟩)|(refine Ac.mk ⟨_,T1 _ _,?_⟩;rintro _ _ ⟨rfl,rfl⟩))
 all_goals(try(conv=>whnf))
 exact Bd.mk ⟨rfl,by kernel_rfl⟩ (by kernel_rfl)
theorem A8o(l:List B7)(n:Ai)(hl:l.length≤100000):Fn Tryz.prog Hr [.v (.list (l.map B7.Ae)),.v (.str n),.v (.Yp N6 [.fn He])] (Is (.Dv [.i (.int .i64 (Ch B7.name l n)),.i (.bool (Et B7.name l n))]) [.no,.no,.no]):=by
 refine Hq ?_ (by simp)
 repeat'((conv=>whnf);first|(refine eI ?_ ?_;focus (and_intros<;>exact rfl))|(intro Aa))
 all_goals(try(conv=>whnf))
 obtain⟨A,hA⟩:∃A,A=Ch B7.name l n:=⟨_,rfl⟩;have hAF:Et B7.name l n=(l[A]?).any (fun x=>decide (x.name=n)):=by rw[hA];rfl
 have Bdn:A≤l.length:=by rw[hA];exact S9 _ _ _
 rw[hAF, ←hA];unfold Ch at hA;refine Bq.by (X:=Nat × Nat × Nat) (fun x=>[(9,.v (.int .i64 x.2.1)),(10,.v (.int .i64 x.2.2))]) (fun x=>x.2.1≤x.2.2∧x.2.2≤l.length∧x.2.2 - x.2.1≤x.1∧Lg (K2 B7.name l n) x.1 x.2.1 x.2.2=A) (fun x=>x.2.2 - x.2.1)
  (l.length,0,l.length) (by rw[List.length_map];kernel_rfl) ⟨Nat.zero_le _,Nat.le_refl _,Nat.sub_le _ _,hA.symm⟩ ?_
 rintro⟨f,i,j⟩ ⟨h1,h2,h3,h4⟩;dsimp only at h1 h2 h3 h4 ⊢;by_cases Gv:i<j
 case neg=>
  have Bb:¬decide ((i:Int)<(j:Int))=true:=by simp;omega
  obtain rfl:i=A:=by
   rw[←h4];cases f with
   |zero=>rfl
   |succ f=>rw[Lg,if_neg Gv]
  by_cases J4:i<l.length
  ·obtain⟨e,he⟩:∃e,l[i]?=some e:=⟨_,List.getElem?_eq_getElem J4⟩;have J5:¬decide ((i:Int)<((l.map B7.Ae).length:Int))=false:=by simp[J4]
   have hl3:¬decide ((i:Int)<(l.length:Int))=false:=by simp[J4]
   rw[he];simp only[Option.any_some];repeat'((conv=>whnf);first|(apply aI<;>intro hb<;>first|exact absurd hb (by first|assumption|decide)|((try rw[hb]);(try simp only[Ad]at hb)))|(refine eI ?_ ?_;focus (and_intros<;>first|omega|exact rfl|(simp;done)))|((try dsimp only);first|rw[Av he]|rw[An he]|rw[Ap he])|(refine Ac.mk ⟨_,Wt _ _,?_⟩;rintro _ _ ⟨rfl,rfl⟩))
   all_goals(try(conv=>whnf))
   refine Bd.mk ⟨?_,by kernel_rfl⟩ (by kernel_rfl)
   rw[←Ai2];rfl
  ·have J5:¬decide ((i:Int)<((l.map B7.Ae).length:Int))=true:=by simp;omega
   have hl3:¬decide ((i:Int)<(l.length:Int))=true:=by simp;omega
   rw[List.getElem?_eq_none (by omega)]
   simp only[Option.any_none];repeat'((conv=>whnf);(apply aI<;>intro hb<;>first|exact absurd hb (by first|assumption|decide)|((try rw[hb]);(try simp only[Ad]at hb))))
   all_goals(try(conv=>whnf))
   (apply dK<;>kernel_rfl)
 have Bb:¬decide ((i:Int)<(j:Int))=false:=by simp[Gv]
 obtain⟨g,rfl⟩:∃g,f=g+1:=⟨f - 1,by omega⟩
 rw[Lg,if_pos Gv]at h4;have Sc:=Aqk (i:=i) (j:=j) (by omega)
 obtain⟨h,hh⟩:∃h,h=(i+j) / 2:=⟨_,rfl⟩;rw[←hh]at Sc h4;have hhj:h<j:=by omega
 obtain⟨e,he⟩:∃e,l[h]?=some e:=⟨_,List.getElem?_eq_getElem (by omega)⟩
 have hle:K2 B7.name l n h=decide (e.name<n):=by unfold K2;rw[he];rfl
 have hw:IntKind.i64.wrap ((h:Int)+1)=((h+1:Nat):Int):=Ak (n:=1000000) (by omega) (by simp only[maxLen];omega)
 rw[hle, ←Ann]at h4;by_cases hc:G6 e.name n<0
 ·have hb:¬decide (G6 e.name n<0)=false:=by simp[hc]
  rw[if_pos (by simpa using hc)]at h4
  repeat'((conv=>whnf);first|(apply aI<;>intro hb<;>first|exact absurd hb (by assumption)|((try rw[hb]);(try simp only[Ad]at hb)))|(refine eI ?_ ?_;focus (and_intros<;>first|omega|exact rfl|(simp;done)))|((try dsimp only);rw[Sc])|((try dsimp only);first|rw[Av he]|rw[An he]|rw[Ap he])|(refine Ac.mk ⟨_,Wt _ _,?_⟩;rintro _ _ ⟨rfl,rfl⟩)|((try dsimp only);rw[hw]))
  all_goals(try(conv=>whnf))
  refine Round.by (g,h+1,j) ?_ ⟨by dsimp only;omega,h2,by dsimp only;omega,h4⟩ (by dsimp only;omega)
  dsimp only;show norm _ _=Bt _ _
  kernel_rfl
 ·have hb:¬decide (G6 e.name n<0)=true:=by simp[hc]
  rw[if_neg (by simpa using hc)]at h4
  repeat'((conv=>whnf);first|(apply aI<;>intro hb<;>first|exact absurd hb (by assumption)|((try rw[hb]);(try simp only[Ad]at hb)))|(refine eI ?_ ?_;focus (and_intros<;>first|omega|exact rfl|(simp;done)))|((try dsimp only);rw[Sc])|((try dsimp only);first|rw[Av he]|rw[An he]|rw[Ap he])|(refine Ac.mk ⟨_,Wt _ _,?_⟩;rintro _ _ ⟨rfl,rfl⟩))
  all_goals(try(conv=>whnf))
  refine Round.by (g,i,h) ?_ ⟨by dsimp only;omega,by dsimp only;omega,by dsimp only;omega,h4⟩ (by dsimp only;omega)
  dsimp only;show norm _ _=Bt _ _
  kernel_rfl
theorem A12(l:List B7)(n:Ai)(hl:l.length≤100000):Fn Tryz.prog Ach [.v (.list (l.map B7.Ae)),.v (.str n),.v (.fn He)] (Is (.Dv [.i (.int .i64 (Ch B7.name l n)),.i (.bool (Et B7.name l n))]) [.no,.no,.no]):=by
 refine Aaz ?_ (by simp)
 repeat'((conv=>whnf);first|(refine eI ?_ ?_;focus (and_intros<;>first|(intro _ hh;cases hh;done)|(simp;done)|decide))|(refine Ac.mk ⟨_,(A8o l n hl),?_⟩;rintro _ _ ⟨rfl,rfl⟩))
 all_goals(try(conv=>whnf))
 exact Bd.mk ⟨rfl,by kernel_rfl⟩ (by kernel_rfl)
theorem Aok(l:List I)(h:∀u∈l,u.size=3)(hl:l.length≤100000):Fn Tryz.prog M6 [.v (.list l)] (Is (.vec Cc 3 l) [.no]):=by
 refine Mp ?_ (by simp)
 repeat'((conv=>whnf);first|(refine aI (fun hb=>?_) (fun hb=>?_)<;>((try rw[hb]);(try subst hb)))|(refine eI ?_ ?_;focus (and_intros<;>first|omega|exact rfl|(simp only[Az];omega)|(simp;done)))|(intro Aa))
 all_goals(try(conv=>whnf))
 ·refine Bd.mk ⟨congrArg (fun l=>SV.vec Cc 3 l) ?_,by kernel_rfl⟩ (by kernel_rfl)
  exact(Aa rfl).symm
 ·exact Bd.mk ⟨congrArg (fun l=>SV.vec Cc 3 l) (List.nil_append _),by kernel_rfl⟩ (by kernel_rfl)
theorem R8(x:Bc):Fn Tryz.prog Js [.v x.Ae] (Is (.v (.str x.name)) [.no]):=by
 refine Aod ?_ (by simp)
 repeat'((conv=>whnf);(refine eI ?_ ?_;focus (and_intros<;>first|omega|exact rfl|(simp;done))))
 all_goals(try(conv=>whnf))
 exact Bd.mk ⟨rfl,by kernel_rfl⟩ (by kernel_rfl)
def Je(l:List Bc)(n:Ai):Bc × Bool:=match l.find? (fun t=>decide (t.name=n))with
 |some x=>(x,true)
 |none=>(⟨[],[],[],[],[]⟩,false)
def Yz(n:Ai)(_:Unit)(e:Bc):Unit ⊕ (Bc × Bool):=if e.name=n then .inr (e,true)else .inl ()
theorem Ayd(n:Ai):∀(l:List Bc) (u:Unit),Ef (Yz n) (fun _=>((⟨[],[],[],[],[]⟩:Bc),false)) l u=Je l n
 | [],_=>rfl
 |a::r,u=>by
  rw[Kh];by_cases h:a.name=n
  ·simp[Yz,h,Gk,Je]
  ·have:=Ayd n r ();simp[Yz,h,Gk,Je,this]
theorem Bce(l:List Bc)(n:Ai)(hl:l.length≤10000):Fn Tryz.prog Aio [.v (.list (l.map Bc.Ae)),.v (.str n),.v (.fn Js)] (Is (.Dv [.i (Je l n).1.Ae,.i (.bool (Je l n).2)]) [.no,.no,.no]):=by
 refine Ag5 ?_ (by simp)
 have hm:l.length≤maxLen:=by simp only[maxLen];omega
 have Ea:Ef (Yz n) (fun _=>((⟨[],[],[],[],[]⟩:Bc),false)) l ()=Je l n:=Ayd n l ()
 generalize Je l n=A at Ea ⊢;repeat'((conv=>whnf);first|(refine eI ?_ ?_;focus (and_intros<;>exact rfl))|(intro Aa))
 all_goals(try(conv=>whnf))
 refine each (l) _ _ _ (fun k s=>[(13,.v (.int .i64 k))]) (fun k s=>True) () (by kernel_rfl) (by simp) Ea ?_ ?_<;>clear Ea
 ·rintro k ⟨⟩ e he hk hi hA;dsimp only at hi hA ⊢;repeat'((conv=>whnf);first|(apply aI<;>intro hb<;>first|(exfalso;simp only[Az]at hb<;>omega)|((try rw[hb]);(try simp only[Ad]at hb);(try subst hb)))|(refine eI ?_ ?_;focus (and_intros<;>first|omega|exact rfl|(intro _ hh;cases hh;done)|(simp;done)|decide))|((try dsimp only);first|rw[Av he]|rw[An he]|rw[Ap he])|(refine Ac.mk ⟨_,R8 _,?_⟩;rintro _ _ ⟨rfl,rfl⟩))
  all_goals(try(conv=>whnf))
  all_goals first
   |(simp[-List.append_assoc,Yz, *]at hA
     first
     |(refine Dx.Gk hA ?_ ?_
       ·(try dsimp only);(try rw[Ak hk hm]);(try simp only[List.map_append,List.map_cons,List.map_nil])
        show norm _ _=Bt _ _
        kernel_rfl
       ·first|trivial|omega|((try dsimp only);simp only[Az];omega)|((try dsimp only);(try simp at*);omega))
     |(refine Bd.mk ⟨?_,by kernel_rfl⟩ (by kernel_rfl)
       have C5:=hA;first|(rw[←C5];first|rfl|kernel_rfl|(simp only[List.map_append,List.map_cons,List.map_nil];first|rfl|kernel_rfl))|(rw[←Ff C5];first|rfl|kernel_rfl|(simp only[List.map_append,List.map_cons,List.map_nil];first|rfl|kernel_rfl))|(simp at C5 ⊢;simp[*];done))
    )
 ·rintro⟨⟩ k rfl hi hA;dsimp only at hi hA ⊢;repeat'((conv=>whnf);first|(apply aI<;>intro hb<;>first|(exfalso;simp only[Az]at hb<;>omega)|((try rw[hb]);(try simp only[Ad]at hb)))|(refine eI ?_ ?_;focus (and_intros<;>first|omega|exact rfl)))
  all_goals(try(conv=>whnf))
  subst hA;exact Bd.mk ⟨rfl,by kernel_rfl⟩ (by kernel_rfl)
theorem Wu(x:Bc)(n:Ai):Fn Tryz.prog Ro [.v x.Ae,.v (.str n),.rp (.fn Js)] (Is (.v (.int .i64 (G6 x.name n))) [.no,.no,.no]):=by
 refine Aa0 ?_ (by simp)
 repeat'((conv=>whnf);first|(refine eI ?_ ?_;focus (and_intros<;>first|omega|exact rfl|(intro _ hh;cases hh;done)|(simp;done)|decide))|(refine Ac.mk ⟨_,R8 _,?_⟩;rintro _ _ ⟨rfl,rfl⟩)|(refine Ac.mk ⟨_,T1 _ _,?_⟩;rintro _ _ ⟨rfl,rfl⟩))
 all_goals(try(conv=>whnf))
 exact Bd.mk ⟨rfl,by kernel_rfl⟩ (by kernel_rfl)
theorem A8p(l:List Bc)(n:Ai)(hl:l.length≤100000):Fn Tryz.prog J0 [.v (.list (l.map Bc.Ae)),.v (.str n),.v (.Yp Ro [.fn Js])] (Is (.Dv [.i (.int .i64 (Ch Bc.name l n)),.i (.bool (Et Bc.name l n))]) [.no,.no,.no]):=by
 refine Jp ?_ (by simp)
 repeat'((conv=>whnf);first|(refine eI ?_ ?_;focus (and_intros<;>exact rfl))|(intro Aa))
 all_goals(try(conv=>whnf))
 obtain⟨A,hA⟩:∃A,A=Ch Bc.name l n:=⟨_,rfl⟩;have hAF:Et Bc.name l n=(l[A]?).any (fun x=>decide (x.name=n)):=by rw[hA];rfl
 have Bdn:A≤l.length:=by rw[hA];exact S9 _ _ _
 rw[hAF, ←hA];unfold Ch at hA;refine Bq.by (X:=Nat × Nat × Nat) (fun x=>[(9,.v (.int .i64 x.2.1)),(10,.v (.int .i64 x.2.2))]) (fun x=>x.2.1≤x.2.2∧x.2.2≤l.length∧x.2.2 - x.2.1≤x.1∧Lg (K2 Bc.name l n) x.1 x.2.1 x.2.2=A) (fun x=>x.2.2 - x.2.1)
  (l.length,0,l.length) (by rw[List.length_map];kernel_rfl) ⟨Nat.zero_le _,Nat.le_refl _,Nat.sub_le _ _,hA.symm⟩ ?_
 rintro⟨f,i,j⟩ ⟨h1,h2,h3,h4⟩;dsimp only at h1 h2 h3 h4 ⊢;by_cases Gv:i<j
 case neg=>
  have Bb:¬decide ((i:Int)<(j:Int))=true:=by simp;omega
  obtain rfl:i=A:=by
   rw[←h4];cases f with
   |zero=>rfl
   |succ f=>rw[Lg,if_neg Gv]
  by_cases J4:i<l.length
  ·obtain⟨e,he⟩:∃e,l[i]?=some e:=⟨_,List.getElem?_eq_getElem J4⟩;have J5:¬decide ((i:Int)<((l.map Bc.Ae).length:Int))=false:=by simp[J4]
   have hl3:¬decide ((i:Int)<(l.length:Int))=false:=by simp[J4]
   rw[he];simp only[Option.any_some];repeat'((conv=>whnf);first|(apply aI<;>intro hb<;>first|exact absurd hb (by first|assumption|decide)|((try rw[hb]);(try simp only[Ad]at hb)))|(refine eI ?_ ?_;focus (and_intros<;>first|omega|exact rfl|(simp;done)))|((try dsimp only);first|rw[Av he]|rw[An he]|rw[Ap he])|(refine Ac.mk ⟨_,Wu _ _,?_⟩;rintro _ _ ⟨rfl,rfl⟩))
   all_goals(try(conv=>whnf))
   refine Bd.mk ⟨?_,by kernel_rfl⟩ (by kernel_rfl)
   rw[←Ai2];rfl
  ·have J5:¬decide ((i:Int)<((l.map Bc.Ae).length:Int))=true:=by simp;omega
   have hl3:¬decide ((i:Int)<(l.length:Int))=true:=by simp;omega
   rw[List.getElem?_eq_none (by omega)]
   simp only[Option.any_none];repeat'((conv=>whnf);(apply aI<;>intro hb<;>first|exact absurd hb (by first|assumption|decide)|((try rw[hb]);(try simp only[Ad]at hb))))
   all_goals(try(conv=>whnf))
   (apply dK<;>kernel_rfl)
 have Bb:¬decide ((i:Int)<(j:Int))=false:=by simp[Gv]
 obtain⟨g,rfl⟩:∃g,f=g+1:=⟨f - 1,by omega⟩
 rw[Lg,if_pos Gv]at h4;have Sc:=Aqk (i:=i) (j:=j) (by omega)
 obtain⟨h,hh⟩:∃h,h=(i+j) / 2:=⟨_,rfl⟩;rw[←hh]at Sc h4;have hhj:h<j:=by omega
 obtain⟨e,he⟩:∃e,l[h]?=some e:=⟨_,List.getElem?_eq_getElem (by omega)⟩
 have hle:K2 Bc.name l n h=decide (e.name<n):=by unfold K2;rw[he];rfl
 have hw:IntKind.i64.wrap ((h:Int)+1)=((h+1:Nat):Int):=Ak (n:=1000000) (by omega) (by simp only[maxLen];omega)
 rw[hle, ←Ann]at h4;by_cases hc:G6 e.name n<0
 ·have hb:¬decide (G6 e.name n<0)=false:=by simp[hc]
  rw[if_pos (by simpa using hc)]at h4
  repeat'((conv=>whnf);first|(apply aI<;>intro hb<;>first|exact absurd hb (by assumption)|((try rw[hb]);(try simp only[Ad]at hb)))|(refine eI ?_ ?_;focus (and_intros<;>first|omega|exact rfl|(simp;done)))|((try dsimp only);rw[Sc])|((try dsimp only);first|rw[Av he]|rw[An he]|rw[Ap he])|(refine Ac.mk ⟨_,Wu _ _,?_⟩;rintro _ _ ⟨rfl,rfl⟩)|((try dsimp only);rw[hw]))
  all_goals(try(conv=>whnf))
  refine Round.by (g,h+1,j) ?_ ⟨by dsimp only;omega,h2,by dsimp only;omega,h4⟩ (by dsimp only;omega)
  dsimp only;show norm _ _=Bt _ _
  kernel_rfl
 ·have hb:¬decide (G6 e.name n<0)=true:=by simp[hc]
  rw[if_neg (by simpa using hc)]at h4
  repeat'((conv=>whnf);first|(apply aI<;>intro hb<;>first|exact absurd hb (by assumption)|((try rw[hb]);(try simp only[Ad]at hb)))|(refine eI ?_ ?_;focus (and_intros<;>first|omega|exact rfl|(simp;done)))|((try dsimp only);rw[Sc])|((try dsimp only);first|rw[Av he]|rw[An he]|rw[Ap he])|(refine Ac.mk ⟨_,Wu _ _,?_⟩;rintro _ _ ⟨rfl,rfl⟩))
  all_goals(try(conv=>whnf))
  refine Round.by (g,i,h) ?_ ⟨by dsimp only;omega,by dsimp only;omega,by dsimp only;omega,h4⟩ (by dsimp only;omega)
  dsimp only;show norm _ _=Bt _ _
  kernel_rfl
theorem T4(l:List Bc)(n:Ai)(hl:l.length≤100000):Fn Tryz.prog Af4 [.v (.list (l.map Bc.Ae)),.v (.str n),.v (.fn Js)] (Is (.Dv [.i (.int .i64 (Ch Bc.name l n)),.i (.bool (Et Bc.name l n))]) [.no,.no,.no]):=by
 refine Afm ?_ (by simp)
 repeat'((conv=>whnf);first|(refine eI ?_ ?_;focus (and_intros<;>first|(intro _ hh;cases hh;done)|(simp;done)|decide))|(refine Ac.mk ⟨_,(A8p l n hl),?_⟩;rintro _ _ ⟨rfl,rfl⟩))
 all_goals(try(conv=>whnf))
 exact Bd.mk ⟨rfl,by kernel_rfl⟩ (by kernel_rfl)
theorem Ate(l:List I)(h:∀u∈l,u.size=5)(hl:l.length≤100000):Fn Tryz.prog Re [.v (.list l)] (Is (.vec B3 5 l) [.no]):=by
 refine P7 ?_ (by simp)
 repeat'((conv=>whnf);first|(refine aI (fun hb=>?_) (fun hb=>?_)<;>((try rw[hb]);(try subst hb)))|(refine eI ?_ ?_;focus (and_intros<;>first|omega|exact rfl|(simp only[Az];omega)|(simp;done)))|(intro Aa))
 all_goals(try(conv=>whnf))
 ·refine Bd.mk ⟨congrArg (fun l=>SV.vec B3 5 l) ?_,by kernel_rfl⟩ (by kernel_rfl)
  exact(Aa rfl).symm
 ·exact Bd.mk ⟨congrArg (fun l=>SV.vec B3 5 l) (List.nil_append _),by kernel_rfl⟩ (by kernel_rfl)
theorem R7(x:Bh):Fn Tryz.prog Jr [.v x.Ae] (Is (.v (.str x.name)) [.no]):=by
 refine Aoc ?_ (by simp)
 repeat'((conv=>whnf);(refine eI ?_ ?_;focus (and_intros<;>first|omega|exact rfl|(simp;done))))
 all_goals(try(conv=>whnf))
 exact Bd.mk ⟨rfl,by kernel_rfl⟩ (by kernel_rfl)
def F3(l:List Bh)(n:Ai):Bh × Bool:=match l.find? (fun t=>decide (t.name=n))with
 |some x=>(x,true)
 |none=>(⟨[],[],[]⟩,false)
def Yx(n:Ai)(_:Unit)(e:Bh):Unit ⊕ (Bh × Bool):=if e.name=n then .inr (e,true)else .inl ()
theorem Ayb(n:Ai):∀(l:List Bh) (u:Unit),Ef (Yx n) (fun _=>((⟨[],[],[]⟩:Bh),false)) l u=F3 l n
 | [],_=>rfl
 |a::r,u=>by
  rw[Kh];by_cases h:a.name=n
  ·simp[Yx,h,Gk,F3]
  ·have:=Ayb n r ();simp[Yx,h,Gk,F3,this]
theorem Bcc(l:List Bh)(n:Ai)(hl:l.length≤10000):Fn Tryz.prog Ain [.v (.list (l.map Bh.Ae)),.v (.str n),.v (.fn Jr)] (Is (.Dv [.i (F3 l n).1.Ae,.i (.bool (F3 l n).2)]) [.no,.no,.no]):=by
 refine Ag4 ?_ (by simp)
 have hm:l.length≤maxLen:=by simp only[maxLen];omega
 have Ea:Ef (Yx n) (fun _=>((⟨[],[],[]⟩:Bh),false)) l ()=F3 l n:=Ayb n l ()
 generalize F3 l n=A at Ea ⊢;repeat'((conv=>whnf);first|(refine eI ?_ ?_;focus (and_intros<;>exact rfl))|(intro Aa))
 all_goals(try(conv=>whnf))
 refine each (l) _ _ _ (fun k s=>[(13,.v (.int .i64 k))]) (fun k s=>True) () (by kernel_rfl) (by simp) Ea ?_ ?_<;>clear Ea
 ·rintro k ⟨⟩ e he hk hi hA;dsimp only at hi hA ⊢;repeat'((conv=>whnf);first|(apply aI<;>intro hb<;>first|(exfalso;simp only[Az]at hb<;>omega)|((try rw[hb]);(try simp only[Ad]at hb);(try subst hb)))|(refine eI ?_ ?_;focus (and_intros<;>first|omega|exact rfl|(intro _ hh;cases hh;done)|(simp;done)|decide))|((try dsimp only);first|rw[Av he]|rw[An he]|rw[Ap he])|(refine Ac.mk ⟨_,R7 _,?_⟩;rintro _ _ ⟨rfl,rfl⟩))
  all_goals(try(conv=>whnf))
  all_goals first
   |(simp[-List.append_assoc,Yx, *]at hA
     first
     |(refine Dx.Gk hA ?_ ?_
       ·(try dsimp only);(try rw[Ak hk hm]);(try simp only[List.map_append,List.map_cons,List.map_nil])
        show norm _ _=Bt _ _
        kernel_rfl
       ·first|trivial|omega|((try dsimp only);simp only[Az];omega)|((try dsimp only);(try simp at*);omega))
     |(refine Bd.mk ⟨?_,by kernel_rfl⟩ (by kernel_rfl)
       have C5:=hA;first|(rw[←C5];first|rfl|kernel_rfl|(simp only[List.map_append,List.map_cons,List.map_nil];first|rfl|kernel_rfl))|(rw[←Ff C5];first|rfl|kernel_rfl|(simp only[List.map_append,List.map_cons,List.map_nil];first|rfl|kernel_rfl))|(simp at C5 ⊢;simp[*];done))
    )
 ·rintro⟨⟩ k rfl hi hA;dsimp only at hi hA ⊢;repeat'((conv=>whnf);first|(apply aI<;>intro hb<;>first|(exfalso;simp only[Az]at hb<;>omega)|((try rw[hb]);(try simp only[Ad]at hb)))|(refine eI ?_ ?_;focus (and_intros<;>first|omega|exact rfl)))
  all_goals(try(conv=>whnf))
  subst hA;exact Bd.mk ⟨rfl,by kernel_rfl⟩ (by kernel_rfl)
theorem Ws(x:Bh)(n:Ai):Fn Tryz.prog Rn [.v x.Ae,.v (.str n),.rp (.fn Jr)] (Is (.v (.int .i64 (G6 x.name n))) [.no,.no,.no]):=by
 refine Aay ?_ (by simp)
 repeat'((conv=>whnf);first|(refine eI ?_ ?_;focus (and_intros<;>first|omega|exact rfl|(intro _ hh;cases hh;done)|(simp;done)|decide))|(refine Ac.mk ⟨_,R7 _,?_⟩;rintro _ _ ⟨rfl,rfl⟩)|(refine Ac.mk ⟨_,T1 _ _,?_⟩;rintro _ _ ⟨rfl,rfl⟩))
 all_goals(try(conv=>whnf))
 exact Bd.mk ⟨rfl,by kernel_rfl⟩ (by kernel_rfl)
theorem A8m(l:List Bh)(n:Ai)(hl:l.length≤100000):Fn Tryz.prog Jz [.v (.list (l.map Bh.Ae)),.v (.str n),.v (.Yp Rn [.fn Jr])] (Is (.Dv [.i (.int .i64 (Ch Bh.name l n)),.i (.bool (Et Bh.name l n))]) [.no,.no,.no]):=by
 refine Jo ?_ (by simp)
 repeat'((conv=>whnf);first|(refine eI ?_ ?_;focus (and_intros<;>exact rfl))|(intro Aa))
 all_goals(try(conv=>whnf))
 obtain⟨A,hA⟩:∃A,A=Ch Bh.name l n:=⟨_,rfl⟩;have hAF:Et Bh.name l n=(l[A]?).any (fun x=>decide (x.name=n)):=by rw[hA];rfl
 have Bdn:A≤l.length:=by rw[hA];exact S9 _ _ _
 rw[hAF, ←hA];unfold Ch at hA;refine Bq.by (X:=Nat × Nat × Nat) (fun x=>[(9,.v (.int .i64 x.2.1)),(10,.v (.int .i64 x.2.2))]) (fun x=>x.2.1≤x.2.2∧x.2.2≤l.length∧x.2.2 - x.2.1≤x.1∧Lg (K2 Bh.name l n) x.1 x.2.1 x.2.2=A) (fun x=>x.2.2 - x.2.1)
  (l.length,0,l.length) (by rw[List.length_map];kernel_rfl) ⟨Nat.zero_le _,Nat.le_refl _,Nat.sub_le _ _,hA.symm⟩ ?_
 rintro⟨f,i,j⟩ ⟨h1,h2,h3,h4⟩;dsimp only at h1 h2 h3 h4 ⊢;by_cases Gv:i<j
 case neg=>
  have Bb:¬decide ((i:Int)<(j:Int))=true:=by simp;omega
  obtain rfl:i=A:=by
   rw[←h4];cases f with
   |zero=>rfl
   |succ f=>rw[Lg,if_neg Gv]
  by_cases J4:i<l.length
  ·obtain⟨e,he⟩:∃e,l[i]?=some e:=⟨_,List.getElem?_eq_getElem J4⟩;have J5:¬decide ((i:Int)<((l.map Bh.Ae).length:Int))=false:=by simp[J4]
   have hl3:¬decide ((i:Int)<(l.length:Int))=false:=by simp[J4]
   rw[he];simp only[Option.any_some];repeat'((conv=>whnf);first|(apply aI<;>intro hb<;>first|exact absurd hb (by first|assumption|decide)|((try rw[hb]);(try simp only[Ad]at hb)))|(refine eI ?_ ?_;focus (and_intros<;>first|omega|exact rfl|(simp;done)))|((try dsimp only);first|rw[Av he]|rw[An he]|rw[Ap he])|(refine Ac.mk ⟨_,Ws _ _,?_⟩;rintro _ _ ⟨rfl,rfl⟩))
   all_goals(try(conv=>whnf))
   refine Bd.mk ⟨?_,by kernel_rfl⟩ (by kernel_rfl)
   rw[←Ai2];rfl
  ·have J5:¬decide ((i:Int)<((l.map Bh.Ae).length:Int))=true:=by simp;omega
   have hl3:¬decide ((i:Int)<(l.length:Int))=true:=by simp;omega
   rw[List.getElem?_eq_none (by omega)]
   simp only[Option.any_none];repeat'((conv=>whnf);(apply aI<;>intro hb<;>first|exact absurd hb (by first|assumption|decide)|((try rw[hb]);(try simp only[Ad]at hb))))
   all_goals(try(conv=>whnf))
   (apply dK<;>kernel_rfl)
 have Bb:¬decide ((i:Int)<(j:Int))=false:=by simp[Gv]
 obtain⟨g,rfl⟩:∃g,f=g+1:=⟨f - 1,by omega⟩
 rw[Lg,if_pos Gv]at h4;have Sc:=Aqk (i:=i) (j:=j) (by omega)
 obtain⟨h,hh⟩:∃h,h=(i+j) / 2:=⟨_,rfl⟩;rw[←hh]at Sc h4;have hhj:h<j:=by omega
 obtain⟨e,he⟩:∃e,l[h]?=some e:=⟨_,List.getElem?_eq_getElem (by omega)⟩
 have hle:K2 Bh.name l n h=decide (e.name<n):=by unfold K2;rw[he];rfl
 have hw:IntKind.i64.wrap ((h:Int)+1)=((h+1:Nat):Int):=Ak (n:=1000000) (by omega) (by simp only[maxLen];omega)
 rw[hle, ←Ann]at h4;by_cases hc:G6 e.name n<0
 ·have hb:¬decide (G6 e.name n<0)=false:=by simp[hc]
  rw[if_pos (by simpa using hc)]at h4
  repeat'((conv=>whnf);first|(apply aI<;>intro hb<;>first|exact absurd hb (by assumption)|((try rw[hb]);(try simp only[Ad]at hb)))|(refine eI ?_ ?_;focus (and_intros<;>first|omega|exact rfl|(simp;done)))|((try dsimp only);rw[Sc])|((try dsimp only);first|rw[Av he]|rw[An he]|rw[Ap he])|(refine Ac.mk ⟨_,Ws _ _,?_⟩;rintro _ _ ⟨rfl,rfl⟩)|((try dsimp only);rw[hw]))
  all_goals(try(conv=>whnf))
  refine Round.by (g,h+1,j) ?_ ⟨by dsimp only;omega,h2,by dsimp only;omega,h4⟩ (by dsimp only;omega)
  dsimp only;show norm _ _=Bt _ _
  kernel_rfl
 ·have hb:¬decide (G6 e.name n<0)=true:=by simp[hc]
  rw[if_neg (by simpa using hc)]at h4
  repeat'((conv=>whnf);first|(apply aI<;>intro hb<;>first|exact absurd hb (by assumption)|((try rw[hb]);(try simp only[Ad]at hb)))|(refine eI ?_ ?_;focus (and_intros<;>first|omega|exact rfl|(simp;done)))|((try dsimp only);rw[Sc])|((try dsimp only);first|rw[Av he]|rw[An he]|rw[Ap he])|(refine Ac.mk ⟨_,Ws _ _,?_⟩;rintro _ _ ⟨rfl,rfl⟩))
  all_goals(try(conv=>whnf))
  refine Round.by (g,i,h) ?_ ⟨by dsimp only;omega,by dsimp only;omega,by dsimp only;omega,h4⟩ (by dsimp only;omega)
  dsimp only;show norm _ _=Bt _ _
  kernel_rfl
theorem T3(l:List Bh)(n:Ai)(hl:l.length≤100000):Fn Tryz.prog Af3 [.v (.list (l.map Bh.Ae)),.v (.str n),.v (.fn Jr)] (Is (.Dv [.i (.int .i64 (Ch Bh.name l n)),.i (.bool (Et Bh.name l n))]) [.no,.no,.no]):=by
 refine Afk ?_ (by simp)
 repeat'((conv=>whnf);first|(refine eI ?_ ?_;focus (and_intros<;>first|(intro _ hh;cases hh;done)|(simp;done)|decide))|(refine Ac.mk ⟨_,(A8m l n hl),?_⟩;rintro _ _ ⟨rfl,rfl⟩))
 all_goals(try(conv=>whnf))
 exact Bd.mk ⟨rfl,by kernel_rfl⟩ (by kernel_rfl)
theorem Atd(l:List I)(h:∀u∈l,u.size=3)(hl:l.length≤100000):Fn Tryz.prog Rb [.v (.list l)] (Is (.vec B2 3 l) [.no]):=by
 refine P5 ?_ (by simp)
 repeat'((conv=>whnf);first|(refine aI (fun hb=>?_) (fun hb=>?_)<;>((try rw[hb]);(try subst hb)))|(refine eI ?_ ?_;focus (and_intros<;>first|omega|exact rfl|(simp only[Az];omega)|(simp;done)))|(intro Aa))
 all_goals(try(conv=>whnf))
 ·refine Bd.mk ⟨congrArg (fun l=>SV.vec B2 3 l) ?_,by kernel_rfl⟩ (by kernel_rfl)
  exact(Aa rfl).symm
 ·exact Bd.mk ⟨congrArg (fun l=>SV.vec B2 3 l) (List.nil_append _),by kernel_rfl⟩ (by kernel_rfl)
theorem Aif(l:List Ai)(hl:l.length≤100000):Fn Tryz.prog S6 [.v (.list (l.map I.str))] (Is (.vec Em 1 (l.map I.str)) [.no]):=by
 refine Sg ?_ (by simp)
 repeat'((conv=>whnf);first|(refine aI (fun hb=>?_) (fun hb=>?_)<;>((try rw[hb]);(try subst hb)))|(refine eI ?_ ?_;focus (and_intros<;>first|omega|exact rfl|exact size_map (fun _=>rfl)|(simp only[Az];omega)|(simp;done)))|(intro Aa))
 all_goals(try(conv=>whnf))
 ·refine Bd.mk ⟨congrArg (fun l=>SV.vec Em 1 l) ?_,by kernel_rfl⟩ (by kernel_rfl)
  exact(Aa rfl).symm
 ·exact Bd.mk ⟨congrArg (fun l=>SV.vec Em 1 l) (List.nil_append _),by kernel_rfl⟩ (by kernel_rfl)
theorem Aih(r:A8)(hf:r.Small)(n:Ai):Fn Tryz.prog A2w [.v r.Ae,.v (.str n)] (Is (.Dv [.i (Je r.Ag n).1.Ae,.i (.bool (Je r.Ag n).2)]) [.no,.no]):=by
 refine Az8 ?_ (by simp)
 have Jf:=hf.hU;have g:=Bce r.Ag n (by omega)
 have hl:(Je r.Ag n).1.A2.length≤1000:=by
  unfold Je;split
  ·rename_i x hx;exact hf.hR x (List.mem_of_find?_eq_some hx)
  ·simp
 generalize Je r.Ag n=x at g hl ⊢;have c:=Aif x.1.A2 (by omega)
 repeat'((conv=>whnf);first|(refine eI ?_ ?_;focus (and_intros<;>first|omega|exact rfl|(intro _ hh;cases hh;done)|(simp;done)|decide))|(refine Ac.mk ⟨_,g,?_⟩;rintro _ _ ⟨rfl,rfl⟩)|(refine Ac.mk ⟨_,c,?_⟩;rintro _ _ ⟨rfl,rfl⟩))
 all_goals(try(conv=>whnf))
 exact Bd.mk ⟨rfl,by kernel_rfl⟩ (by kernel_rfl)
theorem Aie(l:List Dg)(hl:l.length≤100000):Fn Tryz.prog N7 [.v (.list (l.map Dg.Ae))] (Is (.vec Ep 4 (l.map Dg.Ae)) [.no]):=by
 refine Nd ?_ (by simp)
 repeat'((conv=>whnf);first|(refine aI (fun hb=>?_) (fun hb=>?_)<;>((try rw[hb]);(try subst hb)))|(refine eI ?_ ?_;focus (and_intros<;>first|omega|exact rfl|exact size_map (fun _=>rfl)|(simp only[Az];omega)|(simp;done)))|(intro Aa))
 all_goals(try(conv=>whnf))
 ·refine Bd.mk ⟨congrArg (fun l=>SV.vec Ep 4 l) ?_,by kernel_rfl⟩ (by kernel_rfl)
  exact(Aa rfl).symm
 ·exact Bd.mk ⟨congrArg (fun l=>SV.vec Ep 4 l) (List.nil_append _),by kernel_rfl⟩ (by kernel_rfl)
theorem Aig(r:A8)(hf:r.Small)(n:Ai):Fn Tryz.prog A2v [.v r.Ae,.v (.str n)] (Is (.Dv [.i (F3 r.Am n).1.Ae,.i (.bool (F3 r.Am n).2)]) [.no,.no]):=by
 refine Az7 ?_ (by simp)
 have Jf:=hf.hX;have g:=Bcc r.Am n (by omega)
 have hl:(F3 r.Am n).1.A4.length≤1000:=by
  unfold F3;split
  ·rename_i x hx;exact hf.hG x (List.mem_of_find?_eq_some hx)
  ·simp
 generalize F3 r.Am n=x at g hl ⊢;have c:=Aie x.1.A4 (by omega)
 repeat'((conv=>whnf);first|(refine eI ?_ ?_;focus (and_intros<;>first|omega|exact rfl|(intro _ hh;cases hh;done)|(simp;done)|decide))|(refine Ac.mk ⟨_,g,?_⟩;rintro _ _ ⟨rfl,rfl⟩)|(refine Ac.mk ⟨_,c,?_⟩;rintro _ _ ⟨rfl,rfl⟩))
 all_goals(try(conv=>whnf))
 exact Bd.mk ⟨rfl,by kernel_rfl⟩ (by kernel_rfl)
theorem Nv(r:A8)(hf:r.Small)(n:Ai):Fn Tryz.prog Avk [.v r.Ae,.v (.str n)] (Is (.Dv [.i (Fc r.Be n).1.Ae,.i (.bool (Fc r.Be n).2)]) [.no,.no]):=by
 refine Ast ?_ (by simp)
 have g:=Bcd r.Be n (by have:=hf.hT;omega)
 generalize Fc r.Be n=x at g ⊢;repeat'((conv=>whnf);first|(refine eI ?_ ?_;focus (and_intros<;>first|omega|exact rfl|(intro _ hh;cases hh;done)|(simp;done)|decide))|(refine Ac.mk ⟨_,g,?_⟩;rintro _ _ ⟨rfl,rfl⟩))
 all_goals(try(conv=>whnf))
 exact Bd.mk ⟨rfl,by kernel_rfl⟩ (by kernel_rfl)
end Go.Ab
