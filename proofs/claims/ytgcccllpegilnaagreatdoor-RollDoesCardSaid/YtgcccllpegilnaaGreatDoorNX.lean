/- Lemmas for the last text. -/
import Derived.Test.YtgcccllpegilnaaGreatDoorA13
import Derived.Shelf.Unicode.DecodeAny
set_option linter.unusedVariables false
set_option linter.unusedSimpArgs false
set_option maxRecDepth 100000
set_option maxHeartbeats 40000000
namespace Go.Ab
open Go.Proofs
theorem L5 (r:Roll) (hs:r.Small):Fn Tryz.prog Dk [.v r.toI] (Is (.v r.toI) [.no]):=by
 refine(Dw r hs).frz ?_
 rintro _ _ ⟨rfl,rfl⟩
 exact⟨_,by simp only[Bu,D.toI,toIs,Aj,B6],rfl,rfl⟩
theorem take_size {α:Type} {f:α→I} {l:List α} {n i j:Nat} (h:∀a,(f a).size=n):∀u∈((l.map f).take j).drop i,u.size=n:=fun u hu=>
 size_map h u (List.mem_of_mem_take (List.mem_of_mem_drop hu))
def E7 (r:Roll) (c:Cmd):Roll × Int:=
 if r.usrAt c.name<0 then(r,16)
 else if c.name=[114,111,111,116]then(r,1)
 else({r with rev:=r.rev+1,usrs:=r.usrs.take (r.usrAt c.name).toNat++r.usrs.drop ((r.usrAt c.name).toNat+1)},0)
theorem Ade (r:Roll) (hs:r.Small) (c:Cmd) (hrev: -9223372036854775808≤r.rev∧r.rev<1099511627776) (hk:c.kind=8):Fn Tryz.prog Ba [.v r.toI,.v c.toI] (Is (.tup [.i (E7 r c).1.toI,.i (.int .i64 (E7 r c).2)]) [.no,.no]):=by
 refine Fn.isF (x:=[(E7 r c).1.toI,.int .i64 (E7 r c).2]) ?_
 refine A9 ?_ (by simp)
 have cp:=L5 r hs
 have hw:IntKind.i64.wrap (r.rev+1)=r.rev+1:=A5 (by omega)
 have hb1:=hs.hT
 have hb2:=hs.hU
 have hb3:=hs.hX
 have t1:=Bn r c.other (by omega)
 have u1:=Cg r c.name (by omega)
 have x1:=Ca r c.name (by omega)
 rcases Cv (fun t:Usr=>decide (t.name=c.name)) 0 r.usrs with h|⟨j,h,hj,u,hju,hun⟩
 ·have h':r.usrAt c.name= -1:=h
  rw[h']at u1
  repeat'((conv=>whnf);first|(apply aI<;>intro hb<;>first|exact absurd hb (by decide)|(exfalso;simp only[Ag]at hb<;>omega)|((try rw[hb]);(try simp only[Aa]at hb)))|(refine eI ?_ ?_;focus (and_intros<;>first|exact rfl|(intro _ hh;cases hh;done)|(simp;done)|decide))|((with_reducible apply Drawn.by0);(focus kernel_rfl);intro hfact;(try simp only[dRS]at hfact))|(refine CallWp.mk ⟨_,cp,?_⟩;rintro _ _ ⟨rfl,rfl⟩)|((try dsimp only);rw[hw])|(refine CallIs.mk ⟨_,_,t1,?_⟩)|(refine CallIs.mk ⟨_,_,u1,?_⟩)|(refine CallIs.mk ⟨_,_,x1,?_⟩))
  all_goals(try(conv=>whnf))
  all_goals(refine Done.mk ⟨?_,by kernel_rfl⟩ (by kernel_rfl))
  all_goals(try simp only[E7,h'])
  all_goals(try simp only[E7,h', *,if_true,if_false,Bool.false_eq_true,Bool.true_eq_false,Bool.not_true,Bool.not_false,decide_true,decide_false,not_true_eq_false,not_false_eq_true,ne_eq,reduceIte])
  all_goals(try simp only[resD,Bu,I.put,List.replicate_succ,List.replicate_zero,toIs,D.toI,Aj,Bf,List.map_cons,List.map_nil,List.set_cons_zero,List.set_cons_succ,mkSt,A1,List.map_set,Int.toNat_natCast])
  all_goals(try rfl)
 ·have h':r.usrAt c.name=(j:Int):=by rw[show r.usrAt c.name=((0+j:Nat):Int)from h,Nat.zero_add]
  rw[h']at u1
  have hw1:IntKind.i64.wrap ((j:Int)+1)=((j+1:Nat):Int):=Ae hj (by simp only[maxLen];omega)
  repeat'((conv=>whnf);first|(apply aI<;>intro hb<;>first|exact absurd hb (by decide)|(exfalso;simp only[Ag]at hb<;>omega)|((try rw[hb]);(try simp only[Aa]at hb)))|(refine eI ?_ ?_;focus (and_intros<;>first|omega|exact rfl|(intro _ hh;cases hh;done)|exact size_map (fun _=>rfl)|exact take_size (fun _=>rfl)|(simp only[Ag];omega)|(simp;done)|decide))|((with_reducible apply Drawn.by0);(focus kernel_rfl);intro hfact;(try simp only[dRS]at hfact))|(refine CallWp.mk ⟨_,cp,?_⟩;rintro _ _ ⟨rfl,rfl⟩)|((try dsimp only);rw[hw])|(refine CallIs.mk ⟨_,_,t1,?_⟩)|(refine CallIs.mk ⟨_,_,u1,?_⟩)|(refine CallIs.mk ⟨_,_,x1,?_⟩)|((try dsimp only);rw[hw1]))
  all_goals(try(conv=>whnf))
  all_goals clear h
  all_goals(refine Done.mk ⟨?_,by kernel_rfl⟩ (by kernel_rfl))
  all_goals(try simp only[E7,h'])
  all_goals(try simp only[E7,h', *,if_true,if_false,Bool.false_eq_true,Bool.true_eq_false,Bool.not_true,Bool.not_false,decide_true,decide_false,not_true_eq_false,not_false_eq_true,ne_eq,reduceIte])
  all_goals(try simp only[resD,Bu,I.put,List.replicate_succ,List.replicate_zero,toIs,D.toI,Aj,Bf,List.map_cons,List.map_nil,List.set_cons_zero,List.set_cons_succ,mkSt,A1, ←List.map_take, ←List.map_drop, ←List.map_append, ←List.map_set,List.nil_append,List.length_map,List.take_length,List.drop_zero,Int.toNat_zero,Int.toNat_natCast,Roll.toI])
  all_goals(try simp only[Roll.toI])
  all_goals(try rfl)

open Go.Proofs
theorem Vx:∀{l:List Rol} {j:Nat} (_:j<l.length) (y:D),toIs ((l.map Rol.toD).set j y)=(match y.toI with|some y'=>some ((l.map Rol.toI).set j y')|none=>none)
 | [],_,h,_=>by simp at h
 |a::l,0,_,y=>by
  simp only[List.map_cons,List.set_cons_zero,toIs,B6]
  cases y.toI<;>rfl
 |a::l,j+1,h,y=>by
  have ih:=Vx (l:=l) (j:=j) (by simpa using h) y
  simp only[List.map_cons,List.set_cons_succ,toIs,ih,D.toI,Aj]
  cases y.toI<;>rfl
theorem Apc {l:List I} {x:I}:toIs (l.map D.it++[D.it x])=some (l++[x]):=by
 rw[show l.map D.it++[D.it x]=(l++[x]).map D.it by simp]
 exact Aj _
def Ej (n:Int):Bool:=decide (0≤n)&&decide (n≤1099511627776)
def E9 (r:Roll) (c:Cmd):Roll × Int:=
 if Ej c.bytes=false then(r,1)
 else if Ej c.keys=false then(r,1)
 else if r.tenAt c.name<0 then(r,16)
 else({r with rev:=r.rev+1,tens:=r.tens.set (r.tenAt c.name).toNat ⟨c.name,c.bytes,c.keys⟩},0)
theorem Adf (r:Roll) (hs:r.Small) (c:Cmd) (hrev: -9223372036854775808≤r.rev∧r.rev<1099511627776) (hk:c.kind=5):Fn Tryz.prog Ba [.v r.toI,.v c.toI] (Is (.tup [.i (E9 r c).1.toI,.i (.int .i64 (E9 r c).2)]) [.no,.no]):=by
 refine Fn.isF (x:=[(E9 r c).1.toI,.int .i64 (E9 r c).2]) ?_
 refine A9 ?_ (by simp)
 have cp:=Dw r hs
 have hw:IntKind.i64.wrap (r.rev+1)=r.rev+1:=A5 (by omega)
 have hb1:=hs.hT
 have hb2:=hs.hU
 have hb3:=hs.hX
 have t1:=Bn r c.other (by omega)
 have t2:=Bn r c.name (by omega)
 have u1:=Cg r c.name (by omega)
 have x1:=Ca r c.name (by omega)
 have n1:Fn Tryz.prog Ct [.v (.int .i64 c.bytes)] (Is (.v (.bool (Ej c.bytes))) [.no]):=T5 c.bytes
 have n2:Fn Tryz.prog Ct [.v (.int .i64 c.keys)] (Is (.v (.bool (Ej c.keys))) [.no]):=T5 c.keys
 rcases Cv (fun t:Ten=>decide (t.name=c.name)) 0 r.tens with h|⟨j,h,hj,u,hju,hun⟩
 ·have h':r.tenAt c.name= -1:=h
  rw[h']at t2
  repeat'((conv=>whnf);first|(apply aI<;>intro hb<;>first|exact absurd hb (by decide)|(exfalso;simp only[Ag]at hb<;>omega)|((try rw[hb]);(try simp only[Aa]at hb)))|(refine eI ?_ ?_;focus (and_intros<;>first|omega|exact rfl|(intro _ hh;cases hh;done)|(simp;done)|decide))|((with_reducible apply Drawn.by0);(focus kernel_rfl);intro hfact;(try simp only[dRS]at hfact))|(refine CallWp.mk ⟨_,cp,?_⟩;rintro _ _ ⟨rfl,rfl⟩)|((try dsimp only);rw[hw])|(refine CallIs.mk ⟨_,_,t1,?_⟩)|(refine CallIs.mk ⟨_,_,u1,?_⟩)|(refine CallIs.mk ⟨_,_,x1,?_⟩)|(refine CallWp.mk ⟨_,t2,?_⟩;rintro _ _ ⟨rfl,rfl⟩)|(refine CallWp.mk ⟨_,n1,?_⟩;rintro _ _ ⟨rfl,rfl⟩)|(refine CallWp.mk ⟨_,n2,?_⟩;rintro _ _ ⟨rfl,rfl⟩))
  all_goals(try(conv=>whnf))
  all_goals(refine Done.mk ⟨?_,by kernel_rfl⟩ (by kernel_rfl))
  all_goals(try simp only[E9,h'])
  all_goals(try simp only[E9,h', *,if_true,if_false,Bool.false_eq_true,Bool.true_eq_false,Bool.not_true,Bool.not_false,decide_true,decide_false,not_true_eq_false,not_false_eq_true,ne_eq,reduceIte])
  all_goals(try simp only[resD,Bu,I.put,List.replicate_succ,List.replicate_zero,toIs,D.toI,Aj,Bf,List.map_cons,List.map_nil,List.set_cons_zero,List.set_cons_succ,mkSt,A1,List.map_set,Int.toNat_natCast])
  all_goals(try rfl)
 ·have h':r.tenAt c.name=(j:Int):=by rw[show r.tenAt c.name=((0+j:Nat):Int)from h,Nat.zero_add]
  rw[h']at t2
  repeat'((conv=>whnf);first|(apply aI<;>intro hb<;>first|exact absurd hb (by decide)|(exfalso;simp only[Ag]at hb<;>omega)|((try rw[hb]);(try simp only[Aa]at hb)))|(refine eI ?_ ?_;focus (and_intros<;>first|omega|exact rfl|(intro _ hh;cases hh;done)|(simp only[Ag];omega)|(simp;done)|decide))|((with_reducible apply Drawn.by0);(focus kernel_rfl);intro hfact;(try simp only[dRS]at hfact))|(refine CallWp.mk ⟨_,cp,?_⟩;rintro _ _ ⟨rfl,rfl⟩)|((try dsimp only);rw[hw])|(refine CallIs.mk ⟨_,_,t1,?_⟩)|(refine CallIs.mk ⟨_,_,u1,?_⟩)|(refine CallIs.mk ⟨_,_,x1,?_⟩)|(refine CallWp.mk ⟨_,t2,?_⟩;rintro _ _ ⟨rfl,rfl⟩)|(refine CallWp.mk ⟨_,n1,?_⟩;rintro _ _ ⟨rfl,rfl⟩)|(refine CallWp.mk ⟨_,n2,?_⟩;rintro _ _ ⟨rfl,rfl⟩)|((with_reducible apply Uc);(focus (simp only[D.at,D.put,D.kid,D.setKid,List.cons_append,List.nil_append,List.append,List.getElem?_cons_zero,List.getElem?_cons_succ,Int.toNat_natCast,List.getElem?_set_self',Option.map_eq_map,Option.map_some,List.set_cons_zero,List.set_cons_succ,List.set_set,Function.const_apply,List.map_cons,List.map_nil,mkSt,A1,D.toI,toIs,Aj,List.getElem?_map,List.length_map,List.length_set,hju]<;>exact rfl))))
  all_goals(try(conv=>whnf))
  all_goals clear h hju
  all_goals(refine Done.mk ⟨?_,by kernel_rfl⟩ (by kernel_rfl))
  all_goals(try simp only[E9,h'])
  all_goals(try simp only[E9,h', *,if_true,if_false,Bool.false_eq_true,Bool.true_eq_false,Bool.not_true,Bool.not_false,decide_true,decide_false,not_true_eq_false,not_false_eq_true,ne_eq,reduceIte])
  all_goals(try simp only[resD,Bu,I.put,List.replicate_succ,List.replicate_zero,toIs,D.toI,Aj,Bf,List.map_cons,List.map_nil,List.set_cons_zero,List.set_cons_succ,mkSt,A1,List.map_set,Int.toNat_natCast,B6,Roll.toI,Ten.toI])
  all_goals(try rfl)
def E4 (r:Roll) (c:Cmd):Roll × Int:=
 if !(decide (Bj c.grant.sp)&&(c.grant.r||c.grant.w))then(r,1)
 else if r.rolAt c.name<0 then(r,16)
 else match r.rols[(r.rolAt c.name).toNat]? with
 |none=>(r,16)
 |some x=>
  if x.grants.any (fun e=>decide (e=c.grant))then(r,15)
  else if 8≤(x.grants.length:Int)then(r,17)
  else({r with rev:=r.rev+1,rols:=r.rols.set (r.rolAt c.name).toNat {x with grants:=x.grants++[c.grant]}},0)
theorem Agt (g:Gra):Fn Tryz.prog P1 [.v g.toI] (Is (.v (.bool (decide (Bj g.sp)&&(g.r||g.w)))) [.no]):=by
 refine Pb ?_ (by simp)
 have s1:=Cy g.sp
 repeat'((conv=>whnf);first|(apply aI<;>intro hb<;>first|exact absurd hb (by decide)|((try rw[hb]);(try simp only[Aa]at hb)))|(refine eI ?_ ?_;focus (and_intros<;>first|omega|exact rfl|(intro _ hh;cases hh;done)|(simp;done)|decide))|(refine CallWp.mk ⟨_,s1,?_⟩;rintro _ _ ⟨rfl,rfl⟩))
 all_goals(try(conv=>whnf))
 all_goals(refine Done.mk ⟨SV.bool_congr ?_,by kernel_rfl⟩ (by kernel_rfl))
 all_goals(simp[*])
theorem Adc (r:Roll) (hs:r.Small) (c:Cmd) (hrev: -9223372036854775808≤r.rev∧r.rev<1099511627776) (hk:c.kind=11):Fn Tryz.prog Ba [.v r.toI,.v c.toI] (Is (.tup [.i (E4 r c).1.toI,.i (.int .i64 (E4 r c).2)]) [.no,.no]):=by
 refine Fn.isF (x:=[(E4 r c).1.toI,.int .i64 (E4 r c).2]) ?_
 refine A9 ?_ (by simp)
 have cp:=Dw r hs
 have hw:IntKind.i64.wrap (r.rev+1)=r.rev+1:=A5 (by omega)
 have hb1:=hs.hT
 have hb2:=hs.hU
 have hb3:=hs.hX
 have t1:=Bn r c.other (by omega)
 have u1:=Cg r c.name (by omega)
 have x1:=Ca r c.name (by omega)
 have g1:=Agt c.grant
 rcases Cv (fun t:Rol=>decide (t.name=c.name)) 0 r.rols with h|⟨j,h,hj,x,hju,hun⟩
 ·have h':r.rolAt c.name= -1:=h
  rw[h']at x1
  repeat'((conv=>whnf);first|(apply aI<;>intro hb<;>first|exact absurd hb (by decide)|(exfalso;simp only[Ag]at hb<;>omega)|((try rw[hb]);(try simp only[Aa]at hb)))|(refine eI ?_ ?_;focus (and_intros<;>first|exact rfl|(intro _ hh;cases hh;done)|(simp;done)|decide))|((with_reducible apply Drawn.by0);(focus kernel_rfl);intro hfact;(try simp only[dRS]at hfact))|(refine CallWp.mk ⟨_,cp,?_⟩;rintro _ _ ⟨rfl,rfl⟩)|((try dsimp only);rw[hw])|(refine CallIs.mk ⟨_,_,t1,?_⟩)|(refine CallIs.mk ⟨_,_,u1,?_⟩)|(refine CallIs.mk ⟨_,_,x1,?_⟩)|(refine CallWp.mk ⟨_,g1,?_⟩;rintro _ _ ⟨rfl,rfl⟩))
  all_goals(try(conv=>whnf))
  all_goals(refine Done.mk ⟨?_,by kernel_rfl⟩ (by kernel_rfl))
  all_goals(try simp only[E4,h'])
  all_goals(try simp only[E4,h', *,if_true,if_false,Bool.false_eq_true,Bool.true_eq_false,Bool.not_true,Bool.not_false,decide_true,decide_false,not_true_eq_false,not_false_eq_true,ne_eq,reduceIte])
  all_goals(try simp only[resD,Bu,I.put,List.replicate_succ,List.replicate_zero,toIs,D.toI,Aj,Bf,List.map_cons,List.map_nil,List.set_cons_zero,List.set_cons_succ,mkSt,A1,List.map_set,Int.toNat_natCast])
  all_goals(try rfl)
 ·have h':r.rolAt c.name=(j:Int):=by rw[show r.rolAt c.name=((0+j:Nat):Int)from h,Nat.zero_add]
  rw[h']at x1
  have hxl:=hs.hG x (List.mem_of_getElem? hju)
  have hj0:r.rols[Int.toNat (j:Int)]?=some x:=hju
  have g2:=Ui x.grants c.grant (by omega)
  repeat'((conv=>whnf);first|(apply aI<;>intro hb<;>first|exact absurd hb (by decide)|(exfalso;simp only[Ag]at hb<;>omega)|((try rw[hb]);(try simp only[Aa]at hb)))|(refine eI ?_ ?_;focus (and_intros<;>first|omega|exact rfl|(intro _ hh;cases hh;done)|exact A0 (by rfl)|exact B5 rfl|(simp only[Ag];omega)|(simp;done)|decide))|(intro hfact)|(refine Drawn.mk (by kernel_rfl) (by repeat'((conv=>whnf);first|exact True.intro|refine And.intro ?_ ?_|rfl|(dsimp only[eyeP,eyeO,eyeR,eyeH,seen];rfl))) (fun hfact=>?_);(try simp only[dRS]at hfact))|(refine CallWp.mk ⟨_,cp,?_⟩;rintro _ _ ⟨rfl,rfl⟩)|((try dsimp only);rw[hw])|(refine CallIs.mk ⟨_,_,t1,?_⟩)|(refine CallIs.mk ⟨_,_,u1,?_⟩)|(refine CallIs.mk ⟨_,_,x1,?_⟩)|(refine CallWp.mk ⟨_,g1,?_⟩;rintro _ _ ⟨rfl,rfl⟩)|((try dsimp only);first|rw[Au hju]|rw[Am hju]|rw[An hju])|(refine CallWp.mk ⟨_,g2,?_⟩;rintro _ _ ⟨rfl,rfl⟩)|((first|with_reducible apply Eo|((with_reducible apply Bm);(focus rfl)));(focus (simp only[D.at,D.put,D.kid,D.setKid,List.cons_append,List.nil_append,List.append,List.getElem?_cons_zero,List.getElem?_cons_succ,Int.toNat_natCast,List.getElem?_set_self',Option.map_eq_map,Option.map_some,List.set_cons_zero,List.set_cons_succ,List.set_set,Function.const_apply,List.map_cons,List.map_nil,mkSt,A1,D.toI,toIs,Aj,List.getElem?_map,List.length_map,List.length_set,hju]<;>exact rfl));(try(focus exact rfl))))
  all_goals(try(conv=>whnf))
  all_goals clear h hju
  all_goals(refine Done.mk ⟨?_,by kernel_rfl⟩ (by kernel_rfl))
  all_goals(try simp only[E4,h',hj0])
  all_goals(try simp only[E4,h',hj0, *,if_true,if_false,Bool.false_eq_true,Bool.true_eq_false,Bool.not_true,Bool.not_false,decide_true,decide_false,not_true_eq_false,not_false_eq_true,ne_eq,reduceIte])
  all_goals(try simp only[resD,Bu,I.put,List.replicate_succ,List.replicate_zero,toIs,D.toI,Aj,Bf,List.map_cons,List.map_nil,List.set_cons_zero,List.set_cons_succ,mkSt,A1,List.map_set,Int.toNat_natCast,B6,Roll.toI,Rol.toI,Vx hj,Apc,List.map_append])
  all_goals(try rfl)
set_option maxHeartbeats 4000000

open Go.Proofs
def A6 (s:Ad) (k lo hi:Int):Bool:=match s[k.toNat]? with
 |some c=>decide (lo≤(c.toNat:Int)∧(c.toNat:Int)≤hi)
 |none=>false
theorem Wx (s:Ad) (k lo hi:Int) (h0:0≤k):Fn Tryz.prog Ns [.v (.str s),.v (.int .i64 k),.v (.int .u8 lo),.v (.int .u8 hi)] (Is (.v (.bool (A6 s k lo hi))) [.no,.no,.no,.no]):=by
 refine Na ?_ (by simp)
 by_cases hk:k.toNat<s.length
 ·obtain⟨c,hc⟩:∃c,s[k.toNat]?=some c:=⟨_,List.getElem?_eq_getElem hk⟩
  have hlt:¬decide (k<(s.length:Int))=false:=by simp;omega
  repeat'((conv=>whnf);first|(apply aI<;>intro hb<;>first|exact absurd hb (by first|assumption|decide)|((try rw[hb]);(try simp only[Aa]at hb)))|(refine eI ?_ ?_;focus (and_intros<;>first|omega|exact rfl))|(intro hfact)|((try dsimp only);rw[hc]))
  all_goals(try(conv=>whnf))
  all_goals(refine Done.mk ⟨SV.bool_congr ?_,by kernel_rfl⟩ (by kernel_rfl))
  all_goals(simp only[A6,hc];simp at*;first|done|omega|grind)
 ·have hlt:¬decide (k<(s.length:Int))=true:=by simp;omega
  repeat'((conv=>whnf);first|(apply aI<;>intro hb<;>first|exact absurd hb (by first|assumption|decide)|((try rw[hb]);(try simp only[Aa]at hb)))|(refine eI ?_ ?_;focus (and_intros<;>exact rfl))|(intro hfact))
  all_goals(try(conv=>whnf))
  refine Done.mk ⟨SV.bool_congr ?_,by kernel_rfl⟩ (by kernel_rfl)
  simp[A6,List.getElem?_eq_none (show s.length≤k.toNat by omega)]
def Eg (s:Ad) (k n:Nat):Bool:=(List.range n).all fun i=>A6 s ((k+i:Nat):Int) 128 191
theorem Vr (s:Ad) (k n:Nat) (hk:k≤10) (hn:n≤10):Fn Tryz.prog Rh [.v (.str s),.v (.int .i64 k),.v (.int .i64 n)] (Is (.v (.bool (Eg s k n))) [.no,.no,.no]):=by
 refine Qv ?_ (by simp)
 (conv=>whnf)
 all_goals(try(conv=>whnf))
 refine LoopWq.by (X:=Nat) (fun x=>[(7,.v (.int .i64 x))]) (fun x=>x≤n∧Eg s k x=true) (fun x=>n - x) 0 (by kernel_rfl) ⟨Nat.zero_le _,rfl⟩ ?_
 rintro x ⟨h1,h2⟩
 by_cases hx:x<n
 ·have hlt:¬decide ((x:Int)<(n:Int))=false:=by simp[hx]
  have hw:IntKind.i64.wrap ((k:Int)+(x:Int))=((k+x:Nat):Int):=by
   rw[show(k:Int)+(x:Int)=((k+x:Nat):Int)by omega];exact A5 (by omega)
  have hs:=Wx s ((k+x:Nat):Int) 128 191 (by omega)
  repeat'((conv=>whnf);first|(apply aI<;>intro hb<;>first|exact absurd hb (by assumption)|((try rw[hb]);(try simp only[Aa]at hb)))|(refine eI ?_ ?_;focus (and_intros<;>first|(intro _ hh;cases hh;done)|(simp;done)|decide))|((try dsimp only);rw[hw])|(refine CallWp.mk ⟨_,hs,?_⟩;rintro _ _ ⟨rfl,rfl⟩))
  all_goals(try(conv=>whnf))
  ·rename_i hb
   refine Done.mk ⟨SV.bool_congr ?_,by kernel_rfl⟩ (by kernel_rfl)
   try simp only[Bool.not_eq_true']at hb
   symm
   simp only[Eg,List.all_eq_false,List.mem_range]
   exact⟨x,hx,by rw[hb];decide⟩
  ·rename_i hb
   refine Round.by (x+1) ?_ ⟨hx,?_⟩ (by omega)
   ·rw[Ae hx (by simp only[maxLen];omega)]
    show norm _ _=upd _ _
    kernel_rfl
   ·unfold Eg at h2 ⊢
    rw[List.range_succ,List.all_append,h2]
    try simp only[Bool.not_eq_false']at hb
    simp only[List.all_cons,List.all_nil,Bool.and_true,Bool.true_and];exact hb
 ·have hlt:¬decide ((x:Int)<(n:Int))=true:=by simp;omega
  have:x=n:=by omega
  subst this
  repeat'((conv=>whnf);(apply aI<;>intro hb<;>first|exact absurd hb (by assumption)|((try rw[hb]);(try simp only[Aa]at hb))))
  all_goals(try(conv=>whnf))
  refine Done.mk ⟨SV.bool_congr ?_,by kernel_rfl⟩ (by kernel_rfl)
  exact h2.symm
def En (s:Ad):Int:=
 if A6 s 0 0 127 then 1
 else if(A6 s 0 194 223&&Eg s 1 1)then 2
 else if(Eg s 1 2&&((A6 s 0 224 224&&A6 s 1 160 191)||A6 s 0 225 236||(A6 s 0 237 237&&A6 s 1 128 159)||A6 s 0 238 239))then 3
 else if(Eg s 1 3&&((A6 s 0 240 240&&A6 s 1 144 191)||A6 s 0 241 243||(A6 s 0 244 244&&A6 s 1 128 143)))then 4
 else 0
theorem Ao7 (s:Ad):Fn Tryz.prog Hn [.v (.str s)] (Is (.v (.int .i64 (En s))) [.no]):=by
 refine Qu ?_ (by simp)
 have t1:=Vr s 1 1 (by omega) (by omega)
 have t2:=Vr s 1 2 (by omega) (by omega)
 have t3:=Vr s 1 3 (by omega) (by omega)
 repeat'((conv=>whnf);first|(apply aI<;>intro hb<;>first|exact absurd hb (by decide)|((try rw[hb]);(try simp only[Aa]at hb)))|(refine eI ?_ ?_;focus (and_intros<;>first|(intro _ hh;cases hh;done)|(simp;done)|decide))|(refine CallWp.mk ⟨_,Wx _ _ _ _ (by omega),?_⟩;rintro _ _ ⟨rfl,rfl⟩)|(refine CallWp.mk ⟨_,t1,?_⟩;rintro _ _ ⟨rfl,rfl⟩)|(refine CallWp.mk ⟨_,t2,?_⟩;rintro _ _ ⟨rfl,rfl⟩)|(refine CallWp.mk ⟨_,t3,?_⟩;rintro _ _ ⟨rfl,rfl⟩))
 all_goals(try(conv=>whnf))
 all_goals(refine Done.mk ⟨congrArg (fun n=>SV.v (.int .i64 n)) ?_,by kernel_rfl⟩ (by kernel_rfl))
 all_goals(unfold En;simp at*;grind)

open Go.Proofs
def D4 (s:Ad):Bool:=match s with
 | []=>false
 | [c]=>decide (32≤(c.toNat:Int))&&decide ((c.toNat:Int)≤126)&& !decide ((c.toNat:Int)=92)
 | [c,d]=>if(c.toNat:Int)=194 then decide (161≤(d.toNat:Int))else true
 |_=>true
theorem Aiq (s:Ad):Fn Tryz.prog Nr [.v (.str s)] (Is (.v (.bool (D4 s))) [.no]):=by
 refine M9 ?_ (by simp)
 rcases s with _|⟨c,_|⟨d,_|⟨e,r⟩⟩⟩
 ·repeat'((conv=>whnf);first|(apply aI<;>intro hb<;>first|exact absurd hb (by decide)|((try rw[hb]);(try simp only[Aa]at hb)))|(refine eI ?_ ?_;focus (and_intros<;>exact rfl))|(intro hfact))
  all_goals(try(conv=>whnf))
  exact Done.mk ⟨rfl,by kernel_rfl⟩ (by kernel_rfl)
 ·have h1:¬decide ((([c]:Ad).length:Int)=1)=false:=by simp
  repeat'((conv=>whnf);first|(apply aI<;>intro hb<;>first|exact absurd hb (by first|assumption|decide)|((try rw[hb]);(try simp only[Aa]at hb)))|(refine eI ?_ ?_;focus (and_intros<;>first|omega|exact rfl))|(intro hfact))
  all_goals(try(conv=>whnf))
  all_goals(refine Done.mk ⟨SV.bool_congr ?_,by kernel_rfl⟩ (by kernel_rfl))
  all_goals(simp[D4]at*;grind)
 ·have h1:¬decide ((([c,d]:Ad).length:Int)=1)=true:=by simp
  have h2:¬decide ((([c,d]:Ad).length:Int)=2)=false:=by simp
  have h3:¬decide (1<(([c,d]:Ad).length:Int))=false:=by simp
  repeat'((conv=>whnf);first|(apply aI<;>intro hb<;>first|exact absurd hb (by assumption)|((try rw[hb]);(try simp only[Aa]at hb)))|(refine eI ?_ ?_;focus (and_intros<;>first|omega|exact rfl))|(intro hfact))
  all_goals(try(conv=>whnf))
  all_goals(refine Done.mk ⟨SV.bool_congr ?_,by kernel_rfl⟩ (by kernel_rfl))
  all_goals(simp[D4]at*;grind)
 ·have h1:¬decide (((c::d::e::r:Ad).length:Int)=1)=true:=by simp;omega
  have h2:¬decide (((c::d::e::r:Ad).length:Int)=2)=true:=by simp;omega
  repeat'((conv=>whnf);first|(apply aI<;>intro hb<;>first|exact absurd hb (by assumption)|((try rw[hb]);(try simp only[Aa]at hb)))|(refine eI ?_ ?_;focus (and_intros<;>exact rfl))|(intro hfact))
  all_goals(try(conv=>whnf))
  all_goals(refine Done.mk ⟨SV.bool_congr ?_,by kernel_rfl⟩ (by kernel_rfl))
  all_goals(simp[D4]at*;try grind)

open Go.Proofs
theorem Zu {s:Ad} {k:Nat} {lo hi:Int} (h:A6 s k lo hi=true):k<s.length:=by
 unfold A6 at h
 split at h
 ·rename_i c hc
  have:=(List.getElem?_eq_some_iff.1 hc).1
  simpa using this
 ·cases h
theorem Xt {s:Ad} {k n:Nat} (h:Eg s k n=true) (hn:0<n):k+n≤s.length:=by
 simp only[Eg,List.all_eq_true,List.mem_range]at h
 have:=Zu (h (n - 1) (by omega))
 omega
theorem Aqc (s:Ad):0≤En s∧En s≤s.length:=by
 unfold En
 split
 ·rename_i h;have:=Zu (k:=0) h;omega
 split
 ·rename_i h;simp only[Bool.and_eq_true]at h;have:=Xt h.2 (by omega);omega
 split
 ·rename_i h;simp only[Bool.and_eq_true]at h;have:=Xt h.1 (by omega);omega
 split
 ·rename_i h;simp only[Bool.and_eq_true]at h;have:=Xt h.1 (by omega);omega
 omega
def badR (k:Nat) (c:Int) (at':Nat) (piece:Ad):Bool:=
 (decide (k=1)&& !((decide (97≤c)&&decide (c≤122))||(decide (48≤c)&&decide (c≤57))||decide (c=95)||(decide (c=45)&&decide (0<at'))))
 ||(decide (1<k)&& !D4 piece)
def Er:Nat→Ad→Nat→Nat→Bool
 |0,_,_,_=>false
 |f+1,s,at',n=>match s[at']? with
  |none=>decide (0<n)
  |some c=>
   let k:=(En (s.drop at')).toNat
   if k=0 then false
   else if badR k c.toNat at' ((s.drop at').take k)=true then false
   else if 24<n+1 then false
   else Er f s (at'+k) (n+1)
def Co (s:Ad):Bool:=Er (s.length+1) s 0 0
theorem Vq (s:Ad):Fn Tryz.prog Py [.v (.str s)] (Is (.v (.bool (Co s))) [.no]):=by
 refine N7 ?_ (by simp)
 (conv=>whnf)
 all_goals(try(conv=>whnf))
 refine LoopWq.by (X:=Nat × Nat × Nat) (fun x=>[(3,.v (.int .i64 x.2.2)),(4,.v (.int .i64 x.2.1))]) (fun x=>Er x.1 s x.2.1 x.2.2=Co s∧s.length<x.1+x.2.1∧x.2.1≤s.length∧x.2.2≤24) (fun x=>s.length - x.2.1)
  (s.length+1,0,0) (by kernel_rfl) ⟨rfl,by dsimp only;omega,Nat.zero_le _,Nat.zero_le _⟩ ?_
 rintro⟨f,p,n⟩ ⟨h1,h2,h3,h4⟩
 dsimp only at h1 h2 h3 h4 ⊢
 obtain⟨f,rfl⟩:∃g,f=g+1:=⟨f - 1,by omega⟩
 by_cases hp:p<s.length
 case neg=>
  have hlt:¬decide ((p:Int)<(s.length:Int))=true:=by simp;omega
  repeat'((conv=>whnf);first|(apply aI<;>intro hb<;>first|exact absurd hb (by assumption)|((try rw[hb]);(try simp only[Aa]at hb)))|(refine eI ?_ ?_;focus (and_intros<;>exact rfl))|(intro hfact))
  all_goals(try(conv=>whnf))
  refine Done.mk ⟨SV.bool_congr ?_,by kernel_rfl⟩ (by kernel_rfl)
  rw[←h1,Er,List.getElem?_eq_none (by omega)]
  simp
 obtain⟨c,hc⟩:∃c,s[p]?=some c:=⟨_,List.getElem?_eq_getElem hp⟩
 have hg:s[Int.toNat (p:Int)]?=some c:=hc
 have hlt:¬decide ((p:Int)<(s.length:Int))=false:=by simp[hp]
 have hsz:=Aqc (s.drop p)
 have hs:=Ao7 (s.drop p)
 rw[Er,hc]at h1
 dsimp only at h1
 obtain⟨k,hk⟩:∃k:Nat,En (s.drop p)=k:=⟨(En (s.drop p)).toNat,by omega⟩
 rw[hk]at hs h1 hsz
 have hs':Fn Tryz.prog Hn [.v (.str ((s.take s.length).drop p))] (Is (.v (.int .i64 k)) [.no]):=by rw[List.take_length];exact hs
 rw[List.length_drop]at hsz
 simp only[Int.toNat_natCast]at h1
 have hw:s.length≤maxLen→IntKind.i64.wrap ((p:Int)+(k:Int))=((p+k:Nat):Int):=fun hm=>by
  rw[show(p:Int)+(k:Int)=((p+k:Nat):Int)by omega];exact A5 (by simp only[maxLen]at hm;omega)
 have hwn:IntKind.i64.wrap ((n:Int)+1)=((n+1:Nat):Int):=Ae (n:=25) (by omega) (by simp only[maxLen];omega)
 have hpc:((s.drop p).take k)=(s.take (p+k)).drop p:=by rw[List.drop_take];congr 1;omega
 have hit:=Aiq ((s.take (p+k)).drop p)
 have hpk:((p+k:Nat):Int)≤(s.length:Int):=by omega
 have hpp:(p:Int)≤((p+k:Nat):Int):=by omega
 rw[hpc]at h1
 obtain⟨b,hb0⟩:∃b,D4 ((s.take (p+k)).drop p)=b:=⟨_,rfl⟩
 rw[hb0]at hit
 unfold badR at h1
 rw[hb0]at h1
 rcases Nat.lt_or_ge k 1 with hk0|hk0
 ·have n1:¬decide ((k:Int)=0)=false:=by simp;omega
  rw[if_pos (by omega)]at h1
  repeat'((conv=>whnf);first|(apply aI<;>intro hb<;>first|exact absurd hb (by assumption)|((try rw[hb]);(try simp only[Aa]at hb)))|(refine eI ?_ ?_;focus (and_intros<;>first|omega|exact rfl|(intro _ hh;cases hh;done)|(simp;done)|decide))|(intro hfact)|(refine CallWp.mk ⟨_,hs',?_⟩;rintro _ _ ⟨rfl,rfl⟩))
  all_goals(try(conv=>whnf))
  exact Done.mk ⟨SV.bool_congr h1,by kernel_rfl⟩ (by kernel_rfl)
 rw[if_neg (by omega)]at h1
 have n1:¬decide ((k:Int)=0)=true:=by simp;omega
 rcases Nat.lt_or_ge 1 k with hk1|hk1
 ·have n2:¬decide ((k:Int)=1)=true:=by simp;omega
  have n3:¬decide (1<(k:Int))=false:=by simp;omega
  repeat'((conv=>whnf);first|(apply aI<;>intro hb<;>first|exact absurd hb (by first|assumption|decide)|((try rw[hb]);(try simp only[Aa]at hb);(try subst hb)))|(refine eI ?_ ?_;focus (and_intros<;>first|omega|exact rfl|(intro _ hh;cases hh;done)|(simp;done)|decide))|(intro hfact)|((try dsimp only);rw[hg])|(refine CallWp.mk ⟨_,hs',?_⟩;rintro _ _ ⟨rfl,rfl⟩)|(refine CallWp.mk ⟨_,hit,?_⟩;rintro _ _ ⟨rfl,rfl⟩)|((try dsimp only);rw[hw (by assumption)])|((try dsimp only);rw[hwn]))
  all_goals(try(conv=>whnf))
  all_goals first
   |(refine Done.mk ⟨SV.bool_congr ?_,by kernel_rfl⟩ (by kernel_rfl);rw[←h1];simp at*;grind)
   |(refine Round.by (f,p+k,n+1) ?_ ⟨?_,by dsimp only;omega,by dsimp only;omega,?_⟩ (by dsimp only;omega)
     ·dsimp only
      show norm _ _=upd _ _
      kernel_rfl
     ·dsimp only
      rw[←h1];simp at*;grind
     ·dsimp only
      simp at*;omega)
 ·have n2:¬decide ((k:Int)=1)=false:=by simp;omega
  have n3:¬decide (1<(k:Int))=true:=by simp;omega
  repeat'((conv=>whnf);first|(apply aI<;>intro hb<;>first|exact absurd hb (by first|assumption|decide)|(exfalso;simp only[Ag]at hb<;>omega)|((try rw[hb]);(try simp only[Aa]at hb)))|(refine eI ?_ ?_;focus (and_intros<;>first|omega|exact rfl|(intro _ hh;cases hh;done)|(simp;done)|decide))|(intro hfact)|((try dsimp only);rw[hg])|(refine CallWp.mk ⟨_,hs',?_⟩;rintro _ _ ⟨rfl,rfl⟩)|((try dsimp only);rw[hw (by assumption)])|((try dsimp only);rw[hwn]))
  all_goals(try(conv=>whnf))
  all_goals first
   |(refine Done.mk ⟨SV.bool_congr ?_,by kernel_rfl⟩ (by kernel_rfl);rw[←h1];simp at*;grind)
   |(refine Round.by (f,p+k,n+1) ?_ ⟨?_,by dsimp only;omega,by dsimp only;omega,?_⟩ (by dsimp only;omega)
     ·dsimp only
      show norm _ _=upd _ _
      kernel_rfl
     ·dsimp only
      rw[←h1];simp at*;grind
     ·dsimp only
      simp at*;omega)

open Go.Proofs Go.Shelf
theorem decL:Lays.n197 Tryz.prog ⟨fun n=>if n=197 then 126 else if n=260 then 142 else n,fun n=>if n=46 then 145 else if n=105 then 167 else if n=119 then 186 else if n=138 then 188 else if n=139 then 189 else n,fun n=>if n=3 then 0 else 1⟩ where
 mixed:=by kernel_rfl
 f197:=by kernel_rfl
 f260:=by kernel_rfl
 t0:=by kernel_rfl
 a0:=fun _=>by kernel_rfl
 z0:=fun _=>by kernel_rfl
 v0:=fun _=>by kernel_rfl
 t3:=by kernel_rfl
 a3:=fun _=>by kernel_rfl
 z3:=fun _=>by kernel_rfl
 v3:=fun _=>by kernel_rfl
 t4:=by kernel_rfl
 a4:=fun _=>by kernel_rfl
 z4:=fun _=>by kernel_rfl
 v4:=fun _=>by kernel_rfl
 t5:=by kernel_rfl
 a5:=fun _=>by kernel_rfl
 z5:=fun _=>by kernel_rfl
 v5:=fun _=>by kernel_rfl
 t9:=by kernel_rfl
 a9:=fun _=>by kernel_rfl
 z9:=fun _=>by kernel_rfl
 v9:=fun _=>by kernel_rfl
 t21:=by kernel_rfl
 a21:=fun _=>by kernel_rfl
 z21:=fun _=>by kernel_rfl
 v21:=fun _=>by kernel_rfl
 t46:=by kernel_rfl
 a46:=fun _=>by kernel_rfl
 z46:=fun _=>by kernel_rfl
 v46:=fun _=>by kernel_rfl
 t105:=by kernel_rfl
 a105:=fun _=>by kernel_rfl
 z105:=fun _=>by kernel_rfl
 v105:=fun _=>by kernel_rfl
 t119:=by kernel_rfl
 a119:=fun _=>by kernel_rfl
 z119:=fun _=>by kernel_rfl
 t138:=by kernel_rfl
 a138:=fun _=>by kernel_rfl
 z138:=fun _=>by kernel_rfl
 v138:=fun _=>by kernel_rfl
 t139:=by kernel_rfl
 a139:=fun _=>by kernel_rfl
 z139:=fun _=>by kernel_rfl
 v139:=fun _=>by kernel_rfl
 g3:=by kernel_rfl
 g4:=by kernel_rfl
theorem Aie (s:Ad):Fn Tryz.prog Hb [.v (.str s)] (Is (.tup [.i (.int .i32 (Lib.decodeGo ⟨⟨s⟩⟩).1),.i (.int .i64 (Lib.decodeGo ⟨⟨s⟩⟩).2)]) [.no]):=by
 intro G σ Fr w cargs hok hcl hargs
 have hc0:RepV G (.str s) (cargs.getD 0 undef):=(hargs 0 _ rfl).2
 obtain⟨hc0,_⟩:=RepV.str.1 hc0
 have hca:cargs= #[.string ⟨⟨s⟩⟩]:=by
  rw[←hc0]
  apply Array.ext
  ·simpa using hcl
  ·intro j h1 h2
   have:j=0:=by simp at h2;omega
   subst this
   simp[Array.getD,h1]
 have hcall:=Any.utf8_DecodeRuneInString decL ⟨⟨s⟩⟩ w (hok.amb w hok.fixed)
 rw[hca]
 refine Calls.mono hcall ?_
 rintro e w' ⟨rfl,hb⟩
 have keep:∀(M:Mem),(∀b o,M b=some o→w.heap[b]?=some o)→∀b o,M b=some o→w'.heap[b]?=some o:=by
  intro M hM b o hm
  have h1:=hM b o hm
  rw[hb.block b (Array.getElem?_eq_some_iff.1 h1).1]
  exact h1
 refine⟨_,_,_,G,fun _=>none,rfl,⟨rfl,rfl⟩,Mem.le.refl G,⟨keep G hok.fixed,fun b lab h=>by(cases h),fun b b' lab h=>by(cases h),keep Fr hok.frame,hb.os,hb.tape,hb.output,hb.size,hok.apart,hok.amb⟩,rfl,⟨_,rfl,?_⟩,rfl,?_⟩
 ·exact⟨_,_,rfl,RepV.int.2 rfl,_,_,rfl,RepV.int.2 rfl,rfl⟩
 intro i sv hi
 have:sv= .no:=by
  have:=List.mem_of_getElem? hi
  simpa using this
 subst this
 exact⟨rfl,trivial⟩

open Go
theorem Ho (l:Ad) (k:Nat):(⟨⟨l⟩⟩:ByteArray).get! k=(l[k]?).getD 0:=by
 show(l.toArray)[k]! =_
 rw[List.getElem!_toArray,List.getElem!_eq_getElem?_getD]
 rfl
theorem Kh (s:Ad) (p:Nat):Cm s p=Cm (s.drop p) 0:=by
 have hg:∀k,(⟨⟨s⟩⟩:ByteArray).get! (p+k)=(⟨⟨s.drop p⟩⟩:ByteArray).get! (0+k):=fun k=>by
  rw[Ho,Ho,List.getElem?_drop,Nat.zero_add]
 have hs:∀k,decide (p+k<(⟨⟨s⟩⟩:ByteArray).size)=decide (0+k<(⟨⟨s.drop p⟩⟩:ByteArray).size):=fun k=>by
  show decide (p+k<s.length)=decide (0+k<(s.drop p).length)
  rw[List.length_drop]
  congr 1
  rw[eq_iff_iff]
  omega
 unfold Cm Utf8.decode
 simp only[hg,hs]
set_option maxHeartbeats 40000000

open Go.Proofs
def decN (n:Nat) (b0 b1 b2 b3:Nat):Nat × Nat:=
 if b0<128 then(b0,1)
 else if b0 / 32=6∧1<n∧b1 / 64=2 then
  if b0 % 32*64+b1 % 64≥128 then(b0 % 32*64+b1 % 64,2)else(65533,1)
 else if b0 / 16=14∧1<n∧b1 / 64=2∧2<n∧b2 / 64=2 then
  if b0 % 16*4096+b1 % 64*64+b2 % 64≥2048∧Utf8.valid ((b0 % 16*4096+b1 % 64*64+b2 % 64:Nat):Int)=true then(b0 % 16*4096+b1 % 64*64+b2 % 64,3)else(65533,1)
 else if b0 / 8=30∧1<n∧b1 / 64=2∧2<n∧b2 / 64=2∧3<n∧b3 / 64=2 then
  if b0 % 8*262144+b1 % 64*4096+b2 % 64*64+b3 % 64≥65536∧Utf8.valid ((b0 % 8*262144+b1 % 64*4096+b2 % 64*64+b3 % 64:Nat):Int)=true then(b0 % 8*262144+b1 % 64*4096+b2 % 64*64+b3 % 64,4)else(65533,1)
 else(65533,1)
def Cq (l:Ad) (k:Nat):Nat:=((l[k]?).getD 0).toNat
theorem Aqa (l:Ad):Cm l 0=decN l.length (Cq l 0) (Cq l 1) (Cq l 2) (Cq l 3):=by
 have hs:(⟨⟨l⟩⟩:ByteArray).size=l.length:=rfl
 have h0:((⟨⟨l⟩⟩:ByteArray).get! 0).toNat=Cq l 0:=by rw[Ho];rfl
 have h1:((⟨⟨l⟩⟩:ByteArray).get! 1).toNat=Cq l 1:=by rw[Ho];rfl
 have h2:((⟨⟨l⟩⟩:ByteArray).get! 2).toNat=Cq l 2:=by rw[Ho];rfl
 have h3:((⟨⟨l⟩⟩:ByteArray).get! 3).toNat=Cq l 3:=by rw[Ho];rfl
 unfold Cm Utf8.decode
 simp only[Nat.zero_add,hs,h0,h1,h2,h3]
 generalize Cq l 0=b0
 generalize Cq l 1=b1
 generalize Cq l 2=b2
 generalize Cq l 3=b3
 generalize l.length=n
 unfold decN
 simp only[Bool.and_eq_true,decide_eq_true_eq,beq_iff_eq,and_assoc,ge_iff_le,Utf8.runeError]
def szN (n:Nat) (b0 b1 b2 b3:Nat):Nat:=
 if b0≤127 then 1
 else if(194≤b0∧b0≤223)∧1<n∧128≤b1∧b1≤191 then 2
 else if(1<n∧128≤b1∧b1≤191∧2<n∧128≤b2∧b2≤191)∧((b0=224∧160≤b1)∨(225≤b0∧b0≤236)∨(b0=237∧b1≤159)∨(238≤b0∧b0≤239))then 3
 else if(1<n∧128≤b1∧b1≤191∧2<n∧128≤b2∧b2≤191∧3<n∧128≤b3∧b3≤191)∧((b0=240∧144≤b1)∨(241≤b0∧b0≤243)∨(b0=244∧b1≤143))then 4
 else 0
theorem Bp (l:Ad) (k:Nat) (lo hi:Nat):A6 l (k:Int) (lo:Int) (hi:Int)=decide (k<l.length∧lo≤Cq l k∧Cq l k≤hi):=by
 unfold A6 Cq
 rw[Int.toNat_natCast]
 cases h:l[k]? with
 |none=>
  have:=List.getElem?_eq_none_iff.1 h
  symm
  simp only[decide_eq_false_iff_not]
  omega
 |some c=>
  have:=(List.getElem?_eq_some_iff.1 h).1
  simp only[Option.getD_some]
  congr 1
  rw[eq_iff_iff]
  omega
theorem Aqp (l:Ad):Eg l 1 1=decide (1<l.length∧128≤Cq l 1∧Cq l 1≤191):=by
 have h1:=Bp l 1 128 191
 simp only[Eg,List.range_succ,List.range_zero,List.nil_append,List.all_cons,List.all_nil,Bool.and_true]
 exact h1
theorem Aqq (l:Ad):Eg l 1 2=decide (1<l.length∧128≤Cq l 1∧Cq l 1≤191∧2<l.length∧128≤Cq l 2∧Cq l 2≤191):=by
 have h1:=Bp l 1 128 191
 have h2:=Bp l 2 128 191
 have:Eg l 1 2=(A6 l ((1:Nat):Int) ((128:Nat):Int) ((191:Nat):Int)&&A6 l ((2:Nat):Int) ((128:Nat):Int) ((191:Nat):Int)):=by simp[Eg,List.range_succ]
 rw[this,h1,h2, ←Bool.decide_and]
 congr 1
 rw[eq_iff_iff]
 omega
theorem Aqr (l:Ad):Eg l 1 3=decide (1<l.length∧128≤Cq l 1∧Cq l 1≤191∧2<l.length∧128≤Cq l 2∧Cq l 2≤191∧3<l.length∧128≤Cq l 3∧Cq l 3≤191):=by
 have h1:=Bp l 1 128 191
 have h2:=Bp l 2 128 191
 have h3:=Bp l 3 128 191
 have:Eg l 1 3=(A6 l ((1:Nat):Int) ((128:Nat):Int) ((191:Nat):Int)&&(A6 l ((2:Nat):Int) ((128:Nat):Int) ((191:Nat):Int)&&A6 l ((3:Nat):Int) ((128:Nat):Int) ((191:Nat):Int))):=by simp[Eg,List.range_succ]
 rw[this,h1,h2,h3, ←Bool.decide_and, ←Bool.decide_and]
 congr 1
 rw[eq_iff_iff]
 omega
theorem Art (l:Ad) (hl:0<l.length):En l=(szN l.length (Cq l 0) (Cq l 1) (Cq l 2) (Cq l 3):Nat):=by
 have e1:A6 l 0 0 127=_:=Bp l 0 0 127
 have e2:A6 l 0 194 223=_:=Bp l 0 194 223
 have e3:A6 l 0 224 224=_:=Bp l 0 224 224
 have e4:A6 l 1 160 191=_:=Bp l 1 160 191
 have e5:A6 l 0 225 236=_:=Bp l 0 225 236
 have e6:A6 l 0 237 237=_:=Bp l 0 237 237
 have e7:A6 l 1 128 159=_:=Bp l 1 128 159
 have e8:A6 l 0 238 239=_:=Bp l 0 238 239
 have e9:A6 l 0 240 240=_:=Bp l 0 240 240
 have e10:A6 l 1 144 191=_:=Bp l 1 144 191
 have e11:A6 l 0 241 243=_:=Bp l 0 241 243
 have e12:A6 l 0 244 244=_:=Bp l 0 244 244
 have e13:A6 l 1 128 143=_:=Bp l 1 128 143
 unfold En szN
 rw[Aqp,Aqq,Aqr,e1,e2,e3,e4,e5,e6,e7,e8,e9,e10,e11,e12,e13]
 generalize Cq l 0=b0
 generalize Cq l 1=b1
 generalize Cq l 2=b2
 generalize Cq l 3=b3
 generalize l.length=n at hl ⊢
 simp only[Bool.and_eq_true,Bool.or_eq_true,decide_eq_true_eq]
 repeat' split
 all_goals first|rfl|(exfalso;omega)
theorem Ary (l:Ad) (k:Nat):Cq l k<256:=UInt8.toNat_lt _
theorem Apb (n b0 b1 b2 b3:Nat) (h0:b0<256) (hn:0<n):
 (szN n b0 b1 b2 b3=0∧decN n b0 b1 b2 b3=(65533,1))∨
 (szN n b0 b1 b2 b3=1∧decN n b0 b1 b2 b3=(b0,1)∧b0<128)∨
 (szN n b0 b1 b2 b3=2∧2≤n∧∃r,decN n b0 b1 b2 b3=(r,2)∧128≤r∧r≤1114111∧(161≤r↔(b0=194→161≤b1)))∨
 (szN n b0 b1 b2 b3=3∧3≤n∧∃r,decN n b0 b1 b2 b3=(r,3)∧161≤r∧r≤1114111)∨
 (szN n b0 b1 b2 b3=4∧4≤n∧∃r,decN n b0 b1 b2 b3=(r,4)∧161≤r∧r≤1114111):=by
 unfold szN
 split
 ·rename_i hb
  refine .inr (.inl ⟨rfl,?_,by omega⟩)
  unfold decN
  rw[if_pos (show b0<128 by omega)]
 split
 ·refine .inr (.inr (.inl ⟨rfl,by omega,b0 % 32*64+b1 % 64,?_,by omega,by omega,by omega⟩))
  unfold decN
  rw[if_neg (by omega),if_pos (by omega),if_pos (by omega)]
 split
 ·refine .inr (.inr (.inr (.inl ⟨rfl,by omega,b0 % 16*4096+b1 % 64*64+b2 % 64,?_,by omega,by omega⟩)))
  unfold decN
  rw[if_neg (by omega),if_neg (by omega),if_pos (by omega),if_pos ⟨by omega,by simp only[Utf8.valid,Bool.or_eq_true,Bool.and_eq_true,decide_eq_true_eq];omega⟩]
 split
 ·refine .inr (.inr (.inr (.inr ⟨rfl,by omega,b0 % 8*262144+b1 % 64*4096+b2 % 64*64+b3 % 64,?_,by omega,by omega⟩)))
  unfold decN
  rw[if_neg (by omega),if_neg (by omega),if_neg (by omega),if_pos (by omega),if_pos ⟨by omega,by simp only[Utf8.valid,Bool.or_eq_true,Bool.and_eq_true,decide_eq_true_eq];omega⟩]
 ·refine .inl ⟨rfl,?_⟩
  unfold decN
  rw[if_neg (by omega)]
  split
  ·rw[if_neg (by omega)]
  split
  ·rw[if_neg]
   rintro⟨hv1,hv2⟩
   simp only[Utf8.valid,Bool.or_eq_true,Bool.and_eq_true,decide_eq_true_eq]at hv2
   omega
  split
  ·rw[if_neg]
   rintro⟨hv1,hv2⟩
   simp only[Utf8.valid,Bool.or_eq_true,Bool.and_eq_true,decide_eq_true_eq]at hv2
   omega
  rfl
theorem Arp (c d:UInt8):D4 [c,d]=decide (c.toNat=194→161≤d.toNat):=by
 simp only[D4]
 split
 ·congr 1
  rw[eq_iff_iff]
  omega
 ·symm
  simp only[decide_eq_true_eq]
  omega
theorem Ai4 (c d e:UInt8) (r:Ad):D4 (c::d::e::r)=true:=rfl
theorem Aki (l:Ad) (hl:0<l.length):
 (En l=0∧Cm l 0=(65533,1))∨
 (∃c r,l=c::r∧En l=1∧Cm l 0=(c.toNat,1)∧c.toNat<128)∨
 (∃k r:Nat,2≤k∧En l=(k:Int)∧k≤l.length∧Cm l 0=(r,k)∧128≤r∧r≤1114111∧D4 (l.take k)=decide (161≤r)):=by
 rw[Art l hl,Aqa]
 rcases Apb l.length (Cq l 0) (Cq l 1) (Cq l 2) (Cq l 3) (Ary l 0) hl with⟨h1,h2⟩|⟨h1,h2,h3⟩|⟨h1,h2,r,h3,h4,h5,h6⟩|⟨h1,h2,r,h3,h4,h5⟩|⟨h1,h2,r,h3,h4,h5⟩
 ·rw[h1,h2];exact .inl ⟨rfl,rfl⟩
 ·rw[h1,h2]
  cases l with
  |nil=>simp at hl
  |cons c r=>exact .inr (.inl ⟨c,r,rfl,rfl,rfl,h3⟩)
 ·rw[h1,h3]
  rcases l with _|⟨c,_|⟨d,t⟩⟩
  ·simp at hl
  ·simp at h2
  ·refine .inr (.inr ⟨2,r,by omega,rfl,h2,rfl,h4,h5,?_⟩)
   show D4 [c,d]=_
   rw[Arp]
   congr 1
   rw[eq_iff_iff]
   exact h6.symm
 ·rw[h1,h3]
  rcases l with _|⟨c,_|⟨d,_|⟨e,t⟩⟩⟩
  ·simp at hl
  ·simp at h2
  ·simp at h2
  ·exact .inr (.inr ⟨3,r,by omega,rfl,h2,rfl,by omega,h5,by show D4 [c,d,e]=_;rw[Ai4];simp[h4]⟩)
 ·rw[h1,h3]
  rcases l with _|⟨c,_|⟨d,_|⟨e,_|⟨f,t⟩⟩⟩⟩
  ·simp at hl
  ·simp at h2
  ·simp at h2
  ·simp at h2
  ·exact .inr (.inr ⟨4,r,by omega,rfl,h2,rfl,by omega,h5,by show D4 [c,d,e,f]=_;rw[Ai4];simp[h4]⟩)
end Go.Ab
