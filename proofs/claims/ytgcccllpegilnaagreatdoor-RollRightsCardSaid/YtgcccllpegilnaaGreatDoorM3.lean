/- Lemmas -/
import Derived.Test.YtgcccllpegilnaaGreatDoorN9
set_option linter.unusedVariables false
set_option linter.unusedSimpArgs false
set_option maxRecDepth 100000
set_option maxHeartbeats 40000000
namespace Go.Ab
open Go.Proofs
def Gs(s:List Dg):SV:=match s with
 | []=>.vec Ep 4 []
 |a::t=>.own [] (.vec Ep 4 (((a::t).map Dg.Ae).map D.it))
def gsp(sp:Sp)(l:List Sp):Nat→Sp
 |0=>sp
 |n+1=>(l[n]?).getD sp
theorem A19(r:A8)(hs:r.Small)(c:Ds)(hk:c.kind=12):Fn Tryz.prog Rp [.own [] (.ptr r.A6),.v c.Ae] (Is (.v (.int .i64 (D5 r c).2)) [.own [] (.ptr (Lp r c)),.no]):=by
 refine R6 ?_ (by simp)
 have D0:=hs;obtain⟨b1,b2,b3,b4,b5⟩:=hs;have hf:=T3 r.Am c.name (by omega)
 have hU:Lp r c=(D5 r c).1.A6:=by simp[Lp,hk]
 rw[hU];have hg:=Rz c.Bz.sp;cases Gm:decide (Dk c.Bz.sp)with
 |false=>
  rw[Gm]at hg;rw[show D5 r c=(r,1)by simp only[D5,hk,Gm,Int.reduceEq,if_false,if_true,and_self,false_and]]
  repeat'((conv=>whnf);first|(apply aI<;>intro hb<;>first|exact absurd hb (by decide)|(exfalso;simp only[Az]at hb<;>omega)|((try rw[hb]);(try simp only[Ad]at hb)))|(refine eI ?_ ?_;focus (and_intros<;>first|omega|exact rfl|(intro _ hh;cases hh;done)|(simp;done)|decide))|((with_reducible apply A5.B5);(focus kernel_rfl);intro Aa;(try simp only[dRS]at Aa))|((simp only[show D.at (0::[].append [3]) (D.ptr r.A6)=some (D.vec B2 3 (r.Am.map Bh.A6))from rfl,Ge,show D.at [0] (D.ptr r.A6)=some r.A6 from rfl,Dr]))|(refine Aj.mk ⟨_,_,hf,?_⟩)|(refine Ac.mk ⟨_,hg,?_⟩;rintro _ _ ⟨rfl,rfl⟩))
  all_goals(try(conv=>whnf))
  all_goals(apply dK<;>kernel_rfl)
 |true=>
 rw[Gm]at hg;cases hb:Et Bh.name r.Am c.name with
 |false=>
  rw[hb]at hf;rw[show D5 r c=(r,16)by simp only[D5,hk,Gm,hb,Int.reduceEq,if_false,if_true,and_false,false_and,Bool.true_eq_false]]
  repeat'((conv=>whnf);first|(apply aI<;>intro hb<;>first|exact absurd hb (by decide)|(exfalso;simp only[Az]at hb<;>omega)|((try rw[hb]);(try simp only[Ad]at hb)))|(refine eI ?_ ?_;focus (and_intros<;>first|omega|exact rfl|(intro _ hh;cases hh;done)|(simp;done)|decide))|((with_reducible apply A5.B5);(focus kernel_rfl);intro Aa;(try simp only[dRS]at Aa))|((simp only[show D.at (0::[].append [3]) (D.ptr r.A6)=some (D.vec B2 3 (r.Am.map Bh.A6))from rfl,Ge,show D.at [0] (D.ptr r.A6)=some r.A6 from rfl,Dr]))|(refine Aj.mk ⟨_,_,hf,?_⟩)|(refine Ac.mk ⟨_,hg,?_⟩;rintro _ _ ⟨rfl,rfl⟩))
  all_goals(try(conv=>whnf))
  all_goals(apply dK<;>kernel_rfl)
 |true=>
  rw[hb]at hf;obtain⟨x,hx, -⟩:=Lv hb;have Bb:Ch Bh.name r.Am c.name<r.Am.length:=(List.getElem?_eq_some_iff.1 hx).1;have hxl:=b5 x (List.mem_of_getElem? hx);have hP:D5 r c=(if 8<((Wr x.A4 c.Bz.sp).length:Int)then(r,17)
   else({r with Am:=r.Am.set (Ch Bh.name r.Am c.name) {x with A4:=Wr x.A4 c.Bz.sp}},0)):=by
   simp only[D5,hk,Gm,hb,hx,Int.reduceEq,if_false,if_true,and_false,false_and,Bool.true_eq_false]
  rw[hP];clear hP hU;have Ry:(r.Am.map Bh.A6)[Ch Bh.name r.Am c.name]?=some x.A6:=by simp[hx]
  repeat'((conv=>whnf);first|(apply aI<;>intro hb<;>first|exact absurd hb (by decide)|(exfalso;simp only[Az]at hb<;>omega)|((try rw[hb]);(try simp only[Ad]at hb)))|(refine eI ?_ ?_;focus (and_intros<;>first|omega|exact rfl|(intro _ hh;cases hh;done)|(simp only[Az];omega)|(simp;done)|decide))|(intro Aa)|((with_reducible apply A5.B5);(focus kernel_rfl);intro Aa;(try simp only[dRS]at Aa))|((simp only[show D.at (0::[].append [3]) (D.ptr r.A6)=some (D.vec B2 3 (r.Am.map Bh.A6))from rfl,Ge,show D.at [0] (D.ptr r.A6)=some r.A6 from rfl,Dr]))|(refine Aj.mk ⟨_,_,hf,?_⟩)|(refine Ac.mk ⟨_,hg,?_⟩;rintro _ _ ⟨rfl,rfl⟩)|((((first|with_reducible apply D9|with_reducible apply X8);(focus rfl)));(focus (simp only[D.at,D.put,D.Dj,D.Db,List.cons_append,List.nil_append,List.append,List.getElem?_cons_zero,List.getElem?_cons_succ,Int.toNat_natCast,List.getElem?_set_self',Option.map_eq_map,Option.map_some,List.set_cons_zero,List.set_cons_succ,List.set_set,Function.const_apply,List.map_cons,List.map_nil,Cu,Cn,D.Ae,Bx,Bn,List.getElem?_map,List.length_map,List.length_set,Ry]<;>exact rfl));(try(focus exact rfl))))
  all_goals(try(conv=>whnf))
  have Ea:Ef (Ph (Hb c.Bz.sp)) X9 x.A4 []=Wr x.A4 c.Bz.sp:=Uv _ _ _;have hm:x.A4.length≤maxLen:=by simp only[maxLen];omega
  refine each x.A4 _ _ _ (fun k s=>[(11,Gs s),(162,.v (.int .i64 k))]) (fun k s=>s.length≤5*k) [] (by kernel_rfl) (by simp) Ea ?_ ?_<;>clear Ea
  ·rintro k s e he hk hi hA;try dsimp only at hi hA ⊢
   have hrl:=Va e.sp c.Bz.sp;have Jx:=Aid c.Bz.sp s e;have m1:=A8v [e.sp] c.Bz.sp (by simp)
   rw[←Aut]at m1;have Uc:((x.A4.map Dg.Ae).map D.it)[k]?=some (.it e.Ae):=by simp[he]
   rcases s with _|⟨a,t⟩
   ·simp only[Gs];repeat'((conv=>whnf);first|(apply aI<;>intro hb<;>first|(exfalso;simp only[Az]at hb<;>omega)|((try rw[hb]);(try simp only[Ad]at hb)))|(refine eI ?_ ?_;focus (and_intros<;>first|omega|exact rfl|(intro _ hh;cases hh;done)|exact F5 rfl|(simp only[Az];omega)|(simp;done)|decide))|(intro Aa)|(refine Ac.mk ⟨_,m1,?_⟩;rintro _ _ ⟨rfl,rfl⟩)|((((first|with_reducible apply D9|with_reducible apply X8);(focus rfl)));(focus (simp only[D.at,D.put,D.Dj,D.Db,List.cons_append,List.nil_append,List.append,List.getElem?_cons_zero,List.getElem?_cons_succ,Int.toNat_natCast,List.getElem?_set_self',Option.map_eq_map,Option.map_some,List.set_cons_zero,List.set_cons_succ,List.set_set,Function.const_apply,List.map_cons,List.map_nil,Cu,Cn,D.Ae,Bx,Bn,List.getElem?_map,List.length_map,List.length_set,Ry,Uc]<;>exact rfl));(try(focus exact rfl))))
    all_goals(try(conv=>whnf))
    have hA2:Ef (Ph (Lf e)) X9 (Lc [e.sp] c.Bz.sp) []=Hb c.Bz.sp [] e:=Uv _ _ _;obtain⟨l2,J5⟩:∃l2,l2=Lc [e.sp] c.Bz.sp:=⟨_,rfl⟩;rw[←J5]at hA2 hrl ⊢;refine each l2 _ _ _ (fun k' s'=>[(11,Gs s'),(13,.box (.one (.i (Dg.Ae ⟨gsp e.sp l2 k',e.r,e.w⟩)))),(174,.v (.int .i64 k'))]) (fun k' s'=>s'.length≤(([]:List Dg):List Dg).length+k') [] (by kernel_rfl) (by simp) hA2 ?_ ?_<;>clear hA2
    ·clear hA;rintro k' s' e' Sr E7 Fh hA;try dsimp only at Fh hA ⊢
     have hm2:l2.length≤maxLen:=by simp only[maxLen];omega
     have Kz:gsp e.sp l2 (k'+1)=e':=by simp only[gsp,Sr,Option.getD_some]
     have hgc:=Q2 s' ⟨e',e.r,e.w⟩ (by omega)
     generalize gsp e.sp l2 k'=gk at*;rcases s' with _|⟨b,q⟩
     ·simp only[Gs];repeat'((conv=>whnf);first|(apply aI<;>intro hb<;>first|(exfalso;simp only[Az]at hb<;>omega)|((try rw[hb]);(try simp only[Ad]at hb)))|(refine eI ?_ ?_;focus (and_intros<;>first|omega|exact rfl|exact F5 rfl|(simp only[Az];omega)|(simp;done)))|((try dsimp only);first|rw[Av Sr]|rw[An Sr]|rw[Ap Sr])|(refine Ac.mk ⟨_,hgc,?_⟩;rintro _ _ ⟨rfl,rfl⟩))
      all_goals(try(conv=>whnf))
      all_goals(refine Dx.by (Lf e [] e') ?_ ?_ hA;rotate_left;(have h1:=M3 e [] e';have h2:=Fh;(try dsimp only at h2 ⊢);simp only[List.length_cons,List.length_nil]at h1 h2 ⊢;omega))
      all_goals(rw[Ak E7 hm2,Kz];unfold Lf;rename_i hb;rw[hb];simp only[if_true,Bool.false_eq_true,if_false,Gs,List.nil_append,List.cons_append,List.map_append,List.map_cons,List.map_nil])
      all_goals(show norm _ _=Bt _ _;kernel_rfl)
     ·have hq:q.length+1≤5005:=by
       have h2:=Fh;have h3:=hi;simp only[List.length_cons,List.length_nil]at h2 h3;omega
      simp only[Gs];repeat'((conv=>whnf);first|(apply aI<;>intro hb<;>first|(exfalso;simp only[Az]at hb<;>omega)|((try rw[hb]);(try simp only[Ad]at hb)))|(refine eI ?_ ?_;focus (and_intros<;>first|omega|exact rfl|exact F5 rfl|(simp only[Az];omega)|(simp;done)))|((simp only[show D.at [] (D.vec Ep 4 (List.map D.it (List.map Dg.Ae (b::q))))=some (D.vec Ep 4 (List.map D.it (List.map Dg.Ae (b::q))))from rfl,D.Ae,Bn]))|((try dsimp only);first|rw[Av Sr]|rw[An Sr]|rw[Ap Sr])|(refine Ac.mk ⟨_,hgc,?_⟩;rintro _ _ ⟨rfl,rfl⟩))
      all_goals(try(conv=>whnf))
      all_goals(refine Dx.by (Lf e (b::q) e') ?_ ?_ hA;rotate_left;(have h1:=M3 e (b::q) e';have h2:=Fh;(try dsimp only at h2 ⊢);simp only[List.length_cons,List.length_nil]at h1 h2 ⊢;omega))
      all_goals(rw[Ak E7 hm2,Kz];unfold Lf;rename_i hb;rw[hb];simp only[if_true,Bool.false_eq_true,if_false,Gs,List.nil_append,List.cons_append,List.map_append,List.map_cons,List.map_nil])
      all_goals(show norm _ _=Bt _ _;kernel_rfl)
    ·rintro s' k' rfl Fh C5;try dsimp only at Fh C5 ⊢
     obtain rfl:s'=Hb c.Bz.sp [] e:=C5;obtain⟨V,hV⟩:∃V,V=Hb c.Bz.sp [] e:=⟨_,rfl⟩;rw[←hV];rcases V with _|⟨b,q⟩
     ·simp only[Gs];repeat'((conv=>whnf);(apply aI<;>intro hb<;>first|(exfalso;simp only[Az]at hb<;>omega)|((try rw[hb]);(try simp only[Ad]at hb))))
      all_goals(try(conv=>whnf))
      refine Dx.by (Hb c.Bz.sp [] e) ?_ (Nat.le_trans Jx (by have h2:=hi;simp only[List.length_cons,List.length_nil]at h2 ⊢;omega)) hA
      rw[Ak hk hm, ←hV];simp only[Gs];show norm _ _=Bt _ _
      kernel_rfl
     ·simp only[Gs];repeat'((conv=>whnf);(apply aI<;>intro hb<;>first|(exfalso;simp only[Az]at hb<;>omega)|((try rw[hb]);(try simp only[Ad]at hb))))
      all_goals(try(conv=>whnf))
      refine Dx.by (Hb c.Bz.sp [] e) ?_ (Nat.le_trans Jx (by have h2:=hi;simp only[List.length_cons,List.length_nil]at h2 ⊢;omega)) hA
      rw[Ak hk hm, ←hV];simp only[Gs];show norm _ _=Bt _ _
      kernel_rfl
   ·simp only[Gs];repeat'((conv=>whnf);first|(apply aI<;>intro hb<;>first|(exfalso;simp only[Az]at hb<;>omega)|((try rw[hb]);(try simp only[Ad]at hb)))|(refine eI ?_ ?_;focus (and_intros<;>first|omega|exact rfl|(intro _ hh;cases hh;done)|exact F5 rfl|(simp only[Az];omega)|(simp;done)|decide))|(intro Aa)|(refine Ac.mk ⟨_,m1,?_⟩;rintro _ _ ⟨rfl,rfl⟩)|((((first|with_reducible apply D9|with_reducible apply X8);(focus rfl)));(focus (simp only[D.at,D.put,D.Dj,D.Db,List.cons_append,List.nil_append,List.append,List.getElem?_cons_zero,List.getElem?_cons_succ,Int.toNat_natCast,List.getElem?_set_self',Option.map_eq_map,Option.map_some,List.set_cons_zero,List.set_cons_succ,List.set_set,Function.const_apply,List.map_cons,List.map_nil,Cu,Cn,D.Ae,Bx,Bn,List.getElem?_map,List.length_map,List.length_set,Ry,Uc]<;>exact rfl));(try(focus exact rfl))))
    all_goals(try(conv=>whnf))
    have hA2:Ef (Ph (Lf e)) X9 (Lc [e.sp] c.Bz.sp) (a::t)=Hb c.Bz.sp (a::t) e:=Uv _ _ _;obtain⟨l2,J5⟩:∃l2,l2=Lc [e.sp] c.Bz.sp:=⟨_,rfl⟩;rw[←J5]at hA2 hrl ⊢;refine each l2 _ _ _ (fun k' s'=>[(11,Gs s'),(13,.box (.one (.i (Dg.Ae ⟨gsp e.sp l2 k',e.r,e.w⟩)))),(174,.v (.int .i64 k'))]) (fun k' s'=>s'.length≤((a::t):List Dg).length+k') (a::t) (by kernel_rfl) (by simp) hA2 ?_ ?_<;>clear hA2
    ·clear hA;rintro k' s' e' Sr E7 Fh hA;try dsimp only at Fh hA ⊢
     have hm2:l2.length≤maxLen:=by simp only[maxLen];omega
     have Kz:gsp e.sp l2 (k'+1)=e':=by simp only[gsp,Sr,Option.getD_some]
     have hgc:=Q2 s' ⟨e',e.r,e.w⟩ (by omega)
     generalize gsp e.sp l2 k'=gk at*;rcases s' with _|⟨b,q⟩
     ·simp only[Gs];repeat'((conv=>whnf);first|(apply aI<;>intro hb<;>first|(exfalso;simp only[Az]at hb<;>omega)|((try rw[hb]);(try simp only[Ad]at hb)))|(refine eI ?_ ?_;focus (and_intros<;>first|omega|exact rfl|exact F5 rfl|(simp only[Az];omega)|(simp;done)))|((try dsimp only);first|rw[Av Sr]|rw[An Sr]|rw[Ap Sr])|(refine Ac.mk ⟨_,hgc,?_⟩;rintro _ _ ⟨rfl,rfl⟩))
      all_goals(try(conv=>whnf))
      all_goals(refine Dx.by (Lf e [] e') ?_ ?_ hA;rotate_left;(have h1:=M3 e [] e';have h2:=Fh;(try dsimp only at h2 ⊢);simp only[List.length_cons,List.length_nil]at h1 h2 ⊢;omega))
      all_goals(rw[Ak E7 hm2,Kz];unfold Lf;rename_i hb;rw[hb];simp only[if_true,Bool.false_eq_true,if_false,Gs,List.nil_append,List.cons_append,List.map_append,List.map_cons,List.map_nil])
      all_goals(show norm _ _=Bt _ _;kernel_rfl)
     ·have hq:q.length+1≤5005:=by
       have h2:=Fh;have h3:=hi;simp only[List.length_cons,List.length_nil]at h2 h3;omega
      simp only[Gs];repeat'((conv=>whnf);first|(apply aI<;>intro hb<;>first|(exfalso;simp only[Az]at hb<;>omega)|((try rw[hb]);(try simp only[Ad]at hb)))|(refine eI ?_ ?_;focus (and_intros<;>first|omega|exact rfl|exact F5 rfl|(simp only[Az];omega)|(simp;done)))|((simp only[show D.at [] (D.vec Ep 4 (List.map D.it (List.map Dg.Ae (b::q))))=some (D.vec Ep 4 (List.map D.it (List.map Dg.Ae (b::q))))from rfl,D.Ae,Bn]))|((try dsimp only);first|rw[Av Sr]|rw[An Sr]|rw[Ap Sr])|(refine Ac.mk ⟨_,hgc,?_⟩;rintro _ _ ⟨rfl,rfl⟩))
      all_goals(try(conv=>whnf))
      all_goals(refine Dx.by (Lf e (b::q) e') ?_ ?_ hA;rotate_left;(have h1:=M3 e (b::q) e';have h2:=Fh;(try dsimp only at h2 ⊢);simp only[List.length_cons,List.length_nil]at h1 h2 ⊢;omega))
      all_goals(rw[Ak E7 hm2,Kz];unfold Lf;rename_i hb;rw[hb];simp only[if_true,Bool.false_eq_true,if_false,Gs,List.nil_append,List.cons_append,List.map_append,List.map_cons,List.map_nil])
      all_goals(show norm _ _=Bt _ _;kernel_rfl)
    ·rintro s' k' rfl Fh C5;try dsimp only at Fh C5 ⊢
     obtain rfl:s'=Hb c.Bz.sp (a::t) e:=C5;obtain⟨V,hV⟩:∃V,V=Hb c.Bz.sp (a::t) e:=⟨_,rfl⟩;rw[←hV];rcases V with _|⟨b,q⟩
     ·simp only[Gs];repeat'((conv=>whnf);(apply aI<;>intro hb<;>first|(exfalso;simp only[Az]at hb<;>omega)|((try rw[hb]);(try simp only[Ad]at hb))))
      all_goals(try(conv=>whnf))
      refine Dx.by (Hb c.Bz.sp (a::t) e) ?_ (Nat.le_trans Jx (by have h2:=hi;simp only[List.length_cons,List.length_nil]at h2 ⊢;omega)) hA
      rw[Ak hk hm, ←hV];simp only[Gs];show norm _ _=Bt _ _
      kernel_rfl
     ·simp only[Gs];repeat'((conv=>whnf);(apply aI<;>intro hb<;>first|(exfalso;simp only[Az]at hb<;>omega)|((try rw[hb]);(try simp only[Ad]at hb))))
      all_goals(try(conv=>whnf))
      refine Dx.by (Hb c.Bz.sp (a::t) e) ?_ (Nat.le_trans Jx (by have h2:=hi;simp only[List.length_cons,List.length_nil]at h2 ⊢;omega)) hA
      rw[Ak hk hm, ←hV];simp only[Gs];show norm _ _=Bt _ _
      kernel_rfl
  ·rintro s k rfl hi hA;try dsimp only at hi hA ⊢
   obtain rfl:s=Wr x.A4 c.Bz.sp:=hA;obtain⟨V,hV⟩:∃V,V=Wr x.A4 c.Bz.sp:=⟨_,rfl⟩;rw[←hV];have Cs:(r.Am.set (Ch Bh.name r.Am c.name) {x with A4:=V}).map Bh.A6=(r.Am.map Bh.A6).set (Ch Bh.name r.Am c.name) (Bh.A6 {x with A4:=V}):=by simp[List.map_set]
   have hD:A8.A6 {r with Am:=r.Am.set (Ch Bh.name r.Am c.name) {x with A4:=V}}= .st [.it (.int .i64 r.rev),.vec Cc 3 ((r.Be.map B7.Ae).map D.it),.vec B3 5 (r.Ag.map Bc.A6),.vec B2 3 ((r.Am.map Bh.A6).set (Ch Bh.name r.Am c.name) (.st [.it (.str x.name),.it (.str x.Du),.vec Ep 4 ((V.map Dg.Ae).map D.it)]))]:=by
    show D.st [_,_,_,D.vec _ _ (List.map _ (r.Am.set _ _))]=_;rw[Cs]
   by_cases h8:8<(V.length:Int)
   ·rw[if_pos h8];rcases V with _|⟨a,t⟩
    ·simp at h8
    ·simp only[Gs];repeat'((conv=>whnf);first|(apply aI<;>intro hb<;>first|(exfalso;simp only[Az]at hb<;>omega)|((try rw[hb]);(try simp only[Ad]at hb)))|(refine eI ?_ ?_;focus (and_intros<;>first|omega|exact rfl|(simp;done)))|(intro Aa)|((first|with_reducible apply Ahs|((with_reducible apply D9);(focus rfl)));(focus (simp only[D.at,D.put,D.Dj,D.Db,List.cons_append,List.nil_append,List.append,List.getElem?_cons_zero,List.getElem?_cons_succ,Int.toNat_natCast,List.getElem?_set_self',Option.map_eq_map,Option.map_some,List.set_cons_zero,List.set_cons_succ,List.set_set,Function.const_apply,List.map_cons,List.map_nil,Cu,Cn,D.Ae,Bx,Bn,List.getElem?_map,List.length_map,List.length_set,Ry]<;>exact rfl));(try(focus exact rfl))))
     all_goals(try(conv=>whnf))
     all_goals first|(exfalso;simp at h8 hb;omega)|(exfalso;simp at h8;omega)|(apply dK<;>kernel_rfl)
   ·rw[if_neg h8,hD];rcases V with _|⟨a,t⟩
    ·simp only[Gs];repeat'((conv=>whnf);first|(apply aI<;>intro hb<;>first|exact absurd hb (by decide)|(exfalso;simp only[Az]at hb<;>omega)|((try rw[hb]);(try simp only[Ad]at hb)))|(refine eI ?_ ?_;focus (and_intros<;>first|omega|exact rfl|(simp;done)))|(intro Aa)|((first|with_reducible apply Ahs|((with_reducible apply D9);(focus rfl)));(focus (simp only[D.at,D.put,D.Dj,D.Db,List.cons_append,List.nil_append,List.append,List.getElem?_cons_zero,List.getElem?_cons_succ,Int.toNat_natCast,List.getElem?_set_self',Option.map_eq_map,Option.map_some,List.set_cons_zero,List.set_cons_succ,List.set_set,Function.const_apply,List.map_cons,List.map_nil,Cu,Cn,D.Ae,Bx,Bn,List.getElem?_map,List.length_map,List.length_set,Ry]<;>exact rfl));(try(focus exact rfl))))
     all_goals(try(conv=>whnf))
     all_goals first|(exfalso;simp at h8 hb;omega)|(exfalso;simp at h8;omega)|(apply dK<;>kernel_rfl)
    ·simp only[Gs];repeat'((conv=>whnf);first|(apply aI<;>intro hb<;>first|(exfalso;simp only[Az]at hb<;>omega)|((try rw[hb]);(try simp only[Ad]at hb)))|(refine eI ?_ ?_;focus (and_intros<;>first|exact rfl|(simp;done)))|(intro Aa)|((first|with_reducible apply Ahs|((with_reducible apply D9);(focus rfl)));(focus (simp only[D.at,D.put,D.Dj,D.Db,List.cons_append,List.nil_append,List.append,List.getElem?_cons_zero,List.getElem?_cons_succ,Int.toNat_natCast,List.getElem?_set_self',Option.map_eq_map,Option.map_some,List.set_cons_zero,List.set_cons_succ,List.set_set,Function.const_apply,List.map_cons,List.map_nil,Cu,Cn,D.Ae,Bx,Bn,List.getElem?_map,List.length_map,List.length_set,Ry]<;>exact rfl));(try(focus exact rfl))))
     all_goals(try(conv=>whnf))
     all_goals first|(exfalso;simp at h8 hb;omega)|(exfalso;simp at h8;omega)|(apply dK<;>kernel_rfl)

open Go.Proofs
def Rs(r:A8)(c:Ds):A8 × Int:=
 if c.kind=4∨c.kind=5 then M5 r c
 else if c.kind=6∨c.kind=7∨c.kind=8 then Fz r c
 else if c.kind=13∨c.kind=14 then J7 r c
 else D5 r c
def doD(r:A8)(c:Ds):D:=
 if c.kind=4∨c.kind=5 then(M5 r c).1.A6
 else if c.kind=6∨c.kind=7∨c.kind=8 then Q4 r c
 else if c.kind=13∨c.kind=14 then(J7 r c).1.A6
 else Lp r c
theorem A8w(r:A8)(hs:r.Small)(c:Ds)(hk:9≤c.kind∧c.kind≤12):Fn Tryz.prog Rp [.own [] (.ptr r.A6),.v c.Ae] (Is (.v (.int .i64 (D5 r c).2)) [.own [] (.ptr (Lp r c)),.no]):=by
 rcases(by omega:c.kind=9∨c.kind=10∨c.kind=11∨c.kind=12)with h|h|h|h
 ·exact A37 r hs c h
 ·exact A17 r hs c h
 ·exact A18 r hs c h
 ·exact A19 r hs c h
theorem Be1(r:A8)(hs:r.Small)(c:Ds)(hc:c.Bp.length≤100000∧c.word.length≤100000)(hk:4≤c.kind∧c.kind≤14):Fn Tryz.prog A88 [.own [] (.ptr r.A6),.v c.Ae] (Is (.v (.int .i64 (Rs r c).2)) [.own [] (.ptr (doD r c)),.no]):=by
 refine A7e ?_ (by simp)
 have t1:=A2c r hs c;have u1:=A80 r hs c hc;have h1:=A8r r hs c;unfold Rs doD;by_cases k1:c.kind=4∨c.kind=5
 ·rw[if_pos k1,if_pos k1];repeat'((conv=>whnf);first|(apply aI<;>intro hb<;>first|exact absurd hb (by decide)|(exfalso;simp only[Az]at hb<;>omega)|((try rw[hb]);(try simp only[Ad]at hb)))|(refine eI ?_ ?_;focus (and_intros<;>first|exact rfl|(intro _ hh;cases hh;done)|(simp;done)|decide))|(refine Ac.mk ⟨_,t1,?_⟩;rintro _ _ ⟨rfl,rfl⟩))
  all_goals(try(conv=>whnf))
  all_goals first|(exfalso;omega)|(apply dK<;>kernel_rfl)
 rw[if_neg k1,if_neg k1];by_cases k2:c.kind=6∨c.kind=7∨c.kind=8
 ·rw[if_pos k2,if_pos k2];repeat'((conv=>whnf);first|(apply aI<;>intro hb<;>first|exact absurd hb (by decide)|(exfalso;simp only[Az]at hb<;>omega)|((try rw[hb]);(try simp only[Ad]at hb)))|(refine eI ?_ ?_;focus (and_intros<;>first|exact rfl|(intro _ hh;cases hh;done)|(simp;done)|decide))|(refine Ac.mk ⟨_,u1,?_⟩;rintro _ _ ⟨rfl,rfl⟩))
  all_goals(try(conv=>whnf))
  all_goals first|(exfalso;omega)|(apply dK<;>kernel_rfl)
 rw[if_neg k2,if_neg k2];by_cases k3:c.kind=13∨c.kind=14
 ·rw[if_pos k3,if_pos k3];repeat'((conv=>whnf);first|(apply aI<;>intro hb<;>first|exact absurd hb (by decide)|(exfalso;simp only[Az]at hb<;>omega)|((try rw[hb]);(try simp only[Ad]at hb)))|(refine eI ?_ ?_;focus (and_intros<;>first|exact rfl|(intro _ hh;cases hh;done)|(simp;done)|decide))|(refine Ac.mk ⟨_,h1,?_⟩;rintro _ _ ⟨rfl,rfl⟩))
  all_goals(try(conv=>whnf))
  all_goals first|(exfalso;omega)|(apply dK<;>kernel_rfl)
 rw[if_neg k3,if_neg k3];have r1:=A8w r hs c (by omega)
 repeat'((conv=>whnf);first|(apply aI<;>intro hb<;>first|(exfalso;simp only[Az]at hb<;>omega)|((try rw[hb]);(try simp only[Ad]at hb)))|(refine eI ?_ ?_;focus (and_intros<;>first|exact rfl|(intro _ hh;cases hh;done)|(simp;done)|decide))|(refine Ac.mk ⟨_,r1,?_⟩;rintro _ _ ⟨rfl,rfl⟩))
 all_goals(try(conv=>whnf))
 all_goals first|(exfalso;omega)|(apply dK<;>kernel_rfl)

open Go.Proofs
theorem A4c(r:A8)(c:Ds):(M5 r c).1.rev=r.rev:=by
 unfold M5;repeat' split
 all_goals rfl
theorem Bcw(r:A8)(c:Ds):(Fz r c).1.rev=r.rev:=by
 unfold Fz;repeat' split
 all_goals rfl
theorem A94(r:A8)(c:Ds):(J7 r c).1.rev=r.rev:=by
 unfold J7;repeat' split
 all_goals rfl
theorem Bbg(r:A8)(c:Ds):(D5 r c).1.rev=r.rev:=by
 unfold D5;repeat' split
 all_goals rfl
theorem Bgu(r:A8)(c:Ds):(Rs r c).1.rev=r.rev:=by
 unfold Rs;split
 ·exact A4c r c
 split
 ·exact Bcw r c
 split
 ·exact A94 r c
 ·exact Bbg r c
def IsD(d:D)(r:A8):Prop:=∃a b e,d= .st [.it (.int .i64 r.rev),.vec Cc 3 a,.vec B3 5 b,.vec B2 3 e]∧Bx a=some (r.Be.map B7.Ae)∧Bx b=some (r.Ag.map Bc.Ae)∧Bx e=some (r.Am.map Bh.Ae)
theorem Ak0(r:A8):IsD r.A6 r:=⟨_,_,_,rfl,Bn _,Qg _,Fm _⟩
theorem Arj{α:Type}{d:α→D}{f:α→I}{l:List α}(h:Bx (l.map d)=some (l.map f))(i:Nat)(x:α):Bx (Hk i (.it (f x)) (l.map d))=some ((Hk i x l).map f):=by
 have Ru:∀(a b:List D) (u v:List I),Bx a=some u→Bx b=some v→Bx (a++b)=some (u++v):=by
  intro a;induction a with
  |nil=>intro b u v h1 h2;simp[Bx]at h1;subst h1;simpa using h2
  |cons y a ih=>
   intro b u v h1 h2;simp only[Bx]at h1;cases hy:y.Ae with
   |none=>rw[hy]at h1;simp at h1
   |some z=>
    cases ha:Bx a with
    |none=>rw[hy,ha]at h1;simp at h1
    |some w=>
     rw[hy,ha]at h1;simp at h1;subst h1;simp only[List.cons_append,Bx,hy,ih b w v ha h2]
 have Mx:∀(l:List α),Bx (l.map d)=some (l.map f)→∀i,Bx ((l.take i).map d)=some ((l.take i).map f)∧Bx ((l.drop i).map d)=some ((l.drop i).map f):=by
  intro l;induction l with
  |nil=>intro _ i;simp[Bx]
  |cons y l ih=>
   intro h i;cases i with
   |zero=>exact⟨by simp[Bx],by simpa using h⟩
   |succ i=>
    simp only[List.map_cons,Bx]at h;cases hy:(d y).Ae with
    |none=>rw[hy]at h;simp at h
    |some z=>
     cases ha:Bx (l.map d)with
     |none=>rw[hy,ha]at h;simp at h
     |some w=>
      rw[hy,ha]at h;simp at h;obtain⟨rfl,rfl⟩:=h;obtain⟨i1,i2⟩:=ih ha i;exact⟨by simp only[List.take_succ_cons,List.map_cons,Bx,hy,i1],by simpa using i2⟩
 obtain⟨s1,s2⟩:=Mx l h i;unfold Hk;rw[List.map_append,List.map_cons, ←List.map_take, ←List.map_drop];exact Ru _ _ _ _ s1 (by simp only[Bx,D.Ae,s2])
theorem Bay(r:A8)(c:Ds):IsD (Q4 r c) (Fz r c).1:=by
 unfold Q4;split
 ·rename_i h;obtain⟨h6,h0⟩:=h;have hP:(Fz r c).1= {r with Ag:=Hk (Ch Bc.name r.Ag c.name) ⟨c.name,c.other,c.Bp,Hj c.Bp c.word,[]⟩ r.Ag}:=by
   revert h0;unfold Fz;rw[if_pos h6];repeat' split
   all_goals simp
  rw[hP];exact⟨_,_,_,rfl,Bn _,Arj (d:=Bc.A6) (f:=Bc.Ae) (Qg r.Ag) _ _,Fm _⟩
 ·exact Ak0 _
theorem Bax(r:A8)(c:Ds):IsD (Lp r c) (D5 r c).1:=by
 unfold Lp;split
 ·rename_i h;obtain⟨h6,h0⟩:=h;have hP:(D5 r c).1= {r with Am:=Hk (Ch Bh.name r.Am c.name) ⟨c.name,c.other,[]⟩ r.Am}:=by
   revert h0;unfold D5;rw[if_pos h6];repeat' split
   all_goals simp
  rw[hP];exact⟨_,_,_,rfl,Bn _,Qg _,Arj (d:=Bh.A6) (f:=Bh.Ae) (Fm r.Am) _ _⟩
 ·exact Ak0 _
theorem Bhd(r:A8)(c:Ds):IsD (doD r c) (Rs r c).1:=by
 unfold doD Rs;split
 ·exact Ak0 _
 split
 ·exact Bay r c
 split
 ·exact Ak0 _
 ·exact Bax r c
def DoP(r:A8)(c:Ds):A8 × Int:=
 if c.kind<4∨14<c.kind then(r,1)
 else if 1099511627776≤r.rev then(r,17)
 else if(Rs r c).2=0 then({(Rs r c).1 with rev:=r.rev+1},0)
 else(r,(Rs r c).2)
theorem Ve(r:A8)(hs:r.Small)(c:Ds)(hc:c.Bp.length≤100000∧c.word.length≤100000)(Pu: -9223372036854775808≤r.rev):Fn Tryz.prog A87 [.v r.Ae,.v c.Ae] (Is (.Dv [.i (DoP r c).1.Ae,.i (.int .i64 (DoP r c).2)]) [.no,.no]):=by
 refine Fn.isF (x:=[(DoP r c).1.Ae,.int .i64 (DoP r c).2]) ?_;refine A3c ?_ (by simp)
 have cp:=A1t r hs;unfold DoP;by_cases k1:c.kind<4∨14<c.kind
 ·rw[if_pos k1];repeat'((conv=>whnf);first|(apply aI<;>intro hb<;>first|exact absurd hb (by decide)|(exfalso;simp only[Az]at hb<;>omega)|((try rw[hb]);(try simp only[Ad]at hb)))|(refine eI ?_ ?_;focus (and_intros<;>first|exact rfl|(intro _ hh;cases hh;done)|(simp;done)|decide))|(refine Ac.mk ⟨_,cp,?_⟩;rintro _ _ ⟨rfl,rfl⟩))
  all_goals(try(conv=>whnf))
  all_goals first|(exfalso;omega)|skip
  all_goals(refine Bd.mk ⟨?_,by kernel_rfl⟩ (by kernel_rfl))
  all_goals(try simp only[hs])
  all_goals(try simp only[hs, *,if_true,if_false,Bool.false_eq_true,Bool.true_eq_false,Bool.not_true,Bool.not_false,decide_true,decide_false,not_true_eq_false,not_false_eq_true,ne_eq,reduceIte])
  all_goals(try simp only[F4,Es,I.put,List.replicate_succ,List.replicate_zero,Bx,D.Ae,Bn,Dy,List.map_cons,List.map_nil,List.set_cons_zero,List.set_cons_succ,Cu,Cn,List.map_set,Int.toNat_natCast,Fm,Qg])
  all_goals(try rfl)
 rw[if_neg k1];by_cases k2:1099511627776≤r.rev
 ·rw[if_pos k2];repeat'((conv=>whnf);first|(apply aI<;>intro hb<;>first|exact absurd hb (by decide)|(exfalso;simp only[Az]at hb<;>omega)|((try rw[hb]);(try simp only[Ad]at hb)))|(refine eI ?_ ?_;focus (and_intros<;>first|exact rfl|(intro _ hh;cases hh;done)|(simp;done)|decide))|(refine Ac.mk ⟨_,cp,?_⟩;rintro _ _ ⟨rfl,rfl⟩))
  all_goals(try(conv=>whnf))
  all_goals first|(exfalso;omega)|skip
  all_goals(refine Bd.mk ⟨?_,by kernel_rfl⟩ (by kernel_rfl))
  all_goals(try simp only[hs])
  all_goals(try simp only[hs, *,if_true,if_false,Bool.false_eq_true,Bool.true_eq_false,Bool.not_true,Bool.not_false,decide_true,decide_false,not_true_eq_false,not_false_eq_true,ne_eq,reduceIte])
  all_goals(try simp only[F4,Es,I.put,List.replicate_succ,List.replicate_zero,Bx,D.Ae,Bn,Dy,List.map_cons,List.map_nil,List.set_cons_zero,List.set_cons_succ,Cu,Cn,List.map_set,Int.toNat_natCast,Fm,Qg])
  all_goals(try rfl)
 rw[if_neg k2];have hd:=Be1 r hs c hc (by omega)
 obtain⟨a,b,e,hD,hta,htb,hte⟩:=Bhd r c;rw[Bgu]at hD;rw[hD]at hd;have hw:IntKind.i64.wrap (r.rev+1)=r.rev+1:=Cf (by omega)
 generalize Rs r c=X at*;obtain⟨n,x⟩:=X;dsimp only at*;by_cases k3:x=0
 ·rw[if_pos k3];repeat'((conv=>whnf);first|(apply aI<;>intro hb<;>first|exact absurd hb (by decide)|(exfalso;simp only[Az]at hb<;>omega)|((try rw[hb]);(try simp only[Ad]at hb);(try subst hb)))|(refine eI ?_ ?_;focus (and_intros<;>first|omega|exact rfl|(intro _ hh;cases hh;done)|(simp;done)|decide))|(refine Ac.mk ⟨_,cp,?_⟩;rintro _ _ ⟨rfl,rfl⟩)|(refine Ac.mk ⟨_,hd,?_⟩;rintro _ _ ⟨rfl,rfl⟩)|((try dsimp only);rw[hw]))
  all_goals(try(conv=>whnf))
  all_goals first|(exfalso;omega)|skip
  all_goals(refine Bd.mk ⟨?_,by kernel_rfl⟩ (by kernel_rfl))
  all_goals(try simp only[hs])
  all_goals(try simp only[hs, *,if_true,if_false,Bool.false_eq_true,Bool.true_eq_false,Bool.not_true,Bool.not_false,decide_true,decide_false,not_true_eq_false,not_false_eq_true,ne_eq,reduceIte])
  all_goals(try simp only[F4,Es,I.put,List.replicate_succ,List.replicate_zero,Bx,D.Ae,Bn,Dy,List.map_cons,List.map_nil,List.set_cons_zero,List.set_cons_succ,Cu,Cn,List.map_set,Int.toNat_natCast,hta,htb,hte])
  all_goals(try rfl)
 ·rw[if_neg k3];repeat'((conv=>whnf);first|(apply aI<;>intro hb<;>first|exact absurd hb (by decide)|(exfalso;simp only[Az]at hb<;>omega)|((try rw[hb]);(try simp only[Ad]at hb)))|(refine eI ?_ ?_;focus (and_intros<;>first|exact rfl|(intro _ hh;cases hh;done)|(simp;done)|decide))|(refine Ac.mk ⟨_,cp,?_⟩;rintro _ _ ⟨rfl,rfl⟩)|(refine Ac.mk ⟨_,hd,?_⟩;rintro _ _ ⟨rfl,rfl⟩))
  all_goals(try(conv=>whnf))
  all_goals first|(exfalso;omega)|skip
  all_goals(refine Bd.mk ⟨?_,by kernel_rfl⟩ (by kernel_rfl))
  all_goals(try simp only[hs])
  all_goals(try simp only[hs, *,if_true,if_false,Bool.false_eq_true,Bool.true_eq_false,Bool.not_true,Bool.not_false,decide_true,decide_false,not_true_eq_false,not_false_eq_true,ne_eq,reduceIte])
  all_goals(try simp only[F4,Es,I.put,List.replicate_succ,List.replicate_zero,Bx,D.Ae,Bn,Dy,List.map_cons,List.map_nil,List.set_cons_zero,List.set_cons_succ,Cu,Cn,List.map_set,Int.toNat_natCast,Fm,Qg])
  all_goals(try rfl)
set_option maxHeartbeats 4000000

open Go.Proofs
theorem A7q(a b:Ai):a<b∨a=b∨b<a:=by
 by_cases h:a<b
 ·exact .inl h
 ·by_cases h2:b<a
  ·exact .inr (.inr h2)
  ·exact .inr (.inl (List.le_antisymm (List.not_lt.1 h2) (List.not_lt.1 h)))
theorem Ai0{lt:Nat→Bool}{L:Nat}(mono:∀h h',h≤h'→h'<L→lt h'=true→lt h=true):∀f i j,i≤j→j≤L→j - i≤f→(∀h,h<i→lt h=true)→(∀h,j≤h→h<L→lt h=false)→
 (∀h,h<Lg lt f i j→lt h=true)∧(∀h,Lg lt f i j≤h→h<L→lt h=false)
 |0,i,j,h1,h2,h3,h4,h5=>by
  obtain rfl:i=j:=by omega
  exact⟨h4,h5⟩
 |f+1,i,j,h1,h2,h3,h4,h5=>by
  unfold Lg;split
  ·rename_i Gv;split
   ·rename_i hl;exact Ai0 mono f _ _ (by omega) h2 (by omega) (fun h hh=>mono h ((i+j) / 2) (by omega) (by omega) hl) h5
   ·rename_i hl;refine Ai0 mono f _ _ (by omega) (by omega) (by omega) h4 (fun h hh hL=>?_)
    cases hx:lt h with
    |false=>rfl
    |true=>exact absurd (mono _ _ hh hL hx) hl
  ·obtain rfl:i=j:=by omega
   exact⟨h4,h5⟩
abbrev H5{α:Type}(nm:α→Ai)(l:List α):Prop:=l.Pairwise fun a b=>nm a<nm b
def posOf{α:Type}(nm:α→Ai)(n:Ai):List α→Nat
 | []=>0
 |a::r=>if nm a<n then posOf nm n r+1 else 0
theorem A0e{α:Type}(nm:α→Ai)(n:Ai):∀l:List α,posOf nm n l≤l.length
 | []=>Nat.le_refl _
 |a::r=>by
  unfold posOf;have:=A0e nm n r;split<;>simp<;>omega
theorem A0f{α:Type}(nm:α→Ai)(n:Ai):∀(l:List α) (h:Nat),h<posOf nm n l→K2 nm l n h=true
 | [],h,hh=>by simp[posOf]at hh
 |a::r,h,hh=>by
  unfold posOf at hh;split at hh
  ·rename_i ha;cases h with
   |zero=>simp[K2,ha]
   |succ h=>
    have:=A0f nm n r h (by omega)
    simpa[K2]using this
  ·omega
theorem A0d{α:Type}(nm:α→Ai)(n:Ai):∀(l:List α),posOf nm n l<l.length→K2 nm l n (posOf nm n l)=false
 | [],h=>by simp[posOf]at h
 |a::r,h=>by
  unfold posOf at h ⊢;split
  ·rename_i ha;rw[if_pos ha]at h;have:=A0d nm n r (by simpa using h)
   simpa[K2]using this
  ·rename_i ha;simpa[K2]using ha
theorem Ao4{α:Type}{nm:α→Ai}{l:List α}(hr:H5 nm l)(n:Ai):Ch nm l n=posOf nm n l:=by
 have mono:∀h h',h≤h'→h'<l.length→K2 nm l n h'=true→K2 nm l n h=true:=by
  intro h h' hh hL hx;rcases Nat.lt_or_ge h h' with Bb|Uc
  ·have hp:=List.pairwise_iff_getElem.1 hr h h' (by omega) hL Bb
   unfold K2 at hx ⊢;rw[List.getElem?_eq_getElem hL]at hx;rw[List.getElem?_eq_getElem (by omega:h<l.length)]
   simp only[Option.any_some,decide_eq_true_eq]at hx ⊢;exact List.lt_trans hp hx
  ·obtain rfl:h=h':=by omega
   exact hx
 obtain⟨k1,k2⟩:=Ai0 mono l.length 0 l.length (Nat.zero_le _) (Nat.le_refl _) (Nat.sub_le _ _) (fun h hh=>by omega) (fun h h1 h2=>by omega)
 have hle:=S9 nm l n;have Hz:=A0e nm n l;change (∀h,h<Ch nm l n→_)at k1;change (∀h,Ch nm l n≤h→_)at k2;rcases Nat.lt_trichotomy (Ch nm l n) (posOf nm n l)with h|h|h
 ·have a1:=A0f nm n l _ h;rw[k2 _ (Nat.le_refl _) (by omega)]at a1
  cases a1
 ·exact h
 ·have a1:=k1 _ h;rw[A0d nm n l (by omega)]at a1
  cases a1
theorem Amr{α:Type}{p:α→Bool}:∀(k:Nat) (l:List α),(∀x∈l,p x=false)→findAt p k l= -1
 |_,[],_=>rfl
 |k,a::r,h=>by
  unfold findAt;rw[if_neg (by rw[h a (List.mem_cons_self ..)];simp)]
  exact Amr (k+1) r fun x hx=>h x (List.mem_cons_of_mem _ hx)
theorem Ax6{α:Type}{nm:α→Ai}{n:Ai}:∀{l:List α} (k:Nat),H5 nm l→findAt (fun t=>decide (nm t=n)) k l=if((l[posOf nm n l]?).any fun x=>decide (nm x=n))=true then((k+posOf nm n l:Nat):Int)else -1
 | [],_,_=>by simp[findAt,posOf]
 |a::r,k,h=>by
  obtain⟨h1,h2⟩:=List.pairwise_cons.1 h;unfold findAt posOf;rcases A7q (nm a) n with ha|ha|ha
  ·have Aw:nm a≠n:=by rintro rfl;exact List.lt_irrefl _ ha
   rw[if_neg (by simp[Aw]),if_pos ha,Ax6 (k+1) h2]
   simp only[List.getElem?_cons_succ];split
   ·congr 1;omega
   ·rfl
  ·subst ha;rw[if_pos (by simp),if_neg (List.lt_irrefl _)]
   simp
  ·have Aw:nm a≠n:=by rintro rfl;exact List.lt_irrefl _ ha
   have Ly:¬nm a<n:=fun h=>List.lt_irrefl _ (List.lt_trans h ha)
   rw[if_neg (by simp[Aw]),if_neg Ly]
   simp only[List.getElem?_cons_zero,Option.any_some,decide_eq_true_eq,Aw,if_false];refine Amr _ _ fun x hx=>?_
   have:=List.lt_trans ha (h1 x hx);simp only[decide_eq_false_iff_not];rintro rfl;exact List.lt_irrefl _ this
theorem Axs{α:Type}{nm:α→Ai}{l:List α}(hr:H5 nm l)(n:Ai):Et nm l n=(l[posOf nm n l]?).any fun x=>decide (nm x=n):=by
 unfold Et;rw[Ao4 hr]
theorem Aws{α:Type}{nm:α→Ai}{l:List α}(hr:H5 nm l)(n:Ai):findAt (fun t=>decide (nm t=n)) 0 l=if Et nm l n=true then((Ch nm l n:Nat):Int)else -1:=by
 rw[Ax6 0 hr,Axs hr,Ao4 hr,Nat.zero_add]
theorem A48{α:Type}{nm:α→Ai}{n:Ai}{x:α}:∀{l:List α},H5 nm l→((l[posOf nm n l]?).any fun x=>decide (nm x=n))=false→E8 (fun e=>decide (n<nm e)) x l=Hk (posOf nm n l) x l
 | [],_,_=>rfl
 |a::r,h,hf=>by
  obtain⟨h1,h2⟩:=List.pairwise_cons.1 h;unfold E8;unfold posOf at hf ⊢;rcases A7q (nm a) n with ha|ha|ha
  ·have Ly:¬n<nm a:=fun h=>List.lt_irrefl _ (List.lt_trans h ha)
   rw[if_pos ha]at hf;rw[if_neg (by simpa using Ly),if_pos ha,A48 h2 (by simpa using hf)]
   simp[Hk]
  ·subst ha;rw[if_neg (List.lt_irrefl _)]at hf;simp at hf
  ·have Ly:¬nm a<n:=fun h=>List.lt_irrefl _ (List.lt_trans h ha)
   rw[if_pos (by simpa using ha),if_neg Ly]
   rfl
theorem Aqd{α:Type}{nm:α→Ai}{l:List α}(hr:H5 nm l){n:Ai}(x:α)(hf:Et nm l n=false):E8 (fun e=>decide (n<nm e)) x l=Hk (Ch nm l n) x l:=by
 rw[Ao4 hr];exact A48 hr (by rw[←Axs hr];exact hf)

open Go.Proofs
structure A8.Aeg(r:A8):Prop where
 T:H5 B7.name r.Be
 U:H5 Bc.name r.Ag
 X:H5 Bh.name r.Am
 R:∀u∈r.Ag,H5 Gi u.A2
theorem Qp{α:Type}(p:α→Bool):∀(k:Nat) (l:List α),(l.find? p=none∧findAt p k l= -1)∨∃(j:Nat) (x:α),findAt p k l=((k+j:Nat):Int)∧l[j]?=some x∧l.find? p=some x
 |k,[]=>.inl ⟨rfl,rfl⟩
 |k,a::r=>by
  by_cases h:p a=true
  ·exact .inr ⟨0,a,by simp[findAt,h],rfl,by simp[h]⟩
  ·rcases Qp p (k+1) r with⟨h1,h2⟩|⟨j,x,h1,h2,h3⟩
   ·exact .inl ⟨by simp[h,h1],by simp[findAt,h,h2]⟩
   ·exact .inr ⟨j+1,x,by rw[findAt,if_neg h,h1];congr 1;omega,by simpa using h2,by simp[h,h3]⟩
theorem Bg1(l:List B7)(n:Ai):((Fc l n).2=false∧findAt (fun t=>decide (t.name=n)) 0 l= -1)∨((Fc l n).2=true∧0≤findAt (fun t=>decide (t.name=n)) 0 l):=by
 unfold Fc;rcases Qp (fun t:B7=>decide (t.name=n)) 0 l with⟨h1,h2⟩|⟨j,x,h1,h2,h3⟩
 ·rw[h1,h2];exact .inl ⟨rfl,rfl⟩
 ·rw[h3,h1];exact .inr ⟨rfl,by omega⟩
theorem Bgy(l:List Bh)(n:Ai):((F3 l n).2=false∧findAt (fun t=>decide (t.name=n)) 0 l= -1)∨∃(j:Nat) (x:Bh),(F3 l n)=(x,true)∧findAt (fun t=>decide (t.name=n)) 0 l=(j:Int)∧l[j]?=some x:=by
 unfold F3;rcases Qp (fun t:Bh=>decide (t.name=n)) 0 l with⟨h1,h2⟩|⟨j,x,h1,h2,h3⟩
 ·rw[h1,h2];exact .inl ⟨rfl,rfl⟩
 ·rw[h3,h1];exact .inr ⟨j,x,rfl,by omega,h2⟩
theorem Ao5{nm:Ai→Ai}(hnm:nm=Gi){l:List Ai}(hr:H5 nm l)(n:Ai):Et nm l n=l.any fun e=>decide (e=n):=by
 subst hnm;have h:=Aws hr n;rcases Qp (fun t:Ai=>decide (Gi t=n)) 0 l with⟨h1,h2⟩|⟨j,x,h1,h2,h3⟩
 ·rw[h2]at h;cases hb:Et Gi l n with
  |true=>rw[hb]at h;simp at h
  |false=>
   symm;rw[List.any_eq_false];intro y hy;have:=List.find?_eq_none.1 h1 y hy;simpa using this
 ·rw[h1]at h;cases hb:Et Gi l n with
  |false=>rw[hb]at h;simp at h
  |true=>
   symm;rw[List.any_eq_true];exact⟨x,List.mem_of_getElem? h2,by simpa using List.find?_some h3⟩
theorem A6e{l:List Ai}(hr:H5 Gi l)(n:Ai)(hb:Et Gi l n=true):H6 (Ch Gi l n) l=l.filter fun e=> !decide (e=n):=by
 rw[Axs hr]at hb;rw[Ao4 hr];induction l with
 |nil=>simp[posOf]at hb
 |cons a r ih=>
  obtain⟨h1,h2⟩:=List.pairwise_cons.1 hr;unfold posOf at hb ⊢;by_cases ha:Gi a<n
  ·rw[if_pos ha]at hb ⊢;have Aw:¬a=n:=by rintro rfl;exact List.lt_irrefl _ ha
   have:=ih h2 (by simpa using hb)
   simp only[H6,List.take_succ_cons,List.drop_succ_cons,List.cons_append]at this ⊢;rw[this,List.filter_cons,if_pos (by simp[Aw])]
  ·rw[if_neg ha]at hb ⊢;simp only[List.getElem?_cons_zero,Option.any_some,decide_eq_true_eq]at hb;obtain rfl:a=n:=hb;rw[List.filter_cons,if_neg (by simp)]
   simp only[H6,List.take_zero,List.nil_append,Nat.zero_add,List.drop_succ_cons,List.drop_zero];symm;rw[List.filter_eq_self];intro x hx;have h3:a<x:=h1 x hx;simp only[Bool.not_eq_true',decide_eq_false_iff_not];rintro rfl;exact List.lt_irrefl _ h3
theorem Bhq(r:A8)(h:r.Aeg)(c:Ds):DoP r c=doM r c:=by
 unfold DoP doM;split
 ·rfl
 split
 ·rfl
 rename_i k1 k2;have ht:=fun n=>Aws h.T n
 have hu:=fun n=>Aws h.U n
 have hx:=fun n=>Aws h.X n
 have gt:=Bg1 r.Be c.other;have gr:=Bgy r.Am c.other;rcases(by omega:c.kind=4∨c.kind=5∨c.kind=6∨c.kind=7∨c.kind=8∨c.kind=9∨c.kind=10∨c.kind=11∨c.kind=12∨c.kind=13∨c.kind=14)with hk|hk|hk|hk|hk|hk|hk|hk|hk|hk|hk
 ·simp only[Rs,hk,Int.reduceEq,true_or,if_true];simp only[M5,Mb,hk,ht,true_and,Int.reduceEq,if_true];cases hn:D2 c.name<;>cases h1:Dq c.bytes<;>cases h2:Dq c.keys<;>cases hb:Et B7.name r.Be c.name<;>by_cases h8:8≤(r.Be.length:Int)<;>simp[h8];rw[Aqd h.T _ hb]
 ·simp only[Rs,hk,Int.reduceEq,or_true,if_true,if_false];simp only[M5,L8,hk,ht,false_and,Int.reduceEq,if_true,if_false];cases h1:Dq c.bytes<;>cases h2:Dq c.keys<;>cases hb:Et B7.name r.Be c.name<;>simp
 ·have w1:(64<(c.word.length:Int))=¬c.word.length≤64:=by rw[eq_iff_iff];omega
  have w2:(64<(c.Bp.length:Int))=¬c.Bp.length≤64:=by rw[eq_iff_iff];omega
  simp only[Rs,hk,Int.reduceEq,or_true,true_or,or_self,if_true,if_false];simp only[Fz,T7,hk,hu,w1,w2,Int.reduceEq,if_true,if_false];rcases gt with⟨g1,g2⟩|⟨g1,g2⟩<;>rw[g1]<;>cases hn:D2 c.name<;>by_cases l1:c.word.length≤64<;>by_cases l2:c.Bp.length≤64<;>cases hb:Et Bc.name r.Ag c.name<;>by_cases h8:16≤(r.Ag.length:Int)<;>simp[l1,l2,h8,g2,Int.not_lt.2]
  all_goals exact(Aqd h.U _ hb).symm
 ·have w1:(64<(c.word.length:Int))=¬c.word.length≤64:=by rw[eq_iff_iff];omega
  have w2:(64<(c.Bp.length:Int))=¬c.Bp.length≤64:=by rw[eq_iff_iff];omega
  simp only[Rs,hk,Int.reduceEq,or_true,true_or,or_self,if_true,if_false];simp only[Fz,Q6,hk,hu,w1,w2,Int.reduceEq,if_true,if_false];by_cases l1:c.word.length≤64<;>by_cases l2:c.Bp.length≤64<;>cases hb:Et Bc.name r.Ag c.name<;>simp[l1,l2]
  obtain⟨x,hx, -⟩:=Lv hb;rw[hx];simp
 ·simp only[Rs,hk,Int.reduceEq,or_true,true_or,or_self,if_true,if_false];simp only[Fz,L3,hk,hu,Int.reduceEq,if_true,if_false,Aw2];cases hb:Et Bc.name r.Ag c.name<;>by_cases hr:c.name=[114,111,111,116]<;>simp[hr,H6]
 ·simp only[Rs,hk,Int.reduceEq,or_true,true_or,or_self,if_true,if_false];simp only[D5,Tz,hk,hx,Int.reduceEq,if_true,if_false];rcases gt with⟨g1,g2⟩|⟨g1,g2⟩<;>rw[g1]<;>cases hn:D2 c.name<;>cases hb:Et Bh.name r.Am c.name<;>by_cases h8:16≤(r.Am.length:Int)<;>simp[h8,g2,Int.not_lt.2]
  all_goals exact(Aqd h.X _ hb).symm
 ·simp only[Rs,hk,Int.reduceEq,or_true,true_or,or_self,if_true,if_false];simp only[D5,Qo,hk,hx,false_and,Int.reduceEq,if_true,if_false];cases hb:Et Bh.name r.Am c.name<;>simp[H6]
 ·simp only[Rs,hk,Int.reduceEq,or_true,true_or,or_self,if_true,if_false];simp only[D5,Lx,hk,hx,false_and,true_and,Int.reduceEq,if_true,if_false];cases hg:(decide (Dk c.Bz.sp)&&(c.Bz.r||c.Bz.w))<;>cases hb:Et Bh.name r.Am c.name<;>simp;obtain⟨x,hx, -⟩:=Lv hb;rw[hx];dsimp only;have hnn:¬((Ch Bh.name r.Am c.name:Nat):Int)<0:=by omega
  by_cases hm:c.Bz∈x.A4<;>by_cases h8:8≤(x.A4.length:Int)<;>simp[h8,hnn,hm]
 ·simp only[Rs,hk,Int.reduceEq,or_true,true_or,or_self,if_true,if_false];simp only[D5,Hu,hk,hx,false_and,true_and,Int.reduceEq,if_true,if_false];cases hg:decide (Dk c.Bz.sp)<;>cases hb:Et Bh.name r.Am c.name<;>simp;obtain⟨x,hx, -⟩:=Lv hb;rw[hx];dsimp only;by_cases h8:8<((Wr x.A4 c.Bz.sp).length:Int)<;>simp[h8]
 ·simp only[Rs,hk,Int.reduceEq,or_true,true_or,or_self,if_true,if_false];simp only[J7,Jv,hk,hu,hx,false_and,true_and,Int.reduceEq,if_true,if_false];cases hb:Et Bc.name r.Ag c.name<;>simp;obtain⟨u,hux, -⟩:=Lv hb;rw[hux];dsimp only;have hru:=h.R u (List.mem_of_getElem? hux);rw[←hx c.other];simp only[Ao5 rfl hru c.other];rcases gr with⟨g1,g2⟩|⟨j,x,g1,g2,g3⟩
  ·rw[g1,g2];simp
  ·rw[g1,g2];simp only[Int.toNat_natCast,g3];have Rj:=fun hm:¬c.other∈u.A2=>Aqd hru (n:=c.other) c.other (by rw[Ao5 rfl hru,List.any_eq_false];intro y hy;simp only[decide_eq_true_eq];rintro rfl;exact hm hy)
   have hnn:¬((Ch Bc.name r.Ag c.name:Nat):Int)<0:=by omega
   have hnj:¬(j:Int)<0:=by omega
   by_cases ht:x.Du=u.Du<;>by_cases hm:c.other∈u.A2<;>by_cases h8:4≤(u.A2.length:Int)<;>simp[ht,h8,hnn,hnj,hm]
   all_goals rw[Rj hm]
 ·simp only[Rs,hk,Int.reduceEq,or_true,true_or,or_self,if_true,if_false];simp only[J7,Jv,hk,hu,hx,false_and,true_and,Int.reduceEq,if_true,if_false];cases hb:Et Bc.name r.Ag c.name<;>simp;obtain⟨u,hux, -⟩:=Lv hb;rw[hux];dsimp only;have hru:=h.R u (List.mem_of_getElem? hux);have hdf:=A6e hru c.other;rw[Ao5 rfl hru c.other]at hdf;simp only[Ao5 rfl hru c.other];have hnn:¬((Ch Bc.name r.Ag c.name:Nat):Int)<0:=by omega
  cases haa:(u.A2.any fun e=>decide (e=c.other))with
  |false=>
   simp only[haa];simp[hnn];intro hm;have:=List.any_eq_false.1 haa _ hm;simp at this
  |true=>
   have:=hdf haa;simp only[haa,this];simp[hnn];obtain⟨y,hy,he⟩:=List.any_eq_true.1 haa;simp only[decide_eq_true_eq]at he;subst he;exact hy

open Go.Proofs
structure A8.Fit(r:A8):Prop where
 hV:1≤r.rev∧r.rev≤1099511627776
 hT:r.Be.length≤8
 hU:r.Ag.length≤16
 hX:r.Am.length≤16
 hR:∀u∈r.Ag,u.A2.length≤4
 hG:∀x∈r.Am,x.A4.length≤8
theorem A8.Fit.small{r:A8}(h:r.Fit):r.Small:=
 ⟨by have:=h.hT;omega,by have:=h.hU;omega,by have:=h.hX;omega,fun u hu=>by have:=h.hR u hu;omega,fun x hx=>by have:=h.hG x hx;omega⟩
theorem Gn{α:Type}{gt:α→Bool}{x y:α}:∀{l:List α},y∈E8 gt x l↔y=x∨y∈l
 | []=>by simp[E8]
 |a::r=>by
  unfold E8;split
  ·simp
  ·simp only[List.mem_cons,Gn (l:=r)];constructor
   ·rintro(h|h|h)<;>simp[h]
   ·rintro(h|h|h)<;>simp[h]
theorem Jy{α:Type}{l:List α}{j:Nat}{x y:α}(h:y∈l.set j x):y=x∨y∈l:=(List.mem_or_eq_of_mem_set h).symm
theorem Bgt{r:A8}(hf:r.Fit)(c:Ds):(doM r c).1.Fit:=by
 obtain⟨hV,hT,hU,hX,hR,hG⟩:=hf;unfold doM;split
 ·exact⟨hV,hT,hU,hX,hR,hG⟩
 split
 ·exact⟨hV,hT,hU,hX,hR,hG⟩
 rename_i h1 h2;have hV':1≤r.rev+1∧r.rev+1≤1099511627776:=by omega
 split
 ·unfold Mb;repeat' split
  all_goals first|exact⟨hV,hT,hU,hX,hR,hG⟩|skip
  refine⟨hV',?_,hU,hX,hR,hG⟩;rw[Px];omega
 split
 ·unfold L8;repeat' split
  all_goals first|exact⟨hV,hT,hU,hX,hR,hG⟩|skip
  exact⟨hV',by simpa using hT,hU,hX,hR,hG⟩
 split
 ·unfold T7;repeat' split
  all_goals first|exact⟨hV,hT,hU,hX,hR,hG⟩|skip
  refine⟨hV',hT,?_,hX,?_,hG⟩
  ·rw[Px];omega
  ·intro u hu;rcases Gn.1 hu with rfl|hu
   ·simp
   ·exact hR u hu
 split
 ·unfold Q6;repeat' split
  all_goals first|exact⟨hV,hT,hU,hX,hR,hG⟩|skip
  rename_i u hu;refine⟨hV',hT,by simpa using hU,hX,?_,hG⟩
  intro v hv;rcases Jy hv with rfl|hv
  ·exact hR u (List.mem_of_getElem? hu)
  ·exact hR v hv
 split
 ·unfold L3;repeat' split
  all_goals first|exact⟨hV,hT,hU,hX,hR,hG⟩|skip
  refine⟨hV',hT,?_,hX,?_,hG⟩
  ·simp;omega
  ·intro v hv;rcases List.mem_append.1 hv with hv|hv
   ·exact hR v (List.mem_of_mem_take hv)
   ·exact hR v (List.mem_of_mem_drop hv)
 split
 ·unfold Tz;repeat' split
  all_goals first|exact⟨hV,hT,hU,hX,hR,hG⟩|skip
  refine⟨hV',hT,hU,?_,hR,?_⟩
  ·rw[Px];omega
  ·intro u hu;rcases Gn.1 hu with rfl|hu
   ·simp
   ·exact hG u hu
 split
 ·unfold Qo;repeat' split
  all_goals first|exact⟨hV,hT,hU,hX,hR,hG⟩|skip
  refine⟨hV',hT,by simpa using hU,?_,?_,?_⟩
  ·simp;omega
  ·intro v hv;obtain⟨u,hu,rfl⟩:=List.mem_map.1 hv;exact Nat.le_trans (List.length_filter_le _ _) (hR u hu)
  ·intro v hv;rcases List.mem_append.1 hv with hv|hv
   ·exact hG v (List.mem_of_mem_take hv)
   ·exact hG v (List.mem_of_mem_drop hv)
 split
 ·unfold Lx;repeat' split
  all_goals first|exact⟨hV,hT,hU,hX,hR,hG⟩|skip
  refine⟨hV',hT,hU,by simpa using hX,hR,?_⟩
  intro v hv;rcases Jy hv with rfl|hv
  ·simp;omega
  ·exact hG v hv
 split
 ·unfold Hu;repeat' split
  all_goals first|exact⟨hV,hT,hU,hX,hR,hG⟩|skip
  refine⟨hV',hT,hU,by simpa using hX,hR,?_⟩
  intro v hv;rcases Jy hv with rfl|hv
  ·dsimp only;omega
  ·exact hG v hv
 ·unfold Jv;repeat' split
  all_goals first|exact⟨hV,hT,hU,hX,hR,hG⟩|skip
  ·rename_i u hu _ _;refine⟨hV',hT,by simpa using hU,hX,?_,hG⟩
   intro v hv;rcases Jy hv with rfl|hv
   ·exact Nat.le_trans (List.length_filter_le _ _) (hR u (List.mem_of_getElem? hu))
   ·exact hR v hv
  ·refine⟨hV',hT,by simpa using hU,hX,?_,hG⟩
   intro v hv;rcases Jy hv with rfl|hv
   ·rw[Px];omega
   ·exact hR v hv
end Go.Ab
