/- Lemmas -/
import Derived.Test.YtgcccllpegilnaaGreatDoorN9
set_option linter.unusedVariables false
set_option linter.unusedSimpArgs false
set_option maxRecDepth 100000
set_option maxHeartbeats 40000000
namespace Go.Ab
open Go.Proofs
def Gs (s:List Gra):SV:=match s with
 | []=>.vec Ep 4 []
 |a::t=>.own [] (.vec Ep 4 (((a::t).map Gra.toI).map D.it))
def gsp (sp:Sp) (l:List Sp):Nat→Sp
 |0=>sp
 |n+1=>(l[n]?).getD sp
theorem A19 (r:Roll) (hs:r.Small) (c:Cmd) (hk:c.kind=12):Fn Tryz.prog Rp [.own [] (.ptr r.toD),.v c.toI] (Is (.v (.int .i64 (D5 r c).2)) [.own [] (.ptr (Lp r c)),.no]):=by
 refine R6 ?_ (by simp)
 have hs':=hs
 obtain⟨b1,b2,b3,b4,b5⟩:=hs
 have hf:=T3 r.rols c.name (by omega)
 have hU:Lp r c=(D5 r c).1.toD:=by simp[Lp,hk]
 rw[hU]
 have hg:=Rz c.grant.sp
 cases hgr:decide (Dk c.grant.sp)with
 |false=>
  rw[hgr]at hg
  rw[show D5 r c=(r,1)by simp only[D5,hk,hgr,Int.reduceEq,if_false,if_true,and_self,false_and]]
  repeat'((conv=>whnf);first|(apply aI<;>intro hb<;>first|exact absurd hb (by decide)|(exfalso;simp only[Az]at hb<;>omega)|((try rw[hb]);(try simp only[Ad]at hb)))|(refine eI ?_ ?_;focus (and_intros<;>first|omega|exact rfl|(intro _ hh;cases hh;done)|(simp;done)|decide))|((with_reducible apply Drawn.by0);(focus kernel_rfl);intro hfact;(try simp only[dRS]at hfact))|((simp only[show D.at (0::[].append [3]) (D.ptr r.toD)=some (D.vec B2 3 (r.rols.map Rol.toD))from rfl,Ge,show D.at [0] (D.ptr r.toD)=some r.toD from rfl,Dr]))|(refine CallIs.mk ⟨_,_,hf,?_⟩)|(refine CallWp.mk ⟨_,hg,?_⟩;rintro _ _ ⟨rfl,rfl⟩))
  all_goals(try(conv=>whnf))
  all_goals(apply dK<;>kernel_rfl)
 |true=>
 rw[hgr]at hg
 cases hb:Et Rol.name r.rols c.name with
 |false=>
  rw[hb]at hf
  rw[show D5 r c=(r,16)by simp only[D5,hk,hgr,hb,Int.reduceEq,if_false,if_true,and_false,false_and,Bool.true_eq_false]]
  repeat'((conv=>whnf);first|(apply aI<;>intro hb<;>first|exact absurd hb (by decide)|(exfalso;simp only[Az]at hb<;>omega)|((try rw[hb]);(try simp only[Ad]at hb)))|(refine eI ?_ ?_;focus (and_intros<;>first|omega|exact rfl|(intro _ hh;cases hh;done)|(simp;done)|decide))|((with_reducible apply Drawn.by0);(focus kernel_rfl);intro hfact;(try simp only[dRS]at hfact))|((simp only[show D.at (0::[].append [3]) (D.ptr r.toD)=some (D.vec B2 3 (r.rols.map Rol.toD))from rfl,Ge,show D.at [0] (D.ptr r.toD)=some r.toD from rfl,Dr]))|(refine CallIs.mk ⟨_,_,hf,?_⟩)|(refine CallWp.mk ⟨_,hg,?_⟩;rintro _ _ ⟨rfl,rfl⟩))
  all_goals(try(conv=>whnf))
  all_goals(apply dK<;>kernel_rfl)
 |true=>
  rw[hb]at hf
  obtain⟨x,hx, -⟩:=Lv hb
  have hlt:Ch Rol.name r.rols c.name<r.rols.length:=(List.getElem?_eq_some_iff.1 hx).1
  have hxl:=b5 x (List.mem_of_getElem? hx)
  have hP:D5 r c=(if 8<((revM x.grants c.grant.sp).length:Int)then(r,17)
   else({r with rols:=r.rols.set (Ch Rol.name r.rols c.name) {x with grants:=revM x.grants c.grant.sp}},0)):=by
   simp only[D5,hk,hgr,hb,hx,Int.reduceEq,if_false,if_true,and_false,false_and,Bool.true_eq_false]
  rw[hP]
  clear hP hU
  have hxd:(r.rols.map Rol.toD)[Ch Rol.name r.rols c.name]?=some x.toD:=by simp[hx]
  repeat'((conv=>whnf);first|(apply aI<;>intro hb<;>first|exact absurd hb (by decide)|(exfalso;simp only[Az]at hb<;>omega)|((try rw[hb]);(try simp only[Ad]at hb)))|(refine eI ?_ ?_;focus (and_intros<;>first|omega|exact rfl|(intro _ hh;cases hh;done)|(simp only[Az];omega)|(simp;done)|decide))|(intro hfact)|((with_reducible apply Drawn.by0);(focus kernel_rfl);intro hfact;(try simp only[dRS]at hfact))|((simp only[show D.at (0::[].append [3]) (D.ptr r.toD)=some (D.vec B2 3 (r.rols.map Rol.toD))from rfl,Ge,show D.at [0] (D.ptr r.toD)=some r.toD from rfl,Dr]))|(refine CallIs.mk ⟨_,_,hf,?_⟩)|(refine CallWp.mk ⟨_,hg,?_⟩;rintro _ _ ⟨rfl,rfl⟩)|((((first|with_reducible apply D9|with_reducible apply X8);(focus rfl)));(focus (simp only[D.at,D.put,D.kid,D.setKid,List.cons_append,List.nil_append,List.append,List.getElem?_cons_zero,List.getElem?_cons_succ,Int.toNat_natCast,List.getElem?_set_self',Option.map_eq_map,Option.map_some,List.set_cons_zero,List.set_cons_succ,List.set_set,Function.const_apply,List.map_cons,List.map_nil,mkSt,Cn,D.toI,toIs,Bn,List.getElem?_map,List.length_map,List.length_set,hxd]<;>exact rfl));(try(focus exact rfl))))
  all_goals(try(conv=>whnf))
  have hAns:runL (Ph (Hb c.grant.sp)) X9 x.grants []=revM x.grants c.grant.sp:=Uv _ _ _
  have hm:x.grants.length≤maxLen:=by simp only[maxLen];omega
  refine each x.grants _ _ _ (fun k s=>[(11,Gs s),(162,.v (.int .i64 k))]) (fun k s=>s.length≤5*k) [] (by kernel_rfl) (by simp) hAns ?_ ?_<;>clear hAns
  ·rintro k s e he hk hi hA
   try dsimp only at hi hA ⊢
   have hrl:=Va e.sp c.grant.sp
   have hol:=Aid c.grant.sp s e
   have m1:=A8v [e.sp] c.grant.sp (by simp)
   rw[←Aut]at m1
   have hge:((x.grants.map Gra.toI).map D.it)[k]?=some (.it e.toI):=by simp[he]
   rcases s with _|⟨a,t⟩
   ·simp only[Gs]
    repeat'((conv=>whnf);first|(apply aI<;>intro hb<;>first|(exfalso;simp only[Az]at hb<;>omega)|((try rw[hb]);(try simp only[Ad]at hb)))|(refine eI ?_ ?_;focus (and_intros<;>first|omega|exact rfl|(intro _ hh;cases hh;done)|exact F5 rfl|(simp only[Az];omega)|(simp;done)|decide))|(intro hfact)|(refine CallWp.mk ⟨_,m1,?_⟩;rintro _ _ ⟨rfl,rfl⟩)|((((first|with_reducible apply D9|with_reducible apply X8);(focus rfl)));(focus (simp only[D.at,D.put,D.kid,D.setKid,List.cons_append,List.nil_append,List.append,List.getElem?_cons_zero,List.getElem?_cons_succ,Int.toNat_natCast,List.getElem?_set_self',Option.map_eq_map,Option.map_some,List.set_cons_zero,List.set_cons_succ,List.set_set,Function.const_apply,List.map_cons,List.map_nil,mkSt,Cn,D.toI,toIs,Bn,List.getElem?_map,List.length_map,List.length_set,hxd,hge]<;>exact rfl));(try(focus exact rfl))))
    all_goals(try(conv=>whnf))
    have hA2:runL (Ph (addG e)) X9 (Lc [e.sp] c.grant.sp) []=Hb c.grant.sp [] e:=Uv _ _ _
    obtain⟨l2,hl2⟩:∃l2,l2=Lc [e.sp] c.grant.sp:=⟨_,rfl⟩
    rw[←hl2]at hA2 hrl ⊢
    refine each l2 _ _ _ (fun k' s'=>[(11,Gs s'),(13,.box (.one (.i (Gra.toI ⟨gsp e.sp l2 k',e.r,e.w⟩)))),(174,.v (.int .i64 k'))]) (fun k' s'=>s'.length≤(([]:List Gra):List Gra).length+k') [] (by kernel_rfl) (by simp) hA2 ?_ ?_<;>clear hA2
    ·clear hA
     rintro k' s' e' he' hk' hi' hA
     try dsimp only at hi' hA ⊢
     have hm2:l2.length≤maxLen:=by simp only[maxLen];omega
     have hgn:gsp e.sp l2 (k'+1)=e':=by simp only[gsp,he',Option.getD_some]
     have hgc:=Q2 s' ⟨e',e.r,e.w⟩ (by omega)
     generalize gsp e.sp l2 k'=gk at*
     rcases s' with _|⟨b,q⟩
     ·simp only[Gs]
      repeat'((conv=>whnf);first|(apply aI<;>intro hb<;>first|(exfalso;simp only[Az]at hb<;>omega)|((try rw[hb]);(try simp only[Ad]at hb)))|(refine eI ?_ ?_;focus (and_intros<;>first|omega|exact rfl|exact F5 rfl|(simp only[Az];omega)|(simp;done)))|((try dsimp only);first|rw[Av he']|rw[An he']|rw[Ap he'])|(refine CallWp.mk ⟨_,hgc,?_⟩;rintro _ _ ⟨rfl,rfl⟩))
      all_goals(try(conv=>whnf))
      all_goals(refine RoundE.by (addG e [] e') ?_ ?_ hA;rotate_left;(have h1:=M3 e [] e';have h2:=hi';(try dsimp only at h2 ⊢);simp only[List.length_cons,List.length_nil]at h1 h2 ⊢;omega))
      all_goals(rw[Ak hk' hm2,hgn];unfold addG;rename_i hb;rw[hb];simp only[if_true,Bool.false_eq_true,if_false,Gs,List.nil_append,List.cons_append,List.map_append,List.map_cons,List.map_nil])
      all_goals(show norm _ _=upd _ _;kernel_rfl)
     ·have hq:q.length+1≤5005:=by
       have h2:=hi'
       have h3:=hi
       simp only[List.length_cons,List.length_nil]at h2 h3
       omega
      simp only[Gs]
      repeat'((conv=>whnf);first|(apply aI<;>intro hb<;>first|(exfalso;simp only[Az]at hb<;>omega)|((try rw[hb]);(try simp only[Ad]at hb)))|(refine eI ?_ ?_;focus (and_intros<;>first|omega|exact rfl|exact F5 rfl|(simp only[Az];omega)|(simp;done)))|((simp only[show D.at [] (D.vec Ep 4 (List.map D.it (List.map Gra.toI (b::q))))=some (D.vec Ep 4 (List.map D.it (List.map Gra.toI (b::q))))from rfl,D.toI,Bn]))|((try dsimp only);first|rw[Av he']|rw[An he']|rw[Ap he'])|(refine CallWp.mk ⟨_,hgc,?_⟩;rintro _ _ ⟨rfl,rfl⟩))
      all_goals(try(conv=>whnf))
      all_goals(refine RoundE.by (addG e (b::q) e') ?_ ?_ hA;rotate_left;(have h1:=M3 e (b::q) e';have h2:=hi';(try dsimp only at h2 ⊢);simp only[List.length_cons,List.length_nil]at h1 h2 ⊢;omega))
      all_goals(rw[Ak hk' hm2,hgn];unfold addG;rename_i hb;rw[hb];simp only[if_true,Bool.false_eq_true,if_false,Gs,List.nil_append,List.cons_append,List.map_append,List.map_cons,List.map_nil])
      all_goals(show norm _ _=upd _ _;kernel_rfl)
    ·rintro s' k' rfl hi' hA'
     try dsimp only at hi' hA' ⊢
     obtain rfl:s'=Hb c.grant.sp [] e:=hA'
     obtain⟨V,hV⟩:∃V,V=Hb c.grant.sp [] e:=⟨_,rfl⟩
     rw[←hV]
     rcases V with _|⟨b,q⟩
     ·simp only[Gs]
      repeat'((conv=>whnf);(apply aI<;>intro hb<;>first|(exfalso;simp only[Az]at hb<;>omega)|((try rw[hb]);(try simp only[Ad]at hb))))
      all_goals(try(conv=>whnf))
      refine RoundE.by (Hb c.grant.sp [] e) ?_ (Nat.le_trans hol (by have h2:=hi;simp only[List.length_cons,List.length_nil]at h2 ⊢;omega)) hA
      rw[Ak hk hm, ←hV]
      simp only[Gs]
      show norm _ _=upd _ _
      kernel_rfl
     ·simp only[Gs]
      repeat'((conv=>whnf);(apply aI<;>intro hb<;>first|(exfalso;simp only[Az]at hb<;>omega)|((try rw[hb]);(try simp only[Ad]at hb))))
      all_goals(try(conv=>whnf))
      refine RoundE.by (Hb c.grant.sp [] e) ?_ (Nat.le_trans hol (by have h2:=hi;simp only[List.length_cons,List.length_nil]at h2 ⊢;omega)) hA
      rw[Ak hk hm, ←hV]
      simp only[Gs]
      show norm _ _=upd _ _
      kernel_rfl
   ·simp only[Gs]
    repeat'((conv=>whnf);first|(apply aI<;>intro hb<;>first|(exfalso;simp only[Az]at hb<;>omega)|((try rw[hb]);(try simp only[Ad]at hb)))|(refine eI ?_ ?_;focus (and_intros<;>first|omega|exact rfl|(intro _ hh;cases hh;done)|exact F5 rfl|(simp only[Az];omega)|(simp;done)|decide))|(intro hfact)|(refine CallWp.mk ⟨_,m1,?_⟩;rintro _ _ ⟨rfl,rfl⟩)|((((first|with_reducible apply D9|with_reducible apply X8);(focus rfl)));(focus (simp only[D.at,D.put,D.kid,D.setKid,List.cons_append,List.nil_append,List.append,List.getElem?_cons_zero,List.getElem?_cons_succ,Int.toNat_natCast,List.getElem?_set_self',Option.map_eq_map,Option.map_some,List.set_cons_zero,List.set_cons_succ,List.set_set,Function.const_apply,List.map_cons,List.map_nil,mkSt,Cn,D.toI,toIs,Bn,List.getElem?_map,List.length_map,List.length_set,hxd,hge]<;>exact rfl));(try(focus exact rfl))))
    all_goals(try(conv=>whnf))
    have hA2:runL (Ph (addG e)) X9 (Lc [e.sp] c.grant.sp) (a::t)=Hb c.grant.sp (a::t) e:=Uv _ _ _
    obtain⟨l2,hl2⟩:∃l2,l2=Lc [e.sp] c.grant.sp:=⟨_,rfl⟩
    rw[←hl2]at hA2 hrl ⊢
    refine each l2 _ _ _ (fun k' s'=>[(11,Gs s'),(13,.box (.one (.i (Gra.toI ⟨gsp e.sp l2 k',e.r,e.w⟩)))),(174,.v (.int .i64 k'))]) (fun k' s'=>s'.length≤((a::t):List Gra).length+k') (a::t) (by kernel_rfl) (by simp) hA2 ?_ ?_<;>clear hA2
    ·clear hA
     rintro k' s' e' he' hk' hi' hA
     try dsimp only at hi' hA ⊢
     have hm2:l2.length≤maxLen:=by simp only[maxLen];omega
     have hgn:gsp e.sp l2 (k'+1)=e':=by simp only[gsp,he',Option.getD_some]
     have hgc:=Q2 s' ⟨e',e.r,e.w⟩ (by omega)
     generalize gsp e.sp l2 k'=gk at*
     rcases s' with _|⟨b,q⟩
     ·simp only[Gs]
      repeat'((conv=>whnf);first|(apply aI<;>intro hb<;>first|(exfalso;simp only[Az]at hb<;>omega)|((try rw[hb]);(try simp only[Ad]at hb)))|(refine eI ?_ ?_;focus (and_intros<;>first|omega|exact rfl|exact F5 rfl|(simp only[Az];omega)|(simp;done)))|((try dsimp only);first|rw[Av he']|rw[An he']|rw[Ap he'])|(refine CallWp.mk ⟨_,hgc,?_⟩;rintro _ _ ⟨rfl,rfl⟩))
      all_goals(try(conv=>whnf))
      all_goals(refine RoundE.by (addG e [] e') ?_ ?_ hA;rotate_left;(have h1:=M3 e [] e';have h2:=hi';(try dsimp only at h2 ⊢);simp only[List.length_cons,List.length_nil]at h1 h2 ⊢;omega))
      all_goals(rw[Ak hk' hm2,hgn];unfold addG;rename_i hb;rw[hb];simp only[if_true,Bool.false_eq_true,if_false,Gs,List.nil_append,List.cons_append,List.map_append,List.map_cons,List.map_nil])
      all_goals(show norm _ _=upd _ _;kernel_rfl)
     ·have hq:q.length+1≤5005:=by
       have h2:=hi'
       have h3:=hi
       simp only[List.length_cons,List.length_nil]at h2 h3
       omega
      simp only[Gs]
      repeat'((conv=>whnf);first|(apply aI<;>intro hb<;>first|(exfalso;simp only[Az]at hb<;>omega)|((try rw[hb]);(try simp only[Ad]at hb)))|(refine eI ?_ ?_;focus (and_intros<;>first|omega|exact rfl|exact F5 rfl|(simp only[Az];omega)|(simp;done)))|((simp only[show D.at [] (D.vec Ep 4 (List.map D.it (List.map Gra.toI (b::q))))=some (D.vec Ep 4 (List.map D.it (List.map Gra.toI (b::q))))from rfl,D.toI,Bn]))|((try dsimp only);first|rw[Av he']|rw[An he']|rw[Ap he'])|(refine CallWp.mk ⟨_,hgc,?_⟩;rintro _ _ ⟨rfl,rfl⟩))
      all_goals(try(conv=>whnf))
      all_goals(refine RoundE.by (addG e (b::q) e') ?_ ?_ hA;rotate_left;(have h1:=M3 e (b::q) e';have h2:=hi';(try dsimp only at h2 ⊢);simp only[List.length_cons,List.length_nil]at h1 h2 ⊢;omega))
      all_goals(rw[Ak hk' hm2,hgn];unfold addG;rename_i hb;rw[hb];simp only[if_true,Bool.false_eq_true,if_false,Gs,List.nil_append,List.cons_append,List.map_append,List.map_cons,List.map_nil])
      all_goals(show norm _ _=upd _ _;kernel_rfl)
    ·rintro s' k' rfl hi' hA'
     try dsimp only at hi' hA' ⊢
     obtain rfl:s'=Hb c.grant.sp (a::t) e:=hA'
     obtain⟨V,hV⟩:∃V,V=Hb c.grant.sp (a::t) e:=⟨_,rfl⟩
     rw[←hV]
     rcases V with _|⟨b,q⟩
     ·simp only[Gs]
      repeat'((conv=>whnf);(apply aI<;>intro hb<;>first|(exfalso;simp only[Az]at hb<;>omega)|((try rw[hb]);(try simp only[Ad]at hb))))
      all_goals(try(conv=>whnf))
      refine RoundE.by (Hb c.grant.sp (a::t) e) ?_ (Nat.le_trans hol (by have h2:=hi;simp only[List.length_cons,List.length_nil]at h2 ⊢;omega)) hA
      rw[Ak hk hm, ←hV]
      simp only[Gs]
      show norm _ _=upd _ _
      kernel_rfl
     ·simp only[Gs]
      repeat'((conv=>whnf);(apply aI<;>intro hb<;>first|(exfalso;simp only[Az]at hb<;>omega)|((try rw[hb]);(try simp only[Ad]at hb))))
      all_goals(try(conv=>whnf))
      refine RoundE.by (Hb c.grant.sp (a::t) e) ?_ (Nat.le_trans hol (by have h2:=hi;simp only[List.length_cons,List.length_nil]at h2 ⊢;omega)) hA
      rw[Ak hk hm, ←hV]
      simp only[Gs]
      show norm _ _=upd _ _
      kernel_rfl
  ·rintro s k rfl hi hA
   try dsimp only at hi hA ⊢
   obtain rfl:s=revM x.grants c.grant.sp:=hA
   obtain⟨V,hV⟩:∃V,V=revM x.grants c.grant.sp:=⟨_,rfl⟩
   rw[←hV]
   have hset:(r.rols.set (Ch Rol.name r.rols c.name) {x with grants:=V}).map Rol.toD=(r.rols.map Rol.toD).set (Ch Rol.name r.rols c.name) (Rol.toD {x with grants:=V}):=by simp[List.map_set]
   have hD:Roll.toD {r with rols:=r.rols.set (Ch Rol.name r.rols c.name) {x with grants:=V}}= .st [.it (.int .i64 r.rev),.vec Cc 3 ((r.tens.map Ten.toI).map D.it),.vec B3 5 (r.usrs.map Usr.toD),.vec B2 3 ((r.rols.map Rol.toD).set (Ch Rol.name r.rols c.name) (.st [.it (.str x.name),.it (.str x.ten),.vec Ep 4 ((V.map Gra.toI).map D.it)]))]:=by
    show D.st [_,_,_,D.vec _ _ (List.map _ (r.rols.set _ _))]=_
    rw[hset]
   by_cases h8:8<(V.length:Int)
   ·rw[if_pos h8]
    rcases V with _|⟨a,t⟩
    ·simp at h8
    ·simp only[Gs]
     repeat'((conv=>whnf);first|(apply aI<;>intro hb<;>first|(exfalso;simp only[Az]at hb<;>omega)|((try rw[hb]);(try simp only[Ad]at hb)))|(refine eI ?_ ?_;focus (and_intros<;>first|omega|exact rfl|(simp;done)))|(intro hfact)|((first|with_reducible apply Ahs|((with_reducible apply D9);(focus rfl)));(focus (simp only[D.at,D.put,D.kid,D.setKid,List.cons_append,List.nil_append,List.append,List.getElem?_cons_zero,List.getElem?_cons_succ,Int.toNat_natCast,List.getElem?_set_self',Option.map_eq_map,Option.map_some,List.set_cons_zero,List.set_cons_succ,List.set_set,Function.const_apply,List.map_cons,List.map_nil,mkSt,Cn,D.toI,toIs,Bn,List.getElem?_map,List.length_map,List.length_set,hxd]<;>exact rfl));(try(focus exact rfl))))
     all_goals(try(conv=>whnf))
     all_goals first|(exfalso;simp at h8 hb;omega)|(exfalso;simp at h8;omega)|(apply dK<;>kernel_rfl)
   ·rw[if_neg h8,hD]
    rcases V with _|⟨a,t⟩
    ·simp only[Gs]
     repeat'((conv=>whnf);first|(apply aI<;>intro hb<;>first|exact absurd hb (by decide)|(exfalso;simp only[Az]at hb<;>omega)|((try rw[hb]);(try simp only[Ad]at hb)))|(refine eI ?_ ?_;focus (and_intros<;>first|omega|exact rfl|(simp;done)))|(intro hfact)|((first|with_reducible apply Ahs|((with_reducible apply D9);(focus rfl)));(focus (simp only[D.at,D.put,D.kid,D.setKid,List.cons_append,List.nil_append,List.append,List.getElem?_cons_zero,List.getElem?_cons_succ,Int.toNat_natCast,List.getElem?_set_self',Option.map_eq_map,Option.map_some,List.set_cons_zero,List.set_cons_succ,List.set_set,Function.const_apply,List.map_cons,List.map_nil,mkSt,Cn,D.toI,toIs,Bn,List.getElem?_map,List.length_map,List.length_set,hxd]<;>exact rfl));(try(focus exact rfl))))
     all_goals(try(conv=>whnf))
     all_goals first|(exfalso;simp at h8 hb;omega)|(exfalso;simp at h8;omega)|(apply dK<;>kernel_rfl)
    ·simp only[Gs]
     repeat'((conv=>whnf);first|(apply aI<;>intro hb<;>first|(exfalso;simp only[Az]at hb<;>omega)|((try rw[hb]);(try simp only[Ad]at hb)))|(refine eI ?_ ?_;focus (and_intros<;>first|exact rfl|(simp;done)))|(intro hfact)|((first|with_reducible apply Ahs|((with_reducible apply D9);(focus rfl)));(focus (simp only[D.at,D.put,D.kid,D.setKid,List.cons_append,List.nil_append,List.append,List.getElem?_cons_zero,List.getElem?_cons_succ,Int.toNat_natCast,List.getElem?_set_self',Option.map_eq_map,Option.map_some,List.set_cons_zero,List.set_cons_succ,List.set_set,Function.const_apply,List.map_cons,List.map_nil,mkSt,Cn,D.toI,toIs,Bn,List.getElem?_map,List.length_map,List.length_set,hxd]<;>exact rfl));(try(focus exact rfl))))
     all_goals(try(conv=>whnf))
     all_goals first|(exfalso;simp at h8 hb;omega)|(exfalso;simp at h8;omega)|(apply dK<;>kernel_rfl)

open Go.Proofs
def doP (r:Roll) (c:Cmd):Roll × Int:=
 if c.kind=4∨c.kind=5 then M5 r c
 else if c.kind=6∨c.kind=7∨c.kind=8 then Fz r c
 else if c.kind=13∨c.kind=14 then J7 r c
 else D5 r c
def doD (r:Roll) (c:Cmd):D:=
 if c.kind=4∨c.kind=5 then(M5 r c).1.toD
 else if c.kind=6∨c.kind=7∨c.kind=8 then Q4 r c
 else if c.kind=13∨c.kind=14 then(J7 r c).1.toD
 else Lp r c
theorem A8w (r:Roll) (hs:r.Small) (c:Cmd) (hk:9≤c.kind∧c.kind≤12):Fn Tryz.prog Rp [.own [] (.ptr r.toD),.v c.toI] (Is (.v (.int .i64 (D5 r c).2)) [.own [] (.ptr (Lp r c)),.no]):=by
 rcases(by omega:c.kind=9∨c.kind=10∨c.kind=11∨c.kind=12)with h|h|h|h
 ·exact A37 r hs c h
 ·exact A17 r hs c h
 ·exact A18 r hs c h
 ·exact A19 r hs c h
theorem Be1 (r:Roll) (hs:r.Small) (c:Cmd) (hc:c.salt.length≤100000∧c.word.length≤100000) (hk:4≤c.kind∧c.kind≤14):Fn Tryz.prog A88 [.own [] (.ptr r.toD),.v c.toI] (Is (.v (.int .i64 (doP r c).2)) [.own [] (.ptr (doD r c)),.no]):=by
 refine A7e ?_ (by simp)
 have t1:=A2c r hs c
 have u1:=A80 r hs c hc
 have h1:=A8r r hs c
 unfold doP doD
 by_cases k1:c.kind=4∨c.kind=5
 ·rw[if_pos k1,if_pos k1]
  repeat'((conv=>whnf);first|(apply aI<;>intro hb<;>first|exact absurd hb (by decide)|(exfalso;simp only[Az]at hb<;>omega)|((try rw[hb]);(try simp only[Ad]at hb)))|(refine eI ?_ ?_;focus (and_intros<;>first|exact rfl|(intro _ hh;cases hh;done)|(simp;done)|decide))|(refine CallWp.mk ⟨_,t1,?_⟩;rintro _ _ ⟨rfl,rfl⟩))
  all_goals(try(conv=>whnf))
  all_goals first|(exfalso;omega)|(apply dK<;>kernel_rfl)
 rw[if_neg k1,if_neg k1]
 by_cases k2:c.kind=6∨c.kind=7∨c.kind=8
 ·rw[if_pos k2,if_pos k2]
  repeat'((conv=>whnf);first|(apply aI<;>intro hb<;>first|exact absurd hb (by decide)|(exfalso;simp only[Az]at hb<;>omega)|((try rw[hb]);(try simp only[Ad]at hb)))|(refine eI ?_ ?_;focus (and_intros<;>first|exact rfl|(intro _ hh;cases hh;done)|(simp;done)|decide))|(refine CallWp.mk ⟨_,u1,?_⟩;rintro _ _ ⟨rfl,rfl⟩))
  all_goals(try(conv=>whnf))
  all_goals first|(exfalso;omega)|(apply dK<;>kernel_rfl)
 rw[if_neg k2,if_neg k2]
 by_cases k3:c.kind=13∨c.kind=14
 ·rw[if_pos k3,if_pos k3]
  repeat'((conv=>whnf);first|(apply aI<;>intro hb<;>first|exact absurd hb (by decide)|(exfalso;simp only[Az]at hb<;>omega)|((try rw[hb]);(try simp only[Ad]at hb)))|(refine eI ?_ ?_;focus (and_intros<;>first|exact rfl|(intro _ hh;cases hh;done)|(simp;done)|decide))|(refine CallWp.mk ⟨_,h1,?_⟩;rintro _ _ ⟨rfl,rfl⟩))
  all_goals(try(conv=>whnf))
  all_goals first|(exfalso;omega)|(apply dK<;>kernel_rfl)
 rw[if_neg k3,if_neg k3]
 have r1:=A8w r hs c (by omega)
 repeat'((conv=>whnf);first|(apply aI<;>intro hb<;>first|(exfalso;simp only[Az]at hb<;>omega)|((try rw[hb]);(try simp only[Ad]at hb)))|(refine eI ?_ ?_;focus (and_intros<;>first|exact rfl|(intro _ hh;cases hh;done)|(simp;done)|decide))|(refine CallWp.mk ⟨_,r1,?_⟩;rintro _ _ ⟨rfl,rfl⟩))
 all_goals(try(conv=>whnf))
 all_goals first|(exfalso;omega)|(apply dK<;>kernel_rfl)

open Go.Proofs
theorem A4c (r:Roll) (c:Cmd):(M5 r c).1.rev=r.rev:=by
 unfold M5;repeat' split
 all_goals rfl
theorem Bcw (r:Roll) (c:Cmd):(Fz r c).1.rev=r.rev:=by
 unfold Fz;repeat' split
 all_goals rfl
theorem A94 (r:Roll) (c:Cmd):(J7 r c).1.rev=r.rev:=by
 unfold J7;repeat' split
 all_goals rfl
theorem Bbg (r:Roll) (c:Cmd):(D5 r c).1.rev=r.rev:=by
 unfold D5;repeat' split
 all_goals rfl
theorem Bgu (r:Roll) (c:Cmd):(doP r c).1.rev=r.rev:=by
 unfold doP
 split
 ·exact A4c r c
 split
 ·exact Bcw r c
 split
 ·exact A94 r c
 ·exact Bbg r c
def IsD (d:D) (r:Roll):Prop:=∃a b e,d= .st [.it (.int .i64 r.rev),.vec Cc 3 a,.vec B3 5 b,.vec B2 3 e]∧toIs a=some (r.tens.map Ten.toI)∧toIs b=some (r.usrs.map Usr.toI)∧toIs e=some (r.rols.map Rol.toI)
theorem Ak0 (r:Roll):IsD r.toD r:=⟨_,_,_,rfl,Bn _,Qg _,Fm _⟩
theorem Arj {α:Type} {d:α→D} {f:α→I} {l:List α} (h:toIs (l.map d)=some (l.map f)) (i:Nat) (x:α):toIs (Hk i (.it (f x)) (l.map d))=some ((Hk i x l).map f):=by
 have hap:∀(a b:List D) (u v:List I),toIs a=some u→toIs b=some v→toIs (a++b)=some (u++v):=by
  intro a
  induction a with
  |nil=>intro b u v h1 h2;simp[toIs]at h1;subst h1;simpa using h2
  |cons y a ih=>
   intro b u v h1 h2
   simp only[toIs]at h1
   cases hy:y.toI with
   |none=>rw[hy]at h1;simp at h1
   |some z=>
    cases ha:toIs a with
    |none=>rw[hy,ha]at h1;simp at h1
    |some w=>
     rw[hy,ha]at h1
     simp at h1
     subst h1
     simp only[List.cons_append,toIs,hy,ih b w v ha h2]
 have hsp:∀(l:List α),toIs (l.map d)=some (l.map f)→∀i,toIs ((l.take i).map d)=some ((l.take i).map f)∧toIs ((l.drop i).map d)=some ((l.drop i).map f):=by
  intro l
  induction l with
  |nil=>intro _ i;simp[toIs]
  |cons y l ih=>
   intro h i
   cases i with
   |zero=>exact⟨by simp[toIs],by simpa using h⟩
   |succ i=>
    simp only[List.map_cons,toIs]at h
    cases hy:(d y).toI with
    |none=>rw[hy]at h;simp at h
    |some z=>
     cases ha:toIs (l.map d)with
     |none=>rw[hy,ha]at h;simp at h
     |some w=>
      rw[hy,ha]at h
      simp at h
      obtain⟨rfl,rfl⟩:=h
      obtain⟨i1,i2⟩:=ih ha i
      exact⟨by simp only[List.take_succ_cons,List.map_cons,toIs,hy,i1],by simpa using i2⟩
 obtain⟨s1,s2⟩:=hsp l h i
 unfold Hk
 rw[List.map_append,List.map_cons, ←List.map_take, ←List.map_drop]
 exact hap _ _ _ _ s1 (by simp only[toIs,D.toI,s2])
theorem Bay (r:Roll) (c:Cmd):IsD (Q4 r c) (Fz r c).1:=by
 unfold Q4
 split
 ·rename_i h
  obtain⟨h6,h0⟩:=h
  have hP:(Fz r c).1= {r with usrs:=Hk (Ch Usr.name r.usrs c.name) ⟨c.name,c.other,c.salt,Hj c.salt c.word,[]⟩ r.usrs}:=by
   revert h0
   unfold Fz
   rw[if_pos h6]
   repeat' split
   all_goals simp
  rw[hP]
  exact⟨_,_,_,rfl,Bn _,Arj (d:=Usr.toD) (f:=Usr.toI) (Qg r.usrs) _ _,Fm _⟩
 ·exact Ak0 _
theorem Bax (r:Roll) (c:Cmd):IsD (Lp r c) (D5 r c).1:=by
 unfold Lp
 split
 ·rename_i h
  obtain⟨h6,h0⟩:=h
  have hP:(D5 r c).1= {r with rols:=Hk (Ch Rol.name r.rols c.name) ⟨c.name,c.other,[]⟩ r.rols}:=by
   revert h0
   unfold D5
   rw[if_pos h6]
   repeat' split
   all_goals simp
  rw[hP]
  exact⟨_,_,_,rfl,Bn _,Qg _,Arj (d:=Rol.toD) (f:=Rol.toI) (Fm r.rols) _ _⟩
 ·exact Ak0 _
theorem Bhd (r:Roll) (c:Cmd):IsD (doD r c) (doP r c).1:=by
 unfold doD doP
 split
 ·exact Ak0 _
 split
 ·exact Bay r c
 split
 ·exact Ak0 _
 ·exact Bax r c
def DoP (r:Roll) (c:Cmd):Roll × Int:=
 if c.kind<4∨14<c.kind then(r,1)
 else if 1099511627776≤r.rev then(r,17)
 else if(doP r c).2=0 then({(doP r c).1 with rev:=r.rev+1},0)
 else(r,(doP r c).2)
theorem Ve (r:Roll) (hs:r.Small) (c:Cmd) (hc:c.salt.length≤100000∧c.word.length≤100000) (hrev: -9223372036854775808≤r.rev):Fn Tryz.prog A87 [.v r.toI,.v c.toI] (Is (.tup [.i (DoP r c).1.toI,.i (.int .i64 (DoP r c).2)]) [.no,.no]):=by
 refine Fn.isF (x:=[(DoP r c).1.toI,.int .i64 (DoP r c).2]) ?_
 refine A3c ?_ (by simp)
 have cp:=A1t r hs
 unfold DoP
 by_cases k1:c.kind<4∨14<c.kind
 ·rw[if_pos k1]
  repeat'((conv=>whnf);first|(apply aI<;>intro hb<;>first|exact absurd hb (by decide)|(exfalso;simp only[Az]at hb<;>omega)|((try rw[hb]);(try simp only[Ad]at hb)))|(refine eI ?_ ?_;focus (and_intros<;>first|exact rfl|(intro _ hh;cases hh;done)|(simp;done)|decide))|(refine CallWp.mk ⟨_,cp,?_⟩;rintro _ _ ⟨rfl,rfl⟩))
  all_goals(try(conv=>whnf))
  all_goals first|(exfalso;omega)|skip
  all_goals(refine Done.mk ⟨?_,by kernel_rfl⟩ (by kernel_rfl))
  all_goals(try simp only[hs])
  all_goals(try simp only[hs, *,if_true,if_false,Bool.false_eq_true,Bool.true_eq_false,Bool.not_true,Bool.not_false,decide_true,decide_false,not_true_eq_false,not_false_eq_true,ne_eq,reduceIte])
  all_goals(try simp only[resD,Es,I.put,List.replicate_succ,List.replicate_zero,toIs,D.toI,Bn,Dy,List.map_cons,List.map_nil,List.set_cons_zero,List.set_cons_succ,mkSt,Cn,List.map_set,Int.toNat_natCast,Fm,Qg])
  all_goals(try rfl)
 rw[if_neg k1]
 by_cases k2:1099511627776≤r.rev
 ·rw[if_pos k2]
  repeat'((conv=>whnf);first|(apply aI<;>intro hb<;>first|exact absurd hb (by decide)|(exfalso;simp only[Az]at hb<;>omega)|((try rw[hb]);(try simp only[Ad]at hb)))|(refine eI ?_ ?_;focus (and_intros<;>first|exact rfl|(intro _ hh;cases hh;done)|(simp;done)|decide))|(refine CallWp.mk ⟨_,cp,?_⟩;rintro _ _ ⟨rfl,rfl⟩))
  all_goals(try(conv=>whnf))
  all_goals first|(exfalso;omega)|skip
  all_goals(refine Done.mk ⟨?_,by kernel_rfl⟩ (by kernel_rfl))
  all_goals(try simp only[hs])
  all_goals(try simp only[hs, *,if_true,if_false,Bool.false_eq_true,Bool.true_eq_false,Bool.not_true,Bool.not_false,decide_true,decide_false,not_true_eq_false,not_false_eq_true,ne_eq,reduceIte])
  all_goals(try simp only[resD,Es,I.put,List.replicate_succ,List.replicate_zero,toIs,D.toI,Bn,Dy,List.map_cons,List.map_nil,List.set_cons_zero,List.set_cons_succ,mkSt,Cn,List.map_set,Int.toNat_natCast,Fm,Qg])
  all_goals(try rfl)
 rw[if_neg k2]
 have hd:=Be1 r hs c hc (by omega)
 obtain⟨a,b,e,hD,hta,htb,hte⟩:=Bhd r c
 rw[Bgu]at hD
 rw[hD]at hd
 have hw:IntKind.i64.wrap (r.rev+1)=r.rev+1:=Cf (by omega)
 generalize doP r c=X at*
 obtain⟨n,x⟩:=X
 dsimp only at*
 by_cases k3:x=0
 ·rw[if_pos k3]
  repeat'((conv=>whnf);first|(apply aI<;>intro hb<;>first|exact absurd hb (by decide)|(exfalso;simp only[Az]at hb<;>omega)|((try rw[hb]);(try simp only[Ad]at hb);(try subst hb)))|(refine eI ?_ ?_;focus (and_intros<;>first|omega|exact rfl|(intro _ hh;cases hh;done)|(simp;done)|decide))|(refine CallWp.mk ⟨_,cp,?_⟩;rintro _ _ ⟨rfl,rfl⟩)|(refine CallWp.mk ⟨_,hd,?_⟩;rintro _ _ ⟨rfl,rfl⟩)|((try dsimp only);rw[hw]))
  all_goals(try(conv=>whnf))
  all_goals first|(exfalso;omega)|skip
  all_goals(refine Done.mk ⟨?_,by kernel_rfl⟩ (by kernel_rfl))
  all_goals(try simp only[hs])
  all_goals(try simp only[hs, *,if_true,if_false,Bool.false_eq_true,Bool.true_eq_false,Bool.not_true,Bool.not_false,decide_true,decide_false,not_true_eq_false,not_false_eq_true,ne_eq,reduceIte])
  all_goals(try simp only[resD,Es,I.put,List.replicate_succ,List.replicate_zero,toIs,D.toI,Bn,Dy,List.map_cons,List.map_nil,List.set_cons_zero,List.set_cons_succ,mkSt,Cn,List.map_set,Int.toNat_natCast,hta,htb,hte])
  all_goals(try rfl)
 ·rw[if_neg k3]
  repeat'((conv=>whnf);first|(apply aI<;>intro hb<;>first|exact absurd hb (by decide)|(exfalso;simp only[Az]at hb<;>omega)|((try rw[hb]);(try simp only[Ad]at hb)))|(refine eI ?_ ?_;focus (and_intros<;>first|exact rfl|(intro _ hh;cases hh;done)|(simp;done)|decide))|(refine CallWp.mk ⟨_,cp,?_⟩;rintro _ _ ⟨rfl,rfl⟩)|(refine CallWp.mk ⟨_,hd,?_⟩;rintro _ _ ⟨rfl,rfl⟩))
  all_goals(try(conv=>whnf))
  all_goals first|(exfalso;omega)|skip
  all_goals(refine Done.mk ⟨?_,by kernel_rfl⟩ (by kernel_rfl))
  all_goals(try simp only[hs])
  all_goals(try simp only[hs, *,if_true,if_false,Bool.false_eq_true,Bool.true_eq_false,Bool.not_true,Bool.not_false,decide_true,decide_false,not_true_eq_false,not_false_eq_true,ne_eq,reduceIte])
  all_goals(try simp only[resD,Es,I.put,List.replicate_succ,List.replicate_zero,toIs,D.toI,Bn,Dy,List.map_cons,List.map_nil,List.set_cons_zero,List.set_cons_succ,mkSt,Cn,List.map_set,Int.toNat_natCast,Fm,Qg])
  all_goals(try rfl)

open Go.Proofs
theorem sz18 (e:Cmd):e.toI.size=18:=by kernel_rfl
theorem Bo (e:Cmd):e.toI.size=(I.agg [.int .i64 0,.int .i64 0,.str [],.int .i64 0,.str [],.str [],.str [],.str [],.int .i64 0,.int .i64 0,.agg [.agg [.str [],.str []],.bool false,.bool false],.int .i64 0,.list [],.list [],.list []]).size:=
 Eq.trans (sz18 e) (Eq.symm (by kernel_rfl))
theorem Bp (e:Cmd):((I.agg [.int .i64 0,.int .i64 0,.str [],.int .i64 0,.str [],.str [],.str [],.str [],.int .i64 0,.int .i64 0,.agg [.agg [.str [],.str []],.bool false,.bool false],.int .i64 0,.list [],.list [],.list []]).put [] e.toI).size=18:=by kernel_rfl
theorem Bq (e:Cmd):((I.agg [.int .i64 0,.int .i64 0,.str [],.int .i64 0,.str [],.str [],.str [],.str [],.int .i64 0,.int .i64 0,.agg [.agg [.str [],.str []],.bool false,.bool false],.int .i64 0,.list [],.list [],.list []]).put [] e.toI).isAgg=true:=by kernel_rfl

open Go.Proofs
theorem Bcj (salt word:Ai) (h1:salt.length≤64) (h2:word.length≤64):Fn Tryz.prog A55 [.v (.str salt),.v (.str word)] (Is (.tup [.i (A5b salt word).toI,.i (.bool true)]) [.no,.no]):=by
 refine A3b ?_ (by simp)
 have n1:=Ja salt
 have n2:=Ja word
 rw[show decide (salt.length≤64)=true by simp[h1]]at n1
 rw[show decide (word.length≤64)=true by simp[h2]]at n2
 have hh:=X1 salt word (by omega) (by omega)
 repeat'((conv=>whnf);first|(apply aI<;>intro hb<;>first|exact absurd hb (by decide)|((try rw[hb]);(try simp only[Ad]at hb)))|(refine eI ?_ ?_;focus (and_intros<;>first|omega|exact rfl|(intro _ hh;cases hh;done)|exact B8 (by rfl)|(simp;done)|decide))|(refine CallWp.mk ⟨_,n1,?_⟩;rintro _ _ ⟨rfl,rfl⟩)|(refine CallWp.mk ⟨_,n2,?_⟩;rintro _ _ ⟨rfl,rfl⟩)|(refine CallWp.mk ⟨_,hh,?_⟩;rintro _ _ ⟨rfl,rfl⟩))
 all_goals(try(conv=>whnf))
 (apply dK<;>kernel_rfl)
theorem A36 (r:Roll) (hf:r.Small) (n w:Ai) (u:Usr) (hu:getU r.usrs n=(u,true)) (hw:w.length≤100000) (hs:u.salt.length≤100000):Fn Tryz.prog Axa [.v r.toI,.v (.str n),.v (.str w)] (Is (.v (.bool (decide (u.hash=Hj u.salt w)))) [.no,.no,.no]):=by
 refine Av7 ?_ (by simp)
 have g:=Aih r hf n
 rw[hu]at g
 have hh:=X1 u.salt w hs hw
 repeat'((conv=>whnf);first|(apply aI<;>intro hb<;>first|exact absurd hb (by decide)|with_reducible exact absurd hb.symm Bool.false_ne_true|((try rw[hb]);(try simp only[Ad]at hb)))|(refine eI ?_ ?_;focus (and_intros<;>first|omega|exact rfl|(intro _ hh;cases hh;done)|(simp;done)|decide))|((with_reducible apply Drawn.by0);(focus kernel_rfl);intro hfact;(try simp only[dRS]at hfact))|(refine CallWp.mk ⟨_,g,?_⟩;rintro _ _ ⟨rfl,rfl⟩)|(refine CallIs.mk ⟨_,_,hh,?_⟩))
 all_goals(try(conv=>whnf))
 all_goals refine Done.mk ⟨SV.bool_congr ?_,by kernel_rfl⟩ (by kernel_rfl)
 all_goals simp[*]
def cmdA (k:Int) (n o w:Ai):Cmd:=⟨0,0,[],k,n,o,w,[],0,0,⟨⟨[],[]⟩,false,false⟩,0,[],[],[]⟩
theorem A1s:Fn Tryz.prog Ab7 [] (Is (.v (.bool true)) []):=by
 refine Aap ?_ (by simp)
 have n1:=Bcj [115] [119] (by simp) (by simp)
 unfold A5b at n1
 generalize Hj [115] [119]=h0 at n1
 obtain⟨h1,hh1⟩:∃h,h=Hj [] [112]:=⟨_,rfl⟩
 have e1:DoP ⟨1,[],[⟨[114,111,111,116],[],[115],h0,[]⟩],[]⟩ (cmdA 4 [116] [] [])=(⟨2,[⟨[116],0,0⟩],[⟨[114,111,111,116],[],[115],h0,[]⟩],[]⟩,0):=by kernel_rfl
 have e2:DoP ⟨2,[⟨[116],0,0⟩],[⟨[114,111,111,116],[],[115],h0,[]⟩],[]⟩ (cmdA 4 [117] [] [])=(⟨3,[⟨[116],0,0⟩,⟨[117],0,0⟩],[⟨[114,111,111,116],[],[115],h0,[]⟩],[]⟩,0):=by kernel_rfl
 have e3:DoP ⟨3,[⟨[116],0,0⟩,⟨[117],0,0⟩],[⟨[114,111,111,116],[],[115],h0,[]⟩],[]⟩ (cmdA 6 [120] [116] [112])=(⟨4,[⟨[116],0,0⟩,⟨[117],0,0⟩],[⟨[114,111,111,116],[],[115],h0,[]⟩,⟨[120],[116],[],Hj [] [112],[]⟩],[]⟩,0):=by kernel_rfl
 rw[←hh1]at e3
 have e4:DoP ⟨4,[⟨[116],0,0⟩,⟨[117],0,0⟩],[⟨[114,111,111,116],[],[115],h0,[]⟩,⟨[120],[116],[],h1,[]⟩],[]⟩ (cmdA 9 [121] [117] [])=(⟨5,[⟨[116],0,0⟩,⟨[117],0,0⟩],[⟨[114,111,111,116],[],[115],h0,[]⟩,⟨[120],[116],[],h1,[]⟩],[⟨[121],[117],[]⟩]⟩,0):=by kernel_rfl
 have e5:DoP ⟨5,[⟨[116],0,0⟩,⟨[117],0,0⟩],[⟨[114,111,111,116],[],[115],h0,[]⟩,⟨[120],[116],[],h1,[]⟩],[⟨[121],[117],[]⟩]⟩ (cmdA 13 [120] [121] [])=(⟨5,[⟨[116],0,0⟩,⟨[117],0,0⟩],[⟨[114,111,111,116],[],[115],h0,[]⟩,⟨[120],[116],[],h1,[]⟩],[⟨[121],[117],[]⟩]⟩,18):=by kernel_rfl
 have d1:=Ve ⟨1,[],[⟨[114,111,111,116],[],[115],h0,[]⟩],[]⟩ ⟨by simp,by simp,by simp,by simp,by simp⟩ (cmdA 4 [116] [] []) (by simp[cmdA]) (by simp)
 have d2:=Ve ⟨2,[⟨[116],0,0⟩],[⟨[114,111,111,116],[],[115],h0,[]⟩],[]⟩ ⟨by simp,by simp,by simp,by simp,by simp⟩ (cmdA 4 [117] [] []) (by simp[cmdA]) (by simp)
 have d3:=Ve ⟨3,[⟨[116],0,0⟩,⟨[117],0,0⟩],[⟨[114,111,111,116],[],[115],h0,[]⟩],[]⟩ ⟨by simp,by simp,by simp,by simp,by simp⟩ (cmdA 6 [120] [116] [112]) (by simp[cmdA]) (by simp)
 have d4:=Ve ⟨4,[⟨[116],0,0⟩,⟨[117],0,0⟩],[⟨[114,111,111,116],[],[115],h0,[]⟩,⟨[120],[116],[],h1,[]⟩],[]⟩ ⟨by simp,by simp,by simp,by simp,by simp⟩ (cmdA 9 [121] [117] []) (by simp[cmdA]) (by simp)
 have d5:=Ve ⟨5,[⟨[116],0,0⟩,⟨[117],0,0⟩],[⟨[114,111,111,116],[],[115],h0,[]⟩,⟨[120],[116],[],h1,[]⟩],[⟨[121],[117],[]⟩]⟩ ⟨by simp,by simp,by simp,by simp,by simp⟩ (cmdA 13 [120] [121] []) (by simp[cmdA]) (by simp)
 rw[e1]at d1
 rw[e2]at d2
 rw[e3]at d3
 rw[e4]at d4
 rw[e5]at d5
 have ch:=A36 ⟨5,[⟨[116],0,0⟩,⟨[117],0,0⟩],[⟨[114,111,111,116],[],[115],h0,[]⟩,⟨[120],[116],[],h1,[]⟩],[⟨[121],[117],[]⟩]⟩ ⟨by simp,by simp,by simp,by simp,by simp⟩ [120] [112] ⟨[120],[116],[],h1,[]⟩ (by simp[getU]) (by simp) (by simp)
 dsimp only at ch
 rw[show decide (h1=Hj [] [112])=true by simp[hh1]]at ch
 clear e1 e2 e3 e4 e5 hh1
 repeat'((conv=>whnf);first|(apply aI<;>intro hb<;>first|exact absurd hb (by decide)|((try rw[hb]);(try simp only[Ad]at hb)))|(refine eI ?_ ?_;focus (and_intros<;>first|omega|exact rfl|(intro _ hh;cases hh;done)|(simp;done)|decide))|(refine CallWp.mk ⟨_,n1,?_⟩;rintro _ _ ⟨rfl,rfl⟩)|(refine CallWp.mk ⟨_,d1,?_⟩;rintro _ _ ⟨rfl,rfl⟩)|(refine CallWp.mk ⟨_,d2,?_⟩;rintro _ _ ⟨rfl,rfl⟩)|(refine CallWp.mk ⟨_,d3,?_⟩;rintro _ _ ⟨rfl,rfl⟩)|(refine CallWp.mk ⟨_,d4,?_⟩;rintro _ _ ⟨rfl,rfl⟩)|(refine CallWp.mk ⟨_,d5,?_⟩;rintro _ _ ⟨rfl,rfl⟩)|(refine CallWp.mk ⟨_,ch,?_⟩;rintro _ _ ⟨rfl,rfl⟩))
 all_goals(try(conv=>whnf))
 all_goals first|(exfalso;have ht:¬True:=(by assumption);exact ht True.intro)|(apply dK<;>kernel_rfl)

open Go.Proofs
def Mb (r:Roll) (c:Cmd):Roll × Int:=
 if D2 c.name=false then(r,5)
 else if Dq c.bytes=false then(r,1)
 else if Dq c.keys=false then(r,1)
 else if 0≤r.tenAt c.name then(r,15)
 else if 8≤(r.tens.length:Int)then(r,17)
 else({r with rev:=r.rev+1,tens:=E8 (fun e:Ten=>decide (c.name<e.name)) ⟨c.name,c.bytes,c.keys⟩ r.tens},0)
def Tz (r:Roll) (c:Cmd):Roll × Int:=
 if D2 c.name=false then(r,5)
 else if 0≤r.rolAt c.name then(r,15)
 else if r.tenAt c.other<0 then(r,16)
 else if 16≤(r.rols.length:Int)then(r,17)
 else({r with rev:=r.rev+1,rols:=E8 (fun e:Rol=>decide (c.name<e.name)) ⟨c.name,c.other,[]⟩ r.rols},0)
def T7 (r:Roll) (c:Cmd):Roll × Int:=
 if D2 c.name=false then(r,5)
 else if 64<(c.word.length:Int)then(r,2)
 else if 64<(c.salt.length:Int)then(r,2)
 else if 0≤r.usrAt c.name then(r,15)
 else if r.tenAt c.other<0 then(r,16)
 else if 16≤(r.usrs.length:Int)then(r,17)
 else({r with rev:=r.rev+1,usrs:=E8 (fun e:Usr=>decide (c.name<e.name)) ⟨c.name,c.other,c.salt,Hj c.salt c.word,[]⟩ r.usrs},0)
def Q6 (r:Roll) (c:Cmd):Roll × Int:=
 if 64<(c.word.length:Int)then(r,2)
 else if 64<(c.salt.length:Int)then(r,2)
 else if r.usrAt c.name<0 then(r,16)
 else match r.usrs[(r.usrAt c.name).toNat]? with
 |none=>(r,16)
 |some u=>({r with rev:=r.rev+1,usrs:=r.usrs.set (r.usrAt c.name).toNat {u with salt:=c.salt,hash:=Hj c.salt c.word}},0)
set_option maxHeartbeats 4000000

open Go.Proofs
def doM (r:Roll) (c:Cmd):Roll × Int:=
 if c.kind<4∨14<c.kind then(r,1)
 else if 1099511627776≤r.rev then(r,17)
 else if c.kind=4 then Mb r c
 else if c.kind=5 then L8 r c
 else if c.kind=6 then T7 r c
 else if c.kind=7 then Q6 r c
 else if c.kind=8 then L3 r c
 else if c.kind=9 then Tz r c
 else if c.kind=10 then Qo r c
 else if c.kind=11 then Lx r c
 else if c.kind=12 then Hu r c
 else Jv r c

open Go.Proofs
theorem A7q (a b:Ai):a<b∨a=b∨b<a:=by
 by_cases h:a<b
 ·exact .inl h
 ·by_cases h2:b<a
  ·exact .inr (.inr h2)
  ·exact .inr (.inl (List.le_antisymm (List.not_lt.1 h2) (List.not_lt.1 h)))
theorem Ai0 {lt:Nat→Bool} {L:Nat} (mono:∀h h',h≤h'→h'<L→lt h'=true→lt h=true):∀f i j,i≤j→j≤L→j - i≤f→(∀h,h<i→lt h=true)→(∀h,j≤h→h<L→lt h=false)→
 (∀h,h<bsGo lt f i j→lt h=true)∧(∀h,bsGo lt f i j≤h→h<L→lt h=false)
 |0,i,j,h1,h2,h3,h4,h5=>by
  obtain rfl:i=j:=by omega
  exact⟨h4,h5⟩
 |f+1,i,j,h1,h2,h3,h4,h5=>by
  unfold bsGo
  split
  ·rename_i hij
   split
   ·rename_i hl
    exact Ai0 mono f _ _ (by omega) h2 (by omega) (fun h hh=>mono h ((i+j) / 2) (by omega) (by omega) hl) h5
   ·rename_i hl
    refine Ai0 mono f _ _ (by omega) (by omega) (by omega) h4 (fun h hh hL=>?_)
    cases hx:lt h with
    |false=>rfl
    |true=>exact absurd (mono _ _ hh hL hx) hl
  ·obtain rfl:i=j:=by omega
   exact⟨h4,h5⟩
abbrev H5 {α:Type} (nm:α→Ai) (l:List α):Prop:=l.Pairwise fun a b=>nm a<nm b
def posOf {α:Type} (nm:α→Ai) (n:Ai):List α→Nat
 | []=>0
 |a::r=>if nm a<n then posOf nm n r+1 else 0
theorem A0e {α:Type} (nm:α→Ai) (n:Ai):∀l:List α,posOf nm n l≤l.length
 | []=>Nat.le_refl _
 |a::r=>by
  unfold posOf
  have:=A0e nm n r
  split<;>simp<;>omega
theorem A0f {α:Type} (nm:α→Ai) (n:Ai):∀(l:List α) (h:Nat),h<posOf nm n l→ltAt nm l n h=true
 | [],h,hh=>by simp[posOf]at hh
 |a::r,h,hh=>by
  unfold posOf at hh
  split at hh
  ·rename_i ha
   cases h with
   |zero=>simp[ltAt,ha]
   |succ h=>
    have:=A0f nm n r h (by omega)
    simpa[ltAt]using this
  ·omega
theorem A0d {α:Type} (nm:α→Ai) (n:Ai):∀(l:List α),posOf nm n l<l.length→ltAt nm l n (posOf nm n l)=false
 | [],h=>by simp[posOf]at h
 |a::r,h=>by
  unfold posOf at h ⊢
  split
  ·rename_i ha
   rw[if_pos ha]at h
   have:=A0d nm n r (by simpa using h)
   simpa[ltAt]using this
  ·rename_i ha
   simpa[ltAt]using ha
theorem Ao4 {α:Type} {nm:α→Ai} {l:List α} (hr:H5 nm l) (n:Ai):Ch nm l n=posOf nm n l:=by
 have mono:∀h h',h≤h'→h'<l.length→ltAt nm l n h'=true→ltAt nm l n h=true:=by
  intro h h' hh hL hx
  rcases Nat.lt_or_ge h h' with hlt|hge
  ·have hp:=List.pairwise_iff_getElem.1 hr h h' (by omega) hL hlt
   unfold ltAt at hx ⊢
   rw[List.getElem?_eq_getElem hL]at hx
   rw[List.getElem?_eq_getElem (by omega:h<l.length)]
   simp only[Option.any_some,decide_eq_true_eq]at hx ⊢
   exact List.lt_trans hp hx
  ·obtain rfl:h=h':=by omega
   exact hx
 obtain⟨k1,k2⟩:=Ai0 mono l.length 0 l.length (Nat.zero_le _) (Nat.le_refl _) (Nat.sub_le _ _) (fun h hh=>by omega) (fun h h1 h2=>by omega)
 have hle:=S9 nm l n
 have hpl:=A0e nm n l
 change (∀h,h<Ch nm l n→_)at k1
 change (∀h,Ch nm l n≤h→_)at k2
 rcases Nat.lt_trichotomy (Ch nm l n) (posOf nm n l)with h|h|h
 ·have a1:=A0f nm n l _ h
  rw[k2 _ (Nat.le_refl _) (by omega)]at a1
  cases a1
 ·exact h
 ·have a1:=k1 _ h
  rw[A0d nm n l (by omega)]at a1
  cases a1
theorem Amr {α:Type} {p:α→Bool}:∀(k:Nat) (l:List α),(∀x∈l,p x=false)→findAt p k l= -1
 |_,[],_=>rfl
 |k,a::r,h=>by
  unfold findAt
  rw[if_neg (by rw[h a (List.mem_cons_self ..)];simp)]
  exact Amr (k+1) r fun x hx=>h x (List.mem_cons_of_mem _ hx)
theorem Ax6 {α:Type} {nm:α→Ai} {n:Ai}:∀{l:List α} (k:Nat),H5 nm l→findAt (fun t=>decide (nm t=n)) k l=if((l[posOf nm n l]?).any fun x=>decide (nm x=n))=true then((k+posOf nm n l:Nat):Int)else -1
 | [],_,_=>by simp[findAt,posOf]
 |a::r,k,h=>by
  obtain⟨h1,h2⟩:=List.pairwise_cons.1 h
  unfold findAt posOf
  rcases A7q (nm a) n with ha|ha|ha
  ·have hne:nm a≠n:=by rintro rfl;exact List.lt_irrefl _ ha
   rw[if_neg (by simp[hne]),if_pos ha,Ax6 (k+1) h2]
   simp only[List.getElem?_cons_succ]
   split
   ·congr 1;omega
   ·rfl
  ·subst ha
   rw[if_pos (by simp),if_neg (List.lt_irrefl _)]
   simp
  ·have hne:nm a≠n:=by rintro rfl;exact List.lt_irrefl _ ha
   have hnl:¬nm a<n:=fun h=>List.lt_irrefl _ (List.lt_trans h ha)
   rw[if_neg (by simp[hne]),if_neg hnl]
   simp only[List.getElem?_cons_zero,Option.any_some,decide_eq_true_eq,hne,if_false]
   refine Amr _ _ fun x hx=>?_
   have:=List.lt_trans ha (h1 x hx)
   simp only[decide_eq_false_iff_not]
   rintro rfl
   exact List.lt_irrefl _ this
theorem Axs {α:Type} {nm:α→Ai} {l:List α} (hr:H5 nm l) (n:Ai):Et nm l n=(l[posOf nm n l]?).any fun x=>decide (nm x=n):=by
 unfold Et
 rw[Ao4 hr]
theorem Aws {α:Type} {nm:α→Ai} {l:List α} (hr:H5 nm l) (n:Ai):findAt (fun t=>decide (nm t=n)) 0 l=if Et nm l n=true then((Ch nm l n:Nat):Int)else -1:=by
 rw[Ax6 0 hr,Axs hr,Ao4 hr,Nat.zero_add]
theorem A48 {α:Type} {nm:α→Ai} {n:Ai} {x:α}:∀{l:List α},H5 nm l→((l[posOf nm n l]?).any fun x=>decide (nm x=n))=false→E8 (fun e=>decide (n<nm e)) x l=Hk (posOf nm n l) x l
 | [],_,_=>rfl
 |a::r,h,hf=>by
  obtain⟨h1,h2⟩:=List.pairwise_cons.1 h
  unfold E8
  unfold posOf at hf ⊢
  rcases A7q (nm a) n with ha|ha|ha
  ·have hnl:¬n<nm a:=fun h=>List.lt_irrefl _ (List.lt_trans h ha)
   rw[if_pos ha]at hf
   rw[if_neg (by simpa using hnl),if_pos ha,A48 h2 (by simpa using hf)]
   simp[Hk]
  ·subst ha
   rw[if_neg (List.lt_irrefl _)]at hf
   simp at hf
  ·have hnl:¬nm a<n:=fun h=>List.lt_irrefl _ (List.lt_trans h ha)
   rw[if_pos (by simpa using ha),if_neg hnl]
   rfl
theorem Aqd {α:Type} {nm:α→Ai} {l:List α} (hr:H5 nm l) {n:Ai} (x:α) (hf:Et nm l n=false):E8 (fun e=>decide (n<nm e)) x l=Hk (Ch nm l n) x l:=by
 rw[Ao4 hr]
 exact A48 hr (by rw[←Axs hr];exact hf)
end Go.Ab
