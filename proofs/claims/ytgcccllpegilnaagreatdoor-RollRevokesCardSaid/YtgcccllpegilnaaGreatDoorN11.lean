/- Lemmas for the last text. -/
import Derived.Test.YtgcccllpegilnaaGreatDoorN8
set_option linter.unusedVariables false
set_option linter.unusedSimpArgs false
set_option maxRecDepth 100000
set_option maxHeartbeats 40000000
namespace Go.Ab
open Go.Proofs
theorem Agy (r:Roll) (hs:r.Small) (c:Cmd) (hk:c.kind=10):Fn Tryz.prog Ha [.own [] (.ptr r.toD),.v c.toI] (Is (.v (.int .i64 (Bi r c).2)) [.own [] (.ptr (Em r c)),.no]):=by
 refine Hg ?_ (by simp)
 have hs':=hs
 obtain⟨b1,b2,b3,b4,b5⟩:=hs
 have hf:=Jh r.rols c.name (by omega)
 have hU:Em r c=(Bi r c).1.toD:=by simp[Em,hk]
 rw[hU]
 cases hb:Bv Rol.name r.rols c.name with
 |false=>
  rw[hb]at hf
  rw[show Bi r c=(r,16)by simp only[Bi,hk,hb,Int.reduceEq,if_false,if_true,and_false,false_and,Bool.true_eq_false]]
  repeat'((conv=>whnf);first|(apply aI<;>intro hb<;>first|exact absurd hb (by decide)|(exfalso;simp only[Ag]at hb<;>omega)|((try rw[hb]);(try simp only[Aa]at hb)))|(refine eI ?_ ?_;focus (and_intros<;>first|omega|exact rfl|(simp;done)))|((with_reducible apply Drawn.by0);(focus kernel_rfl);intro hfact;(try simp only[dRS]at hfact))|((simp only[show D.at (0::[].append [3]) (D.ptr r.toD)=some (D.vec Aq 3 (r.rols.map Rol.toD))from rfl,Ci,show D.at [0] (D.ptr r.toD)=some r.toD from rfl,Be]))|(refine CallIs.mk ⟨_,_,hf,?_⟩))
  all_goals(try(conv=>whnf))
  all_goals exact Done.mk ⟨by kernel_rfl,by kernel_rfl⟩ (by kernel_rfl)
 |true=>
  rw[hb]at hf
  obtain⟨x,hx, -⟩:=Ep hb
  have hlt:Az Rol.name r.rols c.name<r.rols.length:=(List.getElem?_eq_some_iff.1 hx).1
  have hP:Bi r c=({r with rols:=Da (Az Rol.name r.rols c.name) r.rols,usrs:=r.usrs.map (Nk c.name)},0):=by
   simp only[Bi,hk,hb,Int.reduceEq,if_false,if_true,and_false,false_and,Bool.true_eq_false]
  rw[hP]
  clear hP hU
  have hxd:(r.rols.map Rol.toD)[Az Rol.name r.rols c.name]?=some x.toD:=by simp[hx]
  have hdel:=Agj (r.rols.map Rol.toD) (Az Rol.name r.rols c.name) (by simpa using hlt) (by simp;omega)
  rw[Aa8]at hdel
  have hw:IntKind.i64.wrap ((Az Rol.name r.rols c.name:Int)+1)=((Az Rol.name r.rols c.name+1:Nat):Int):=Ae hlt (by simp only[maxLen];omega)
  repeat'((conv=>whnf);first|(apply aI<;>intro hb<;>first|exact absurd hb (by decide)|(exfalso;simp only[Ag]at hb<;>omega)|((try rw[hb]);(try simp only[Aa]at hb)))|(refine eI ?_ ?_;focus (and_intros<;>first|omega|exact rfl|(intro _ hh;cases hh;done)|(simp only[Ag];omega)|(simp;done)|decide))|(intro hfact)|((with_reducible apply Drawn.by0);(focus kernel_rfl);intro hfact;(try simp only[dRS]at hfact))|((simp only[show D.at (0::[].append [3]) (D.ptr r.toD)=some (D.vec Aq 3 (r.rols.map Rol.toD))from rfl,Ci,show D.at [0] (D.ptr r.toD)=some r.toD from rfl,Be]))|(refine CallIs.mk ⟨_,_,hf,?_⟩)|((simp only[List.tail,List.headD,hw]))|(refine CallWp.mk ⟨_,hdel,?_⟩;rintro _ _ ⟨rfl,rfl⟩))
  all_goals(try(conv=>whnf))
  refine LoopWq.by (X:=Nat) (fun k=>[(197,.own [] (.ptr (.st [.it (.int .i64 r.rev),.vec Ax 3 ((r.tens.map Ten.toI).map D.it),.vec Ar 5 ((Ee c.name r.usrs k).map Usr.toD),.vec Aq 3 ((Da (Az Rol.name r.rols c.name) r.rols).map Rol.toD)]))),(3,if k=0 then .box (.one (.i c.toI))else .rp c.toI),(106,.v (.int .i64 k))]) (fun k=>k≤r.usrs.length) (fun k=>r.usrs.length - k)
   0 (by kernel_rfl) (by omega) ?_
  intro k hk2
  have hlen:(r.usrs.map Usr.toD).length=r.usrs.length:=by simp
  by_cases hk3:k<r.usrs.length
  case neg=>
   obtain rfl:k=r.usrs.length:=by omega
   rw[Abp]
   have hlt1:¬decide ((r.usrs.length:Int)<((r.usrs.map Usr.toD).length:Int))=true:=by simp
   by_cases hk0:r.usrs.length=0
   ·rw[if_pos hk0]
    repeat'((conv=>whnf);(apply aI<;>intro hb<;>first|exact absurd hb (by assumption)|((try rw[hb]);(try simp only[Aa]at hb))))
    all_goals(try(conv=>whnf))
    exact Done.mk ⟨by kernel_rfl,by kernel_rfl⟩ (by kernel_rfl)
   ·rw[if_neg hk0]
    repeat'((conv=>whnf);(apply aI<;>intro hb<;>first|exact absurd hb (by assumption)|((try rw[hb]);(try simp only[Aa]at hb))))
    all_goals(try(conv=>whnf))
    exact Done.mk ⟨by kernel_rfl,by kernel_rfl⟩ (by kernel_rfl)
  obtain⟨u,hu⟩:∃u,r.usrs[k]?=some u:=⟨_,List.getElem?_eq_getElem hk3⟩
  have hlt1:¬decide ((k:Int)<((r.usrs.map Usr.toD).length:Int))=false:=by simp[hk3]
  have hul:=b4 u (List.mem_of_getElem? hu)
  have hdl:=(Agm u.roles c (by omega)).ofVec0 (by decide)
  have hpg:((Ee c.name r.usrs k).map Usr.toD)[k]?=some u.toD:=by rw[List.getElem?_map,Abq hu];rfl
  have hps:((Ee c.name r.usrs k).map Usr.toD).set k (Nk c.name u).toD=(Ee c.name r.usrs (k+1)).map Usr.toD:=by rw[←Abr hu,List.map_set]
  have hpl:((Ee c.name r.usrs k).map Usr.toD).length=r.usrs.length:=by rw[List.length_map,Vj]
  have hk10:¬k+1=0:=by omega
  have hws:IntKind.i64.wrap ((k:Int)+1)=((k+1:Nat):Int):=Ae hk3 (by simp only[maxLen];omega)
  obtain⟨L,hL⟩:∃L,L=(Ee c.name r.usrs k).map Usr.toD:=⟨_,rfl⟩
  rw[←hL]at hpg hps hpl ⊢
  by_cases hk0:k=0
  ·rw[if_pos hk0]
   repeat'((conv=>whnf);first|(apply aI<;>intro hb<;>first|exact absurd hb (by assumption)|((try rw[hb]);(try simp only[Aa]at hb)))|(refine eI ?_ ?_;focus (and_intros<;>first|omega|exact rfl|(intro _ hh;cases hh;done)|(simp only[Ag];omega)|(simp;done)|decide))|(refine Drawn.mk (by kernel_rfl) (by repeat'((conv=>whnf);first|exact True.intro|refine And.intro ?_ ?_|rfl|(dsimp only[eyeP,eyeO,eyeR,eyeH,seen];rfl))) (fun hfact=>?_);(try simp only[dRS]at hfact))|(refine CallIs.mk ⟨_,_,hdl,?_⟩)|((first|with_reducible apply Eo|((with_reducible apply Bm);(focus rfl)));(focus (simp only[D.at,D.put,D.kid,D.setKid,List.cons_append,List.nil_append,List.append,List.getElem?_cons_zero,List.getElem?_cons_succ,Int.toNat_natCast,List.getElem?_set_self',Option.map_eq_map,Option.map_some,List.set_cons_zero,List.set_cons_succ,List.set_set,Function.const_apply,List.map_cons,List.map_nil,mkSt,A1,D.toI,toIs,Aj,List.getElem?_map,List.length_map,List.length_set,hpg]<;>exact rfl));(try(focus exact rfl))))
   all_goals(try(conv=>whnf))
   refine Round.by (k+1) ?_ (by omega) (by omega)
   rw[if_neg hk10,hws, ←hps]
   show norm _ _=upd _ _
   kernel_rfl
  ·rw[if_neg hk0]
   repeat'((conv=>whnf);first|(apply aI<;>intro hb<;>first|exact absurd hb (by assumption)|((try rw[hb]);(try simp only[Aa]at hb)))|(refine eI ?_ ?_;focus (and_intros<;>first|omega|exact rfl|(intro _ hh;cases hh;done)|(simp only[Ag];omega)|(simp;done)|decide))|(refine Drawn.mk (by kernel_rfl) (by repeat'((conv=>whnf);first|exact True.intro|refine And.intro ?_ ?_|rfl|(dsimp only[eyeP,eyeO,eyeR,eyeH,seen];rfl))) (fun hfact=>?_);(try simp only[dRS]at hfact))|(refine CallIs.mk ⟨_,_,hdl,?_⟩)|((first|with_reducible apply Eo|((with_reducible apply Bm);(focus rfl)));(focus (simp only[D.at,D.put,D.kid,D.setKid,List.cons_append,List.nil_append,List.append,List.getElem?_cons_zero,List.getElem?_cons_succ,Int.toNat_natCast,List.getElem?_set_self',Option.map_eq_map,Option.map_some,List.set_cons_zero,List.set_cons_succ,List.set_set,Function.const_apply,List.map_cons,List.map_nil,mkSt,A1,D.toI,toIs,Aj,List.getElem?_map,List.length_map,List.length_set,hpg]<;>exact rfl));(try(focus exact rfl))))
   all_goals(try(conv=>whnf))
   refine Round.by (k+1) ?_ (by omega) (by omega)
   rw[if_neg hk10,hws, ←hps]
   show norm _ _=upd _ _
   kernel_rfl

open Go.Proofs
def Cp (s:List Gra):SV:=match s with
 | []=>.vec Bt 4 []
 |a::t=>.own [] (.vec Bt 4 (((a::t).map Gra.toI).map D.it))
def gsp (sp:Sp) (l:List Sp):Nat→Sp
 |0=>sp
 |n+1=>(l[n]?).getD sp
theorem Ag0 (r:Roll) (hs:r.Small) (c:Cmd) (hk:c.kind=12):Fn Tryz.prog Ha [.own [] (.ptr r.toD),.v c.toI] (Is (.v (.int .i64 (Bi r c).2)) [.own [] (.ptr (Em r c)),.no]):=by
 refine Hg ?_ (by simp)
 have hs':=hs
 obtain⟨b1,b2,b3,b4,b5⟩:=hs
 have hf:=Jh r.rols c.name (by omega)
 have hU:Em r c=(Bi r c).1.toD:=by simp[Em,hk]
 rw[hU]
 have hg:=Hc c.grant.sp
 cases hgr:decide (Bj c.grant.sp)with
 |false=>
  rw[hgr]at hg
  rw[show Bi r c=(r,1)by simp only[Bi,hk,hgr,Int.reduceEq,if_false,if_true,and_self,false_and]]
  repeat'((conv=>whnf);first|(apply aI<;>intro hb<;>first|exact absurd hb (by decide)|(exfalso;simp only[Ag]at hb<;>omega)|((try rw[hb]);(try simp only[Aa]at hb)))|(refine eI ?_ ?_;focus (and_intros<;>first|omega|exact rfl|(intro _ hh;cases hh;done)|(simp;done)|decide))|((with_reducible apply Drawn.by0);(focus kernel_rfl);intro hfact;(try simp only[dRS]at hfact))|((simp only[show D.at (0::[].append [3]) (D.ptr r.toD)=some (D.vec Aq 3 (r.rols.map Rol.toD))from rfl,Ci,show D.at [0] (D.ptr r.toD)=some r.toD from rfl,Be]))|(refine CallIs.mk ⟨_,_,hf,?_⟩)|(refine CallWp.mk ⟨_,hg,?_⟩;rintro _ _ ⟨rfl,rfl⟩))
  all_goals(try(conv=>whnf))
  all_goals exact Done.mk ⟨by kernel_rfl,by kernel_rfl⟩ (by kernel_rfl)
 |true=>
 rw[hgr]at hg
 cases hb:Bv Rol.name r.rols c.name with
 |false=>
  rw[hb]at hf
  rw[show Bi r c=(r,16)by simp only[Bi,hk,hgr,hb,Int.reduceEq,if_false,if_true,and_false,false_and,Bool.true_eq_false]]
  repeat'((conv=>whnf);first|(apply aI<;>intro hb<;>first|exact absurd hb (by decide)|(exfalso;simp only[Ag]at hb<;>omega)|((try rw[hb]);(try simp only[Aa]at hb)))|(refine eI ?_ ?_;focus (and_intros<;>first|omega|exact rfl|(intro _ hh;cases hh;done)|(simp;done)|decide))|((with_reducible apply Drawn.by0);(focus kernel_rfl);intro hfact;(try simp only[dRS]at hfact))|((simp only[show D.at (0::[].append [3]) (D.ptr r.toD)=some (D.vec Aq 3 (r.rols.map Rol.toD))from rfl,Ci,show D.at [0] (D.ptr r.toD)=some r.toD from rfl,Be]))|(refine CallIs.mk ⟨_,_,hf,?_⟩)|(refine CallWp.mk ⟨_,hg,?_⟩;rintro _ _ ⟨rfl,rfl⟩))
  all_goals(try(conv=>whnf))
  all_goals exact Done.mk ⟨by kernel_rfl,by kernel_rfl⟩ (by kernel_rfl)
 |true=>
  rw[hb]at hf
  obtain⟨x,hx, -⟩:=Ep hb
  have hlt:Az Rol.name r.rols c.name<r.rols.length:=(List.getElem?_eq_some_iff.1 hx).1
  have hxl:=b5 x (List.mem_of_getElem? hx)
  have hP:Bi r c=(if 8<((revM x.grants c.grant.sp).length:Int)then(r,17)
   else({r with rols:=r.rols.set (Az Rol.name r.rols c.name) {x with grants:=revM x.grants c.grant.sp}},0)):=by
   simp only[Bi,hk,hgr,hb,hx,Int.reduceEq,if_false,if_true,and_false,false_and,Bool.true_eq_false]
  rw[hP]
  clear hP hU
  have hxd:(r.rols.map Rol.toD)[Az Rol.name r.rols c.name]?=some x.toD:=by simp[hx]
  repeat'((conv=>whnf);first|(apply aI<;>intro hb<;>first|exact absurd hb (by decide)|(exfalso;simp only[Ag]at hb<;>omega)|((try rw[hb]);(try simp only[Aa]at hb)))|(refine eI ?_ ?_;focus (and_intros<;>first|omega|exact rfl|(intro _ hh;cases hh;done)|(simp only[Ag];omega)|(simp;done)|decide))|(intro hfact)|((with_reducible apply Drawn.by0);(focus kernel_rfl);intro hfact;(try simp only[dRS]at hfact))|((simp only[show D.at (0::[].append [3]) (D.ptr r.toD)=some (D.vec Aq 3 (r.rols.map Rol.toD))from rfl,Ci,show D.at [0] (D.ptr r.toD)=some r.toD from rfl,Be]))|(refine CallIs.mk ⟨_,_,hf,?_⟩)|(refine CallWp.mk ⟨_,hg,?_⟩;rintro _ _ ⟨rfl,rfl⟩)|((((first|with_reducible apply Bm|with_reducible apply Md);(focus rfl)));(focus (simp only[D.at,D.put,D.kid,D.setKid,List.cons_append,List.nil_append,List.append,List.getElem?_cons_zero,List.getElem?_cons_succ,Int.toNat_natCast,List.getElem?_set_self',Option.map_eq_map,Option.map_some,List.set_cons_zero,List.set_cons_succ,List.set_set,Function.const_apply,List.map_cons,List.map_nil,mkSt,A1,D.toI,toIs,Aj,List.getElem?_map,List.length_map,List.length_set,hxd]<;>exact rfl));(try(focus exact rfl))))
  all_goals(try(conv=>whnf))
  have hAns:runL (F3 (De c.grant.sp)) Me x.grants []=revM x.grants c.grant.sp:=Jx _ _ _
  have hm:x.grants.length≤maxLen:=by simp only[maxLen];omega
  refine each x.grants _ _ _ (fun k s=>[(11,Cp s),(162,.v (.int .i64 k))]) (fun k s=>s.length≤5*k) [] (by kernel_rfl) (by simp) hAns ?_ ?_<;>clear hAns
  ·rintro k s e he hk hi hA
   try dsimp only at hi hA ⊢
   have hrl:=J4 e.sp c.grant.sp
   have hol:=Uf c.grant.sp s e
   have m1:=Amm [e.sp] c.grant.sp (by simp)
   rw[←An5]at m1
   have hge:((x.grants.map Gra.toI).map D.it)[k]?=some (.it e.toI):=by simp[he]
   rcases s with _|⟨a,t⟩
   ·simp only[Cp]
    repeat'((conv=>whnf);first|(apply aI<;>intro hb<;>first|(exfalso;simp only[Ag]at hb<;>omega)|((try rw[hb]);(try simp only[Aa]at hb)))|(refine eI ?_ ?_;focus (and_intros<;>first|omega|exact rfl|(intro _ hh;cases hh;done)|exact B5 rfl|(simp only[Ag];omega)|(simp;done)|decide))|(intro hfact)|(refine CallWp.mk ⟨_,m1,?_⟩;rintro _ _ ⟨rfl,rfl⟩)|((((first|with_reducible apply Bm|with_reducible apply Md);(focus rfl)));(focus (simp only[D.at,D.put,D.kid,D.setKid,List.cons_append,List.nil_append,List.append,List.getElem?_cons_zero,List.getElem?_cons_succ,Int.toNat_natCast,List.getElem?_set_self',Option.map_eq_map,Option.map_some,List.set_cons_zero,List.set_cons_succ,List.set_set,Function.const_apply,List.map_cons,List.map_nil,mkSt,A1,D.toI,toIs,Aj,List.getElem?_map,List.length_map,List.length_set,hxd,hge]<;>exact rfl));(try(focus exact rfl))))
    all_goals(try(conv=>whnf))
    have hA2:runL (F3 (addG e)) Me (Ef [e.sp] c.grant.sp) []=De c.grant.sp [] e:=Jx _ _ _
    obtain⟨l2,hl2⟩:∃l2,l2=Ef [e.sp] c.grant.sp:=⟨_,rfl⟩
    rw[←hl2]at hA2 hrl ⊢
    refine each l2 _ _ _ (fun k' s'=>[(11,Cp s'),(13,.box (.one (.i (Gra.toI ⟨gsp e.sp l2 k',e.r,e.w⟩)))),(174,.v (.int .i64 k'))]) (fun k' s'=>s'.length≤(([]:List Gra):List Gra).length+k') [] (by kernel_rfl) (by simp) hA2 ?_ ?_<;>clear hA2
    ·clear hA
     rintro k' s' e' he' hk' hi' hA
     try dsimp only at hi' hA ⊢
     have hm2:l2.length≤maxLen:=by simp only[maxLen];omega
     have hgn:gsp e.sp l2 (k'+1)=e':=by simp only[gsp,he',Option.getD_some]
     have hgc:=J7 s' ⟨e',e.r,e.w⟩ (by omega)
     generalize gsp e.sp l2 k'=gk at*
     rcases s' with _|⟨b,q⟩
     ·simp only[Cp]
      repeat'((conv=>whnf);first|(apply aI<;>intro hb<;>first|(exfalso;simp only[Ag]at hb<;>omega)|((try rw[hb]);(try simp only[Aa]at hb)))|(refine eI ?_ ?_;focus (and_intros<;>first|omega|exact rfl|exact B5 rfl|(simp only[Ag];omega)|(simp;done)))|((try dsimp only);first|rw[Au he']|rw[Am he']|rw[An he'])|(refine CallWp.mk ⟨_,hgc,?_⟩;rintro _ _ ⟨rfl,rfl⟩))
      all_goals(try(conv=>whnf))
      all_goals(refine RoundE.by (addG e [] e') ?_ ?_ hA;rotate_left;(have h1:=Fb e [] e';have h2:=hi';(try dsimp only at h2 ⊢);simp only[List.length_cons,List.length_nil]at h1 h2 ⊢;omega))
      all_goals(rw[Ae hk' hm2,hgn];unfold addG;rename_i hb;rw[hb];simp only[if_true,Bool.false_eq_true,if_false,Cp,List.nil_append,List.cons_append,List.map_append,List.map_cons,List.map_nil])
      all_goals(show norm _ _=upd _ _;kernel_rfl)
     ·have hq:q.length+1≤5005:=by
       have h2:=hi'
       have h3:=hi
       simp only[List.length_cons,List.length_nil]at h2 h3
       omega
      simp only[Cp]
      repeat'((conv=>whnf);first|(apply aI<;>intro hb<;>first|(exfalso;simp only[Ag]at hb<;>omega)|((try rw[hb]);(try simp only[Aa]at hb)))|(refine eI ?_ ?_;focus (and_intros<;>first|omega|exact rfl|exact B5 rfl|(simp only[Ag];omega)|(simp;done)))|((simp only[show D.at [] (D.vec Bt 4 (List.map D.it (List.map Gra.toI (b::q))))=some (D.vec Bt 4 (List.map D.it (List.map Gra.toI (b::q))))from rfl,D.toI,Aj]))|((try dsimp only);first|rw[Au he']|rw[Am he']|rw[An he'])|(refine CallWp.mk ⟨_,hgc,?_⟩;rintro _ _ ⟨rfl,rfl⟩))
      all_goals(try(conv=>whnf))
      all_goals(refine RoundE.by (addG e (b::q) e') ?_ ?_ hA;rotate_left;(have h1:=Fb e (b::q) e';have h2:=hi';(try dsimp only at h2 ⊢);simp only[List.length_cons,List.length_nil]at h1 h2 ⊢;omega))
      all_goals(rw[Ae hk' hm2,hgn];unfold addG;rename_i hb;rw[hb];simp only[if_true,Bool.false_eq_true,if_false,Cp,List.nil_append,List.cons_append,List.map_append,List.map_cons,List.map_nil])
      all_goals(show norm _ _=upd _ _;kernel_rfl)
    ·rintro s' k' rfl hi' hA'
     try dsimp only at hi' hA' ⊢
     obtain rfl:s'=De c.grant.sp [] e:=hA'
     obtain⟨V,hV⟩:∃V,V=De c.grant.sp [] e:=⟨_,rfl⟩
     rw[←hV]
     rcases V with _|⟨b,q⟩
     ·simp only[Cp]
      repeat'((conv=>whnf);(apply aI<;>intro hb<;>first|(exfalso;simp only[Ag]at hb<;>omega)|((try rw[hb]);(try simp only[Aa]at hb))))
      all_goals(try(conv=>whnf))
      refine RoundE.by (De c.grant.sp [] e) ?_ (Nat.le_trans hol (by have h2:=hi;simp only[List.length_cons,List.length_nil]at h2 ⊢;omega)) hA
      rw[Ae hk hm, ←hV]
      simp only[Cp]
      show norm _ _=upd _ _
      kernel_rfl
     ·simp only[Cp]
      repeat'((conv=>whnf);(apply aI<;>intro hb<;>first|(exfalso;simp only[Ag]at hb<;>omega)|((try rw[hb]);(try simp only[Aa]at hb))))
      all_goals(try(conv=>whnf))
      refine RoundE.by (De c.grant.sp [] e) ?_ (Nat.le_trans hol (by have h2:=hi;simp only[List.length_cons,List.length_nil]at h2 ⊢;omega)) hA
      rw[Ae hk hm, ←hV]
      simp only[Cp]
      show norm _ _=upd _ _
      kernel_rfl
   ·simp only[Cp]
    repeat'((conv=>whnf);first|(apply aI<;>intro hb<;>first|(exfalso;simp only[Ag]at hb<;>omega)|((try rw[hb]);(try simp only[Aa]at hb)))|(refine eI ?_ ?_;focus (and_intros<;>first|omega|exact rfl|(intro _ hh;cases hh;done)|exact B5 rfl|(simp only[Ag];omega)|(simp;done)|decide))|(intro hfact)|(refine CallWp.mk ⟨_,m1,?_⟩;rintro _ _ ⟨rfl,rfl⟩)|((((first|with_reducible apply Bm|with_reducible apply Md);(focus rfl)));(focus (simp only[D.at,D.put,D.kid,D.setKid,List.cons_append,List.nil_append,List.append,List.getElem?_cons_zero,List.getElem?_cons_succ,Int.toNat_natCast,List.getElem?_set_self',Option.map_eq_map,Option.map_some,List.set_cons_zero,List.set_cons_succ,List.set_set,Function.const_apply,List.map_cons,List.map_nil,mkSt,A1,D.toI,toIs,Aj,List.getElem?_map,List.length_map,List.length_set,hxd,hge]<;>exact rfl));(try(focus exact rfl))))
    all_goals(try(conv=>whnf))
    have hA2:runL (F3 (addG e)) Me (Ef [e.sp] c.grant.sp) (a::t)=De c.grant.sp (a::t) e:=Jx _ _ _
    obtain⟨l2,hl2⟩:∃l2,l2=Ef [e.sp] c.grant.sp:=⟨_,rfl⟩
    rw[←hl2]at hA2 hrl ⊢
    refine each l2 _ _ _ (fun k' s'=>[(11,Cp s'),(13,.box (.one (.i (Gra.toI ⟨gsp e.sp l2 k',e.r,e.w⟩)))),(174,.v (.int .i64 k'))]) (fun k' s'=>s'.length≤((a::t):List Gra).length+k') (a::t) (by kernel_rfl) (by simp) hA2 ?_ ?_<;>clear hA2
    ·clear hA
     rintro k' s' e' he' hk' hi' hA
     try dsimp only at hi' hA ⊢
     have hm2:l2.length≤maxLen:=by simp only[maxLen];omega
     have hgn:gsp e.sp l2 (k'+1)=e':=by simp only[gsp,he',Option.getD_some]
     have hgc:=J7 s' ⟨e',e.r,e.w⟩ (by omega)
     generalize gsp e.sp l2 k'=gk at*
     rcases s' with _|⟨b,q⟩
     ·simp only[Cp]
      repeat'((conv=>whnf);first|(apply aI<;>intro hb<;>first|(exfalso;simp only[Ag]at hb<;>omega)|((try rw[hb]);(try simp only[Aa]at hb)))|(refine eI ?_ ?_;focus (and_intros<;>first|omega|exact rfl|exact B5 rfl|(simp only[Ag];omega)|(simp;done)))|((try dsimp only);first|rw[Au he']|rw[Am he']|rw[An he'])|(refine CallWp.mk ⟨_,hgc,?_⟩;rintro _ _ ⟨rfl,rfl⟩))
      all_goals(try(conv=>whnf))
      all_goals(refine RoundE.by (addG e [] e') ?_ ?_ hA;rotate_left;(have h1:=Fb e [] e';have h2:=hi';(try dsimp only at h2 ⊢);simp only[List.length_cons,List.length_nil]at h1 h2 ⊢;omega))
      all_goals(rw[Ae hk' hm2,hgn];unfold addG;rename_i hb;rw[hb];simp only[if_true,Bool.false_eq_true,if_false,Cp,List.nil_append,List.cons_append,List.map_append,List.map_cons,List.map_nil])
      all_goals(show norm _ _=upd _ _;kernel_rfl)
     ·have hq:q.length+1≤5005:=by
       have h2:=hi'
       have h3:=hi
       simp only[List.length_cons,List.length_nil]at h2 h3
       omega
      simp only[Cp]
      repeat'((conv=>whnf);first|(apply aI<;>intro hb<;>first|(exfalso;simp only[Ag]at hb<;>omega)|((try rw[hb]);(try simp only[Aa]at hb)))|(refine eI ?_ ?_;focus (and_intros<;>first|omega|exact rfl|exact B5 rfl|(simp only[Ag];omega)|(simp;done)))|((simp only[show D.at [] (D.vec Bt 4 (List.map D.it (List.map Gra.toI (b::q))))=some (D.vec Bt 4 (List.map D.it (List.map Gra.toI (b::q))))from rfl,D.toI,Aj]))|((try dsimp only);first|rw[Au he']|rw[Am he']|rw[An he'])|(refine CallWp.mk ⟨_,hgc,?_⟩;rintro _ _ ⟨rfl,rfl⟩))
      all_goals(try(conv=>whnf))
      all_goals(refine RoundE.by (addG e (b::q) e') ?_ ?_ hA;rotate_left;(have h1:=Fb e (b::q) e';have h2:=hi';(try dsimp only at h2 ⊢);simp only[List.length_cons,List.length_nil]at h1 h2 ⊢;omega))
      all_goals(rw[Ae hk' hm2,hgn];unfold addG;rename_i hb;rw[hb];simp only[if_true,Bool.false_eq_true,if_false,Cp,List.nil_append,List.cons_append,List.map_append,List.map_cons,List.map_nil])
      all_goals(show norm _ _=upd _ _;kernel_rfl)
    ·rintro s' k' rfl hi' hA'
     try dsimp only at hi' hA' ⊢
     obtain rfl:s'=De c.grant.sp (a::t) e:=hA'
     obtain⟨V,hV⟩:∃V,V=De c.grant.sp (a::t) e:=⟨_,rfl⟩
     rw[←hV]
     rcases V with _|⟨b,q⟩
     ·simp only[Cp]
      repeat'((conv=>whnf);(apply aI<;>intro hb<;>first|(exfalso;simp only[Ag]at hb<;>omega)|((try rw[hb]);(try simp only[Aa]at hb))))
      all_goals(try(conv=>whnf))
      refine RoundE.by (De c.grant.sp (a::t) e) ?_ (Nat.le_trans hol (by have h2:=hi;simp only[List.length_cons,List.length_nil]at h2 ⊢;omega)) hA
      rw[Ae hk hm, ←hV]
      simp only[Cp]
      show norm _ _=upd _ _
      kernel_rfl
     ·simp only[Cp]
      repeat'((conv=>whnf);(apply aI<;>intro hb<;>first|(exfalso;simp only[Ag]at hb<;>omega)|((try rw[hb]);(try simp only[Aa]at hb))))
      all_goals(try(conv=>whnf))
      refine RoundE.by (De c.grant.sp (a::t) e) ?_ (Nat.le_trans hol (by have h2:=hi;simp only[List.length_cons,List.length_nil]at h2 ⊢;omega)) hA
      rw[Ae hk hm, ←hV]
      simp only[Cp]
      show norm _ _=upd _ _
      kernel_rfl
  ·rintro s k rfl hi hA
   try dsimp only at hi hA ⊢
   obtain rfl:s=revM x.grants c.grant.sp:=hA
   obtain⟨V,hV⟩:∃V,V=revM x.grants c.grant.sp:=⟨_,rfl⟩
   rw[←hV]
   have hset:(r.rols.set (Az Rol.name r.rols c.name) {x with grants:=V}).map Rol.toD=(r.rols.map Rol.toD).set (Az Rol.name r.rols c.name) (Rol.toD {x with grants:=V}):=by simp[List.map_set]
   have hD:Roll.toD {r with rols:=r.rols.set (Az Rol.name r.rols c.name) {x with grants:=V}}= .st [.it (.int .i64 r.rev),.vec Ax 3 ((r.tens.map Ten.toI).map D.it),.vec Ar 5 (r.usrs.map Usr.toD),.vec Aq 3 ((r.rols.map Rol.toD).set (Az Rol.name r.rols c.name) (.st [.it (.str x.name),.it (.str x.ten),.vec Bt 4 ((V.map Gra.toI).map D.it)]))]:=by
    show D.st [_,_,_,D.vec _ _ (List.map _ (r.rols.set _ _))]=_
    rw[hset]
   by_cases h8:8<(V.length:Int)
   ·rw[if_pos h8]
    rcases V with _|⟨a,t⟩
    ·simp at h8
    ·simp only[Cp]
     repeat'((conv=>whnf);first|(apply aI<;>intro hb<;>first|(exfalso;simp only[Ag]at hb<;>omega)|((try rw[hb]);(try simp only[Aa]at hb)))|(refine eI ?_ ?_;focus (and_intros<;>first|omega|exact rfl|(simp;done)))|(intro hfact)|((first|with_reducible apply Uc|((with_reducible apply Bm);(focus rfl)));(focus (simp only[D.at,D.put,D.kid,D.setKid,List.cons_append,List.nil_append,List.append,List.getElem?_cons_zero,List.getElem?_cons_succ,Int.toNat_natCast,List.getElem?_set_self',Option.map_eq_map,Option.map_some,List.set_cons_zero,List.set_cons_succ,List.set_set,Function.const_apply,List.map_cons,List.map_nil,mkSt,A1,D.toI,toIs,Aj,List.getElem?_map,List.length_map,List.length_set,hxd]<;>exact rfl));(try(focus exact rfl))))
     all_goals(try(conv=>whnf))
     all_goals first|(exfalso;simp at h8 hb;omega)|(exfalso;simp at h8;omega)|exact Done.mk ⟨by kernel_rfl,by kernel_rfl⟩ (by kernel_rfl)
   ·rw[if_neg h8,hD]
    rcases V with _|⟨a,t⟩
    ·simp only[Cp]
     repeat'((conv=>whnf);first|(apply aI<;>intro hb<;>first|exact absurd hb (by decide)|(exfalso;simp only[Ag]at hb<;>omega)|((try rw[hb]);(try simp only[Aa]at hb)))|(refine eI ?_ ?_;focus (and_intros<;>first|omega|exact rfl|(simp;done)))|(intro hfact)|((first|with_reducible apply Uc|((with_reducible apply Bm);(focus rfl)));(focus (simp only[D.at,D.put,D.kid,D.setKid,List.cons_append,List.nil_append,List.append,List.getElem?_cons_zero,List.getElem?_cons_succ,Int.toNat_natCast,List.getElem?_set_self',Option.map_eq_map,Option.map_some,List.set_cons_zero,List.set_cons_succ,List.set_set,Function.const_apply,List.map_cons,List.map_nil,mkSt,A1,D.toI,toIs,Aj,List.getElem?_map,List.length_map,List.length_set,hxd]<;>exact rfl));(try(focus exact rfl))))
     all_goals(try(conv=>whnf))
     all_goals first|(exfalso;simp at h8 hb;omega)|(exfalso;simp at h8;omega)|exact Done.mk ⟨by kernel_rfl,by kernel_rfl⟩ (by kernel_rfl)
    ·simp only[Cp]
     repeat'((conv=>whnf);first|(apply aI<;>intro hb<;>first|(exfalso;simp only[Ag]at hb<;>omega)|((try rw[hb]);(try simp only[Aa]at hb)))|(refine eI ?_ ?_;focus (and_intros<;>first|exact rfl|(simp;done)))|(intro hfact)|((first|with_reducible apply Uc|((with_reducible apply Bm);(focus rfl)));(focus (simp only[D.at,D.put,D.kid,D.setKid,List.cons_append,List.nil_append,List.append,List.getElem?_cons_zero,List.getElem?_cons_succ,Int.toNat_natCast,List.getElem?_set_self',Option.map_eq_map,Option.map_some,List.set_cons_zero,List.set_cons_succ,List.set_set,Function.const_apply,List.map_cons,List.map_nil,mkSt,A1,D.toI,toIs,Aj,List.getElem?_map,List.length_map,List.length_set,hxd]<;>exact rfl));(try(focus exact rfl))))
     all_goals(try(conv=>whnf))
     all_goals first|(exfalso;simp at h8 hb;omega)|(exfalso;simp at h8;omega)|exact Done.mk ⟨by kernel_rfl,by kernel_rfl⟩ (by kernel_rfl)

open Go.Proofs
def doP (r:Roll) (c:Cmd):Roll × Int:=
 if c.kind=4∨c.kind=5 then Ff r c
 else if c.kind=6∨c.kind=7∨c.kind=8 then Cc r c
 else if c.kind=13∨c.kind=14 then Dv r c
 else Bi r c
def doD (r:Roll) (c:Cmd):D:=
 if c.kind=4∨c.kind=5 then(Ff r c).1.toD
 else if c.kind=6∨c.kind=7∨c.kind=8 then Gz r c
 else if c.kind=13∨c.kind=14 then(Dv r c).1.toD
 else Em r c
theorem Amn (r:Roll) (hs:r.Small) (c:Cmd) (hk:9≤c.kind∧c.kind≤12):Fn Tryz.prog Ha [.own [] (.ptr r.toD),.v c.toI] (Is (.v (.int .i64 (Bi r c).2)) [.own [] (.ptr (Em r c)),.no]):=by
 rcases(by omega:c.kind=9∨c.kind=10∨c.kind=11∨c.kind=12)with h|h|h|h
 ·exact Ais r hs c h
 ·exact Agy r hs c h
 ·exact Agz r hs c h
 ·exact Ag0 r hs c h
theorem Aqf (r:Roll) (hs:r.Small) (c:Cmd) (hc:c.salt.length≤100000∧c.word.length≤100000) (hk:4≤c.kind∧c.kind≤14):Fn Tryz.prog Amz [.own [] (.ptr r.toD),.v c.toI] (Is (.v (.int .i64 (doP r c).2)) [.own [] (.ptr (doD r c)),.no]):=by
 refine Akg ?_ (by simp)
 have t1:=Ag3 r hs c
 have u1:=Ams r hs c hc
 have h1:=Amh r hs c
 unfold doP doD
 by_cases k1:c.kind=4∨c.kind=5
 ·rw[if_pos k1,if_pos k1]
  repeat'((conv=>whnf);first|(apply aI<;>intro hb<;>first|exact absurd hb (by decide)|(exfalso;simp only[Ag]at hb<;>omega)|((try rw[hb]);(try simp only[Aa]at hb)))|(refine eI ?_ ?_;focus (and_intros<;>first|exact rfl|(intro _ hh;cases hh;done)|(simp;done)|decide))|(refine CallWp.mk ⟨_,t1,?_⟩;rintro _ _ ⟨rfl,rfl⟩))
  all_goals(try(conv=>whnf))
  all_goals first|(exfalso;omega)|exact Done.mk ⟨by kernel_rfl,by kernel_rfl⟩ (by kernel_rfl)
 rw[if_neg k1,if_neg k1]
 by_cases k2:c.kind=6∨c.kind=7∨c.kind=8
 ·rw[if_pos k2,if_pos k2]
  repeat'((conv=>whnf);first|(apply aI<;>intro hb<;>first|exact absurd hb (by decide)|(exfalso;simp only[Ag]at hb<;>omega)|((try rw[hb]);(try simp only[Aa]at hb)))|(refine eI ?_ ?_;focus (and_intros<;>first|exact rfl|(intro _ hh;cases hh;done)|(simp;done)|decide))|(refine CallWp.mk ⟨_,u1,?_⟩;rintro _ _ ⟨rfl,rfl⟩))
  all_goals(try(conv=>whnf))
  all_goals first|(exfalso;omega)|exact Done.mk ⟨by kernel_rfl,by kernel_rfl⟩ (by kernel_rfl)
 rw[if_neg k2,if_neg k2]
 by_cases k3:c.kind=13∨c.kind=14
 ·rw[if_pos k3,if_pos k3]
  repeat'((conv=>whnf);first|(apply aI<;>intro hb<;>first|exact absurd hb (by decide)|(exfalso;simp only[Ag]at hb<;>omega)|((try rw[hb]);(try simp only[Aa]at hb)))|(refine eI ?_ ?_;focus (and_intros<;>first|exact rfl|(intro _ hh;cases hh;done)|(simp;done)|decide))|(refine CallWp.mk ⟨_,h1,?_⟩;rintro _ _ ⟨rfl,rfl⟩))
  all_goals(try(conv=>whnf))
  all_goals first|(exfalso;omega)|exact Done.mk ⟨by kernel_rfl,by kernel_rfl⟩ (by kernel_rfl)
 rw[if_neg k3,if_neg k3]
 have r1:=Amn r hs c (by omega)
 repeat'((conv=>whnf);first|(apply aI<;>intro hb<;>first|(exfalso;simp only[Ag]at hb<;>omega)|((try rw[hb]);(try simp only[Aa]at hb)))|(refine eI ?_ ?_;focus (and_intros<;>first|exact rfl|(intro _ hh;cases hh;done)|(simp;done)|decide))|(refine CallWp.mk ⟨_,r1,?_⟩;rintro _ _ ⟨rfl,rfl⟩))
 all_goals(try(conv=>whnf))
 all_goals first|(exfalso;omega)|exact Done.mk ⟨by kernel_rfl,by kernel_rfl⟩ (by kernel_rfl)

open Go.Proofs
theorem Aix (r:Roll) (c:Cmd):(Ff r c).1.rev=r.rev:=by unfold Ff;repeat' split
                                                      all_goals rfl
theorem Apg (r:Roll) (c:Cmd):(Cc r c).1.rev=r.rev:=by unfold Cc;repeat' split
                                                      all_goals rfl
theorem Ank (r:Roll) (c:Cmd):(Dv r c).1.rev=r.rev:=by unfold Dv;repeat' split
                                                      all_goals rfl
theorem An7 (r:Roll) (c:Cmd):(Bi r c).1.rev=r.rev:=by unfold Bi;repeat' split
                                                      all_goals rfl
theorem Arc (r:Roll) (c:Cmd):(doP r c).1.rev=r.rev:=by
 unfold doP
 split
 ·exact Aix r c
 split
 ·exact Apg r c
 split
 ·exact Ank r c
 ·exact An7 r c
def IsD (d:D) (r:Roll):Prop:=∃a b e,d= .st [.it (.int .i64 r.rev),.vec Ax 3 a,.vec Ar 5 b,.vec Aq 3 e]∧toIs a=some (r.tens.map Ten.toI)∧toIs b=some (r.usrs.map Usr.toI)∧toIs e=some (r.rols.map Rol.toI)
theorem V5 (r:Roll):IsD r.toD r:=⟨_,_,_,rfl,Aj _,Gh _,B6 _⟩
theorem Zq {α:Type} {d:α→D} {f:α→I} {l:List α} (h:toIs (l.map d)=some (l.map f)) (i:Nat) (x:α):toIs (C2 i (.it (f x)) (l.map d))=some ((C2 i x l).map f):=by
 have hap:∀(a b:List D) (u v:List I),toIs a=some u→toIs b=some v→toIs (a++b)=some (u++v):=by
  intro a
  induction a with
  |nil=>intro b u v h1 h2;simp[toIs]at h1;subst h1;simpa using h2
  |cons y a ih=>
   intro b u v h1 h2
   simp only[toIs]at h1
   cases hy:y.toI with
   |none=>rw[hy]at h1;simp at h1
   |some z=>
    cases ha:toIs a with
    |none=>rw[hy,ha]at h1;simp at h1
    |some w=>
     rw[hy,ha]at h1
     simp at h1
     subst h1
     simp only[List.cons_append,toIs,hy,ih b w v ha h2]
 have hsp:∀(l:List α),toIs (l.map d)=some (l.map f)→∀i,toIs ((l.take i).map d)=some ((l.take i).map f)∧toIs ((l.drop i).map d)=some ((l.drop i).map f):=by
  intro l
  induction l with
  |nil=>intro _ i;simp[toIs]
  |cons y l ih=>
   intro h i
   cases i with
   |zero=>exact⟨by simp[toIs],by simpa using h⟩
   |succ i=>
    simp only[List.map_cons,toIs]at h
    cases hy:(d y).toI with
    |none=>rw[hy]at h;simp at h
    |some z=>
     cases ha:toIs (l.map d)with
     |none=>rw[hy,ha]at h;simp at h
     |some w=>
      rw[hy,ha]at h
      simp at h
      obtain⟨rfl,rfl⟩:=h
      obtain⟨i1,i2⟩:=ih ha i
      exact⟨by simp only[List.take_succ_cons,List.map_cons,toIs,hy,i1],by simpa using i2⟩
 obtain⟨s1,s2⟩:=hsp l h i
 unfold C2
 rw[List.map_append,List.map_cons, ←List.map_take, ←List.map_drop]
 exact hap _ _ _ _ s1 (by simp only[toIs,D.toI,s2])
theorem Anq (r:Roll) (c:Cmd):IsD (Gz r c) (Cc r c).1:=by
 unfold Gz
 split
 ·rename_i h
  obtain⟨h6,h0⟩:=h
  have hP:(Cc r c).1= {r with usrs:=C2 (Az Usr.name r.usrs c.name) ⟨c.name,c.other,c.salt,C1 c.salt c.word,[]⟩ r.usrs}:=by
   revert h0
   unfold Cc
   rw[if_pos h6]
   repeat' split
   all_goals simp
  rw[hP]
  exact⟨_,_,_,rfl,Aj _,Zq (d:=Usr.toD) (f:=Usr.toI) (Gh r.usrs) _ _,B6 _⟩
 ·exact V5 _
theorem Anp (r:Roll) (c:Cmd):IsD (Em r c) (Bi r c).1:=by
 unfold Em
 split
 ·rename_i h
  obtain⟨h6,h0⟩:=h
  have hP:(Bi r c).1= {r with rols:=C2 (Az Rol.name r.rols c.name) ⟨c.name,c.other,[]⟩ r.rols}:=by
   revert h0
   unfold Bi
   rw[if_pos h6]
   repeat' split
   all_goals simp
  rw[hP]
  exact⟨_,_,_,rfl,Aj _,Gh _,Zq (d:=Rol.toD) (f:=Rol.toI) (B6 r.rols) _ _⟩
 ·exact V5 _
theorem Aro (r:Roll) (c:Cmd):IsD (doD r c) (doP r c).1:=by
 unfold doD doP
 split
 ·exact V5 _
 split
 ·exact Anq r c
 split
 ·exact V5 _
 ·exact Anp r c
def DoP (r:Roll) (c:Cmd):Roll × Int:=
 if c.kind<4∨14<c.kind then(r,1)
 else if 1099511627776≤r.rev then(r,17)
 else if(doP r c).2=0 then({(doP r c).1 with rev:=r.rev+1},0)
 else(r,(doP r c).2)
theorem J6 (r:Roll) (hs:r.Small) (c:Cmd) (hc:c.salt.length≤100000∧c.word.length≤100000) (hrev: -9223372036854775808≤r.rev):Fn Tryz.prog Aa4 [.v r.toI,.v c.toI] (Is (.tup [.i (DoP r c).1.toI,.i (.int .i64 (DoP r c).2)]) [.no,.no]):=by
 refine Fn.isF (x:=[(DoP r c).1.toI,.int .i64 (DoP r c).2]) ?_
 refine Ahx ?_ (by simp)
 have cp:=Agi r hs
 unfold DoP
 by_cases k1:c.kind<4∨14<c.kind
 ·rw[if_pos k1]
  repeat'((conv=>whnf);first|(apply aI<;>intro hb<;>first|exact absurd hb (by decide)|(exfalso;simp only[Ag]at hb<;>omega)|((try rw[hb]);(try simp only[Aa]at hb)))|(refine eI ?_ ?_;focus (and_intros<;>first|exact rfl|(intro _ hh;cases hh;done)|(simp;done)|decide))|(refine CallWp.mk ⟨_,cp,?_⟩;rintro _ _ ⟨rfl,rfl⟩))
  all_goals(try(conv=>whnf))
  all_goals first|(exfalso;omega)|skip
  all_goals(refine Done.mk ⟨?_,by kernel_rfl⟩ (by kernel_rfl))
  all_goals(try simp only[hs])
  all_goals(try simp only[hs, *,if_true,if_false,Bool.false_eq_true,Bool.true_eq_false,Bool.not_true,Bool.not_false,decide_true,decide_false,not_true_eq_false,not_false_eq_true,ne_eq,reduceIte])
  all_goals(try simp only[resD,Bu,I.put,List.replicate_succ,List.replicate_zero,toIs,D.toI,Aj,Bf,List.map_cons,List.map_nil,List.set_cons_zero,List.set_cons_succ,mkSt,A1,List.map_set,Int.toNat_natCast,B6,Gh])
  all_goals(try rfl)
 rw[if_neg k1]
 by_cases k2:1099511627776≤r.rev
 ·rw[if_pos k2]
  repeat'((conv=>whnf);first|(apply aI<;>intro hb<;>first|exact absurd hb (by decide)|(exfalso;simp only[Ag]at hb<;>omega)|((try rw[hb]);(try simp only[Aa]at hb)))|(refine eI ?_ ?_;focus (and_intros<;>first|exact rfl|(intro _ hh;cases hh;done)|(simp;done)|decide))|(refine CallWp.mk ⟨_,cp,?_⟩;rintro _ _ ⟨rfl,rfl⟩))
  all_goals(try(conv=>whnf))
  all_goals first|(exfalso;omega)|skip
  all_goals(refine Done.mk ⟨?_,by kernel_rfl⟩ (by kernel_rfl))
  all_goals(try simp only[hs])
  all_goals(try simp only[hs, *,if_true,if_false,Bool.false_eq_true,Bool.true_eq_false,Bool.not_true,Bool.not_false,decide_true,decide_false,not_true_eq_false,not_false_eq_true,ne_eq,reduceIte])
  all_goals(try simp only[resD,Bu,I.put,List.replicate_succ,List.replicate_zero,toIs,D.toI,Aj,Bf,List.map_cons,List.map_nil,List.set_cons_zero,List.set_cons_succ,mkSt,A1,List.map_set,Int.toNat_natCast,B6,Gh])
  all_goals(try rfl)
 rw[if_neg k2]
 have hd:=Aqf r hs c hc (by omega)
 obtain⟨a,b,e,hD,hta,htb,hte⟩:=Aro r c
 rw[Arc]at hD
 rw[hD]at hd
 have hw:IntKind.i64.wrap (r.rev+1)=r.rev+1:=A5 (by omega)
 generalize doP r c=X at*
 obtain⟨n,x⟩:=X
 dsimp only at*
 by_cases k3:x=0
 ·rw[if_pos k3]
  repeat'((conv=>whnf);first|(apply aI<;>intro hb<;>first|exact absurd hb (by decide)|(exfalso;simp only[Ag]at hb<;>omega)|((try rw[hb]);(try simp only[Aa]at hb);(try subst hb)))|(refine eI ?_ ?_;focus (and_intros<;>first|omega|exact rfl|(intro _ hh;cases hh;done)|(simp;done)|decide))|(refine CallWp.mk ⟨_,cp,?_⟩;rintro _ _ ⟨rfl,rfl⟩)|(refine CallWp.mk ⟨_,hd,?_⟩;rintro _ _ ⟨rfl,rfl⟩)|((try dsimp only);rw[hw]))
  all_goals(try(conv=>whnf))
  all_goals first|(exfalso;omega)|skip
  all_goals(refine Done.mk ⟨?_,by kernel_rfl⟩ (by kernel_rfl))
  all_goals(try simp only[hs])
  all_goals(try simp only[hs, *,if_true,if_false,Bool.false_eq_true,Bool.true_eq_false,Bool.not_true,Bool.not_false,decide_true,decide_false,not_true_eq_false,not_false_eq_true,ne_eq,reduceIte])
  all_goals(try simp only[resD,Bu,I.put,List.replicate_succ,List.replicate_zero,toIs,D.toI,Aj,Bf,List.map_cons,List.map_nil,List.set_cons_zero,List.set_cons_succ,mkSt,A1,List.map_set,Int.toNat_natCast,hta,htb,hte])
  all_goals(try rfl)
 ·rw[if_neg k3]
  repeat'((conv=>whnf);first|(apply aI<;>intro hb<;>first|exact absurd hb (by decide)|(exfalso;simp only[Ag]at hb<;>omega)|((try rw[hb]);(try simp only[Aa]at hb)))|(refine eI ?_ ?_;focus (and_intros<;>first|exact rfl|(intro _ hh;cases hh;done)|(simp;done)|decide))|(refine CallWp.mk ⟨_,cp,?_⟩;rintro _ _ ⟨rfl,rfl⟩)|(refine CallWp.mk ⟨_,hd,?_⟩;rintro _ _ ⟨rfl,rfl⟩))
  all_goals(try(conv=>whnf))
  all_goals first|(exfalso;omega)|skip
  all_goals(refine Done.mk ⟨?_,by kernel_rfl⟩ (by kernel_rfl))
  all_goals(try simp only[hs])
  all_goals(try simp only[hs, *,if_true,if_false,Bool.false_eq_true,Bool.true_eq_false,Bool.not_true,Bool.not_false,decide_true,decide_false,not_true_eq_false,not_false_eq_true,ne_eq,reduceIte])
  all_goals(try simp only[resD,Bu,I.put,List.replicate_succ,List.replicate_zero,toIs,D.toI,Aj,Bf,List.map_cons,List.map_nil,List.set_cons_zero,List.set_cons_succ,mkSt,A1,List.map_set,Int.toNat_natCast,B6,Gh])
  all_goals(try rfl)
end Go.Ab
