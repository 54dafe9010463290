/- Lemmas for the last text. -/
import Derived.Test.YtgcccllpegilnaaGreatDoorA8
set_option linter.unusedVariables false
set_option linter.unusedSimpArgs false
set_option maxRecDepth 100000
set_option maxHeartbeats 40000000
namespace Go.Ab
open Go.Proofs
theorem Yp (a b:Ad) (ha:a.length≤100000) (hb:b.length≤100000):(Bo [a,b]).length≤90000000:=by
 have:=Xe (l:=[a,b]) (m:=100000) (by intro s hs;simp at hs;rcases hs with rfl|rfl<;>assumption)
 simp at this
 omega
theorem L6 (salt word:Ad) (h1:salt.length≤100000) (h2:word.length≤100000):Fn Tryz.prog Ahf [.v (.str salt),.v (.str word)] (Is (.v (.str (C1 salt word))) [.no,.no]):=by
 refine Ae3 ?_ (by simp)
 have j0:=Zh [salt,word] (by simp) (Yp _ _ h1 h2)
 repeat'((conv=>whnf);first|(refine eI ?_ ?_;focus (and_intros<;>first|exact rfl|(intro _ hh;cases hh;done)|exact A0 (by rfl)|(simp;done)|decide))|(refine CallWp.mk ⟨_,j0,?_⟩;rintro _ _ ⟨rfl,rfl⟩))
 all_goals(try(conv=>whnf))
 refine LoopWq.by (X:=Nat) (fun t=>[(5,.v (.str (H9 salt word t))),(10,.v (.int .i64 t))]) (fun t=>t≤8) (fun t=>8 - t)
  0 (by kernel_rfl) (by omega) ?_
 intro t ht
 by_cases ht8:t<8
 case pos=>
  have hlt1:¬decide ((t:Int)<8)=false:=by simp;omega
  have hl:=U6 salt word t
  have hs:H9 salt word (t+1)=sumB (Bo [H9 salt word t,salt]):=rfl
  obtain⟨h,hh⟩:∃h,h=H9 salt word t:=⟨_,rfl⟩
  rw[←hh]at hl hs ⊢
  have j1:=Zh [h,salt] (by simp) (Yp _ _ (by omega) h1)
  repeat'((conv=>whnf);first|(apply aI<;>intro hb<;>first|exact absurd hb (by assumption)|((try rw[hb]);(try simp only[Aa]at hb)))|(refine eI ?_ ?_;focus (and_intros<;>first|exact rfl|(intro _ hh;cases hh;done)|exact A0 (by rfl)|(simp;done)|decide))|(refine CallWp.mk ⟨_,j1,?_⟩;rintro _ _ ⟨rfl,rfl⟩))
  all_goals(try(conv=>whnf))
  refine Round.by (t+1) ?_ ht8 (by omega)
  rw[Ae ht8 (by simp only[maxLen];omega),hs]
  show norm _ _=upd _ _
  kernel_rfl
 have hlt1:¬decide ((t:Int)<8)=true:=by simp;omega
 have ht':t=8:=by omega
 subst ht'
 repeat'((conv=>whnf);(apply aI<;>intro hb<;>first|exact absurd hb (by assumption)|((try rw[hb]);(try simp only[Aa]at hb))))
 all_goals(try(conv=>whnf))
 exact Done.mk ⟨by kernel_rfl,by kernel_rfl⟩ (by kernel_rfl)
abbrev Adq:Ad:=[114,111,111,116]
def Cc (r:Roll) (c:Cmd):Roll × Int:=
 if c.kind=6 then
  if Co c.name=false then(r,5)
  else if ¬(c.word.length≤64∧c.salt.length≤64)then(r,2)
  else if Bv Usr.name r.usrs c.name=true then(r,15)
  else if(getT r.tens c.other).2=false then(r,16)
  else if 16≤(r.usrs.length:Int)then(r,17)
  else({r with usrs:=C2 (Az Usr.name r.usrs c.name) ⟨c.name,c.other,c.salt,C1 c.salt c.word,[]⟩ r.usrs},0)
 else if c.kind=7 then
  if ¬(c.word.length≤64∧c.salt.length≤64)then(r,2)
  else if Bv Usr.name r.usrs c.name=false then(r,16)
  else match r.usrs[Az Usr.name r.usrs c.name]? with
   |none=>(r,16)
   |some u=>({r with usrs:=r.usrs.set (Az Usr.name r.usrs c.name) {u with salt:=c.salt,hash:=C1 c.salt c.word}},0)
 else if Bv Usr.name r.usrs c.name=false then(r,16)
 else if c.name=Adq then(r,1)
 else({r with usrs:=Da (Az Usr.name r.usrs c.name) r.usrs},0)
theorem Aa8 {α β:Type} (f:α→β) (i:Nat) (l:List α):(l.map f).take i++(l.map f).drop (i+1)=(Da i l).map f:=by simp[Da,List.map_take,List.map_drop]
theorem Dd (r:Roll):D.toI (.vec Ar 5 (r.usrs.map Usr.toD))=some (.list (r.usrs.map Usr.toI)):=by simp[D.toI,Gh, -List.map_map]
theorem Ci (r:Roll):D.toI (.vec Aq 3 (r.rols.map Rol.toD))=some (.list (r.rols.map Rol.toI)):=by simp[D.toI,B6, -List.map_map]
theorem Be (r:Roll):D.toI r.toD=some r.toI:=by simp[D.toI,toIs,Aj,B6,Gh, -List.map_map]
def Gz (r:Roll) (c:Cmd):D:=
 if c.kind=6∧(Cc r c).2=0 then .st [.it (.int .i64 r.rev),.vec Ax 3 ((r.tens.map Ten.toI).map D.it),.vec Ar 5 (C2 (Az Usr.name r.usrs c.name) (.it (Usr.toI ⟨c.name,c.other,c.salt,C1 c.salt c.word,[]⟩)) (r.usrs.map Usr.toD)),.vec Aq 3 (r.rols.map Rol.toD)]
 else(Cc r c).1.toD
theorem Aiu (r:Roll) (hs:r.Small) (c:Cmd) (hc:c.salt.length≤100000∧c.word.length≤100000) (hk:c.kind=6):Fn Tryz.prog Ka [.own [] (.ptr r.toD),.v c.toI] (Is (.v (.int .i64 (Cc r c).2)) [.own [] (.ptr (Gz r c)),.no]):=by
 refine Nc ?_ (by simp)
 have hs':=hs
 obtain⟨b1,b2,b3,b4,b5⟩:=hs
 have hf:=Ji r.usrs c.name (by omega)
 have hn:=T4 c.name
 have n1:=D1 c.word
 have n2:=D1 c.salt
 have ht:=Jj r hs' c.other
 have hh:=L6 c.salt c.word (by omega) (by omega)
 repeat'((conv=>whnf);first|(apply aI<;>intro hb<;>first|exact absurd hb (by decide)|(exfalso;simp only[Ag]at hb<;>omega)|((try rw[hb]);(try simp only[Aa]at hb)))|(refine eI ?_ ?_;focus (and_intros<;>first|omega|exact rfl|(intro _ hh;cases hh;done)|(simp;done)|decide))|(intro hfact)|((with_reducible apply Drawn.by0);(focus kernel_rfl);intro hfact;(try simp only[dRS]at hfact))|((simp only[show D.at (0::[].append [2]) (D.ptr r.toD)=some (D.vec Ar 5 (r.usrs.map Usr.toD))from rfl,Dd,show D.at [0] (D.ptr r.toD)=some r.toD from rfl,Be]))|(refine CallIs.mk ⟨_,_,hf,?_⟩)|(refine CallWp.mk ⟨_,hn,?_⟩;rintro _ _ ⟨rfl,rfl⟩)|(refine CallWp.mk ⟨_,n1,?_⟩;rintro _ _ ⟨rfl,rfl⟩)|(refine CallWp.mk ⟨_,n2,?_⟩;rintro _ _ ⟨rfl,rfl⟩)|(refine CallIs.mk ⟨_,_,ht,?_⟩)|(refine CallIs.mk ⟨_,_,hh,?_⟩))
 all_goals(try(conv=>whnf))
 all_goals(
  obtain⟨X,hX⟩:∃X,Cc r c=X:=⟨_,rfl⟩
  obtain⟨Y,hY⟩:∃Y,Gz r c=Y:=⟨_,rfl⟩
  have hY2:=hY
  unfold Gz at hY2
  rw[hX]at hY2
  rw[hX,hY]
  clear hY
  simp[Cc, *, -hY2]at hX
  subst hX
  simp only[hk,true_and,false_and,if_true,if_false,Int.reduceEq]at hY2
  subst hY2)
 all_goals try exact Done.mk ⟨by kernel_rfl,by kernel_rfl⟩ (by kernel_rfl)
 have hle:=H5 Usr.name r.usrs c.name
 have hins:=Agx (r.usrs.map Usr.toD) (.it (Usr.toI ⟨c.name,c.other,c.salt,C1 c.salt c.word,[]⟩)) (Az Usr.name r.usrs c.name) (by simp;omega) (by simp;omega)
 have htn:=La ⟨c.name,c.other,c.salt,C1 c.salt c.word,[]⟩
 refine Te ?_ (by decide)
 repeat'((conv=>whnf);first|(refine eI ?_ ?_;focus (and_intros<;>first|omega|exact rfl|(intro _ hh;cases hh;done)|exact B5 rfl|(simp;done)|decide))|((with_reducible apply Drawn.by0);(focus kernel_rfl);intro hfact;(try simp only[dRS]at hfact))|((simp only[show D.at (0::[].append [2]) (D.ptr r.toD)=some (D.vec Ar 5 (r.usrs.map Usr.toD))from rfl,Dd,show D.at [0] (D.ptr r.toD)=some r.toD from rfl,Be]))|(refine CallIs.mk ⟨_,_,hf,?_⟩)|(refine CallIs.mk ⟨_,_,htn,?_⟩)|(refine CallIs.mk ⟨_,_,hins,?_⟩))
 all_goals(try(conv=>whnf))
 exact Done.mk ⟨by kernel_rfl,by kernel_rfl⟩ (by kernel_rfl)
theorem Aiv (r:Roll) (hs:r.Small) (c:Cmd) (hc:c.salt.length≤100000∧c.word.length≤100000) (hk:c.kind=7):Fn Tryz.prog Ka [.own [] (.ptr r.toD),.v c.toI] (Is (.v (.int .i64 (Cc r c).2)) [.own [] (.ptr (Gz r c)),.no]):=by
 refine Nc ?_ (by simp)
 have hs':=hs
 obtain⟨b1,b2,b3,b4,b5⟩:=hs
 have hf:=Ji r.usrs c.name (by omega)
 have n1:=D1 c.word
 have n2:=D1 c.salt
 have hh:=L6 c.salt c.word (by omega) (by omega)
 have hU:Gz r c=(Cc r c).1.toD:=by simp[Gz,hk]
 rw[hU]
 by_cases hL:c.word.length≤64∧c.salt.length≤64
 case neg=>
  have hP:Cc r c=(r,2):=by simp only[Cc,hk,hL,Int.reduceEq,if_false,if_true,not_false_eq_true]
  rw[hP]
  repeat'((conv=>whnf);first|(apply aI<;>intro hb<;>first|exact absurd hb (by decide)|(exfalso;simp only[Ag]at hb<;>omega)|((try rw[hb]);(try simp only[Aa]at hb)))|(refine eI ?_ ?_;focus (and_intros<;>first|omega|exact rfl|(intro _ hh;cases hh;done)|(simp;done)|decide))|((with_reducible apply Drawn.by0);(focus kernel_rfl);intro hfact;(try simp only[dRS]at hfact))|((simp only[show D.at (0::[].append [2]) (D.ptr r.toD)=some (D.vec Ar 5 (r.usrs.map Usr.toD))from rfl,Dd,show D.at [0] (D.ptr r.toD)=some r.toD from rfl,Be]))|(refine CallIs.mk ⟨_,_,hf,?_⟩)|(refine CallWp.mk ⟨_,n1,?_⟩;rintro _ _ ⟨rfl,rfl⟩)|(refine CallWp.mk ⟨_,n2,?_⟩;rintro _ _ ⟨rfl,rfl⟩))
  all_goals(try(conv=>whnf))
  all_goals first|(exfalso;omega)|exact Done.mk ⟨by kernel_rfl,by kernel_rfl⟩ (by kernel_rfl)
 obtain⟨hL1,hL2⟩:=hL
 have e1:decide (c.word.length≤64)=true:=by simp[hL1]
 have e2:decide (c.salt.length≤64)=true:=by simp[hL2]
 rw[e1]at n1
 rw[e2]at n2
 cases hb:Bv Usr.name r.usrs c.name with
 |false=>
  rw[hb]at hf
  have hP:Cc r c=(r,16):=by simp only[Cc,hk,hL1,hL2,hb,Int.reduceEq,if_false,if_true,not_true_eq_false,and_self]
  rw[hP]
  repeat'((conv=>whnf);first|(apply aI<;>intro hb<;>first|exact absurd hb (by decide)|(exfalso;simp only[Ag]at hb<;>omega)|((try rw[hb]);(try simp only[Aa]at hb)))|(refine eI ?_ ?_;focus (and_intros<;>first|omega|exact rfl|(intro _ hh;cases hh;done)|(simp;done)|decide))|((with_reducible apply Drawn.by0);(focus kernel_rfl);intro hfact;(try simp only[dRS]at hfact))|((simp only[show D.at (0::[].append [2]) (D.ptr r.toD)=some (D.vec Ar 5 (r.usrs.map Usr.toD))from rfl,Dd,show D.at [0] (D.ptr r.toD)=some r.toD from rfl,Be]))|(refine CallIs.mk ⟨_,_,hf,?_⟩)|(refine CallWp.mk ⟨_,n1,?_⟩;rintro _ _ ⟨rfl,rfl⟩)|(refine CallWp.mk ⟨_,n2,?_⟩;rintro _ _ ⟨rfl,rfl⟩))
  all_goals(try(conv=>whnf))
  all_goals exact Done.mk ⟨by kernel_rfl,by kernel_rfl⟩ (by kernel_rfl)
 |true=>
  rw[hb]at hf
  obtain⟨x,hx, -⟩:=Ep hb
  have hP:Cc r c=({r with usrs:=r.usrs.set (Az Usr.name r.usrs c.name) {x with salt:=c.salt,hash:=C1 c.salt c.word}},0):=by simp only[Cc,hk,hL1,hL2,hb,hx,Int.reduceEq,if_false,if_true,not_true_eq_false,and_self,Bool.true_eq_false]
  rw[hP]
  clear hP hU
  have hxd:(r.usrs.map Usr.toD)[Az Usr.name r.usrs c.name]?=some x.toD:=by simp[hx]
  have hlt:Az Usr.name r.usrs c.name<r.usrs.length:=(List.getElem?_eq_some_iff.1 hx).1
  have hset:(r.usrs.set (Az Usr.name r.usrs c.name) {x with salt:=c.salt,hash:=C1 c.salt c.word}).map Usr.toD=(r.usrs.map Usr.toD).set (Az Usr.name r.usrs c.name) (Usr.toD {x with salt:=c.salt,hash:=C1 c.salt c.word}):=by simp[List.map_set]
  have hD:Roll.toD {r with usrs:=r.usrs.set (Az Usr.name r.usrs c.name) {x with salt:=c.salt,hash:=C1 c.salt c.word}}= .st [.it (.int .i64 r.rev),.vec Ax 3 ((r.tens.map Ten.toI).map D.it),.vec Ar 5 ((r.usrs.map Usr.toD).set (Az Usr.name r.usrs c.name) (Usr.toD {x with salt:=c.salt,hash:=C1 c.salt c.word})),.vec Aq 3 (r.rols.map Rol.toD)]:=by rw[←hset]
  rw[hD]
  repeat'((conv=>whnf);first|(apply aI<;>intro hb<;>first|exact absurd hb (by decide)|(exfalso;simp only[Ag]at hb<;>omega)|((try rw[hb]);(try simp only[Aa]at hb)))|(refine eI ?_ ?_;focus (and_intros<;>first|omega|exact rfl|(intro _ hh;cases hh;done)|(simp only[Ag];omega)|(simp;done)|decide))|((with_reducible apply Drawn.by0);(focus kernel_rfl);intro hfact;(try simp only[dRS]at hfact))|((simp only[show D.at (0::[].append [2]) (D.ptr r.toD)=some (D.vec Ar 5 (r.usrs.map Usr.toD))from rfl,Dd,show D.at [0] (D.ptr r.toD)=some r.toD from rfl,Be]))|(refine CallIs.mk ⟨_,_,hf,?_⟩)|(refine CallWp.mk ⟨_,n1,?_⟩;rintro _ _ ⟨rfl,rfl⟩)|(refine CallWp.mk ⟨_,n2,?_⟩;rintro _ _ ⟨rfl,rfl⟩)|(refine CallIs.mk ⟨_,_,hh,?_⟩)|((first|with_reducible apply Eo|((with_reducible apply Bm);(focus rfl)));(focus (simp only[D.at,D.put,D.kid,D.setKid,List.cons_append,List.nil_append,List.append,List.getElem?_cons_zero,List.getElem?_cons_succ,Int.toNat_natCast,List.getElem?_set_self',Option.map_eq_map,Option.map_some,List.set_cons_zero,List.set_cons_succ,List.set_set,Function.const_apply,List.map_cons,List.map_nil,mkSt,A1,D.toI,toIs,Aj,List.getElem?_map,List.length_map,List.length_set,hxd]<;>exact rfl));(try(focus exact rfl))))
  all_goals(try(conv=>whnf))
  exact Done.mk ⟨by kernel_rfl,by kernel_rfl⟩ (by kernel_rfl)
theorem Aiw (r:Roll) (hs:r.Small) (c:Cmd) (hk:c.kind≠6∧c.kind≠7):Fn Tryz.prog Ka [.own [] (.ptr r.toD),.v c.toI] (Is (.v (.int .i64 (Cc r c).2)) [.own [] (.ptr (Gz r c)),.no]):=by
 refine Nc ?_ (by simp)
 have hs':=hs
 obtain⟨b1,b2,b3,b4,b5⟩:=hs
 obtain⟨k6,k7⟩:=hk
 have hf:=Ji r.usrs c.name (by omega)
 have n1:=D1 c.word
 have n2:=D1 c.salt
 have hD:Gz r c=(Cc r c).1.toD:=by simp[Gz,k6]
 rw[hD]
 have hP:Cc r c=(if Bv Usr.name r.usrs c.name=false then(r,16)else if c.name=Adq then(r,1)else({r with usrs:=Da (Az Usr.name r.usrs c.name) r.usrs},0)):=by simp only[Cc,k6,k7,if_false]
 rw[hP]
 cases hb:Bv Usr.name r.usrs c.name with
 |false=>
  rw[hb]at hf
  rw[if_pos rfl]
  repeat'((conv=>whnf);first|(apply aI<;>intro hb<;>first|exact absurd hb (by decide)|(exfalso;simp only[Ag]at hb<;>omega)|((try rw[hb]);(try simp only[Aa]at hb)))|(refine eI ?_ ?_;focus (and_intros<;>first|omega|exact rfl|(intro _ hh;cases hh;done)|(simp;done)|decide))|((with_reducible apply Drawn.by0);(focus kernel_rfl);intro hfact;(try simp only[dRS]at hfact))|((simp only[show D.at (0::[].append [2]) (D.ptr r.toD)=some (D.vec Ar 5 (r.usrs.map Usr.toD))from rfl,Dd,show D.at [0] (D.ptr r.toD)=some r.toD from rfl,Be]))|(refine CallIs.mk ⟨_,_,hf,?_⟩)|(refine CallWp.mk ⟨_,n1,?_⟩;rintro _ _ ⟨rfl,rfl⟩)|(refine CallWp.mk ⟨_,n2,?_⟩;rintro _ _ ⟨rfl,rfl⟩))
  all_goals(try(conv=>whnf))
  all_goals exact Done.mk ⟨by kernel_rfl,by kernel_rfl⟩ (by kernel_rfl)
 |true=>
  rw[hb]at hf
  rw[if_neg (by simp)]
  by_cases hr:c.name=Adq
  ·rw[if_pos hr]
   repeat'((conv=>whnf);first|(apply aI<;>intro hb<;>first|exact absurd hb (by decide)|(exfalso;simp only[Ag]at hb<;>omega)|((try rw[hb]);(try simp only[Aa]at hb)))|(refine eI ?_ ?_;focus (and_intros<;>first|omega|exact rfl|(intro _ hh;cases hh;done)|(simp;done)|decide))|((with_reducible apply Drawn.by0);(focus kernel_rfl);intro hfact;(try simp only[dRS]at hfact))|((simp only[show D.at (0::[].append [2]) (D.ptr r.toD)=some (D.vec Ar 5 (r.usrs.map Usr.toD))from rfl,Dd,show D.at [0] (D.ptr r.toD)=some r.toD from rfl,Be]))|(refine CallIs.mk ⟨_,_,hf,?_⟩)|(refine CallWp.mk ⟨_,n1,?_⟩;rintro _ _ ⟨rfl,rfl⟩)|(refine CallWp.mk ⟨_,n2,?_⟩;rintro _ _ ⟨rfl,rfl⟩))
   all_goals(try(conv=>whnf))
   all_goals first|contradiction|exact Done.mk ⟨by kernel_rfl,by kernel_rfl⟩ (by kernel_rfl)
  ·rw[if_neg hr]
   obtain⟨x,hx, -⟩:=Ep hb
   have hlt:Az Usr.name r.usrs c.name<r.usrs.length:=(List.getElem?_eq_some_iff.1 hx).1
   have hdel:=Agk (r.usrs.map Usr.toD) (Az Usr.name r.usrs c.name) (by simpa using hlt) (by simp;omega)
   rw[Aa8]at hdel
   have hw:IntKind.i64.wrap ((Az Usr.name r.usrs c.name:Int)+1)=((Az Usr.name r.usrs c.name+1:Nat):Int):=Ae hlt (by simp only[maxLen];omega)
   repeat'((conv=>whnf);first|(apply aI<;>intro hb<;>first|exact absurd hb (by decide)|(exfalso;simp only[Ag]at hb<;>omega)|((try rw[hb]);(try simp only[Aa]at hb)))|(refine eI ?_ ?_;focus (and_intros<;>first|omega|exact rfl|(intro _ hh;cases hh;done)|(simp;done)|decide))|((with_reducible apply Drawn.by0);(focus kernel_rfl);intro hfact;(try simp only[dRS]at hfact))|((simp only[show D.at (0::[].append [2]) (D.ptr r.toD)=some (D.vec Ar 5 (r.usrs.map Usr.toD))from rfl,Dd,show D.at [0] (D.ptr r.toD)=some r.toD from rfl,Be]))|(refine CallIs.mk ⟨_,_,hf,?_⟩)|(refine CallWp.mk ⟨_,n1,?_⟩;rintro _ _ ⟨rfl,rfl⟩)|(refine CallWp.mk ⟨_,n2,?_⟩;rintro _ _ ⟨rfl,rfl⟩)|((simp only[List.tail,List.headD,hw]))|(refine CallWp.mk ⟨_,hdel,?_⟩;rintro _ _ ⟨rfl,rfl⟩))
   all_goals(try(conv=>whnf))
   all_goals first|contradiction|exact Done.mk ⟨by kernel_rfl,by kernel_rfl⟩ (by kernel_rfl)

open Go.Proofs
theorem Ams (r:Roll) (hs:r.Small) (c:Cmd) (hc:c.salt.length≤100000∧c.word.length≤100000):Fn Tryz.prog Ka [.own [] (.ptr r.toD),.v c.toI] (Is (.v (.int .i64 (Cc r c).2)) [.own [] (.ptr (Gz r c)),.no]):=by
 by_cases h6:c.kind=6
 ·exact Aiu r hs c hc h6
 by_cases h7:c.kind=7
 ·exact Aiv r hs c hc h7
 exact Aiw r hs c ⟨h6,h7⟩
theorem Aip (k:Ad):Fn Tryz.prog Rr [.v (.str k)] (Is (.v (.bool false)) [.no]):=by
 refine Q4 ?_ (by simp)
 (conv=>whnf)
 all_goals(try(conv=>whnf))
 refine Done.mk ⟨SV.bool_congr ?_,by kernel_rfl⟩ (by kernel_rfl)
 simp
theorem Ao5 (a b:Ad):Fn Tryz.prog Wi [.v (.str a),.v (.str b)] (Is (.v (.bool (decide (a<b)))) [.no,.no]):=by
 refine Ve ?_ (by simp)
 repeat'((conv=>whnf);first|(apply aI<;>intro hb<;>first|exact absurd hb (by decide)|((try rw[hb]);(try simp only[Aa]at hb)))|(refine eI ?_ ?_;focus (and_intros<;>first|(intro _ hh;cases hh;done)|(simp;done)|decide))|(refine CallWp.mk ⟨_,Zg _,?_⟩;rintro _ _ ⟨rfl,rfl⟩))
 all_goals(try(conv=>whnf))
 exact Done.mk ⟨SV.bool_congr (by rw[Cu]),by kernel_rfl⟩ (by kernel_rfl)
theorem Aj0 {α β γ:Type} (g:β→γ) (f:α→β) (i:Nat) (l:List α):((l.map f).map g).take i++((l.map f).map g).drop (i+1)=((Da i l).map f).map g:=by simp[Da,List.map_take,List.map_drop]
abbrev Cj (s:Ad):Ad:=s
theorem Amd (l:List Ad) (n:Ad) (hl:l.length≤100000):Fn Tryz.prog Fs [.v (.list (strs l)),.v (.str n)] (Is (.tup [.i (.int .i64 (Az Cj l n)),.i (.bool (Bv Cj l n))]) [.no,.no]):=by
 refine Fj ?_ (by simp)
 repeat'((conv=>whnf);first|(refine eI ?_ ?_;focus (and_intros<;>exact rfl))|(intro hfact))
 all_goals(try(conv=>whnf))
 obtain⟨A,hA⟩:∃A,A=Az Cj l n:=⟨_,rfl⟩
 have hAF:Bv Cj l n=(l[A]?).any (fun x=>decide (x=n)):=by rw[hA];rfl
 have hAle:A≤l.length:=by rw[hA];exact H5 _ _ _
 rw[hAF, ←hA]
 unfold Az at hA
 refine LoopWq.by (X:=Nat × Nat × Nat) (fun x=>[(7,.v (.int .i64 x.2.1)),(8,.v (.int .i64 x.2.2))]) (fun x=>x.2.1≤x.2.2∧x.2.2≤l.length∧x.2.2 - x.2.1≤x.1∧bsGo (ltAt Cj l n) x.1 x.2.1 x.2.2=A) (fun x=>x.2.2 - x.2.1)
  (l.length,0,l.length) (by rw[List.length_map];kernel_rfl) ⟨Nat.zero_le _,Nat.le_refl _,Nat.sub_le _ _,hA.symm⟩ ?_
 rintro⟨f,i,j⟩ ⟨h1,h2,h3,h4⟩
 dsimp only at h1 h2 h3 h4 ⊢
 by_cases hij:i<j
 case neg=>
  have hlt:¬decide ((i:Int)<(j:Int))=true:=by simp;omega
  obtain rfl:i=A:=by
   rw[←h4]
   cases f with
   |zero=>rfl
   |succ f=>rw[bsGo,if_neg hij]
  by_cases hil:i<l.length
  ·obtain⟨e,he⟩:∃e,l[i]?=some e:=⟨_,List.getElem?_eq_getElem hil⟩
   have hl2:¬decide ((i:Int)<((strs l).length:Int))=false:=by simp[hil]
   have hl3:¬decide ((i:Int)<(l.length:Int))=false:=by simp[hil]
   rw[he]
   simp only[Option.any_some]
   repeat'((conv=>whnf);first|(apply aI<;>intro hb<;>first|exact absurd hb (by first|assumption|decide)|((try rw[hb]);(try simp only[Aa]at hb);(try subst hb)))|(refine eI ?_ ?_;focus (and_intros<;>first|omega|exact rfl|(intro _ hh;cases hh;done)|(simp;done)|decide))|((try dsimp only);first|rw[Au he]|rw[Am he]|rw[An he])|(refine CallWp.mk ⟨_,Aip _,?_⟩;rintro _ _ ⟨rfl,rfl⟩))
   all_goals(try(conv=>whnf))
   all_goals exact Done.mk ⟨rfl,by kernel_rfl⟩ (by kernel_rfl)
  ·have hl2:¬decide ((i:Int)<((strs l).length:Int))=true:=by simp;omega
   have hl3:¬decide ((i:Int)<(l.length:Int))=true:=by simp;omega
   rw[List.getElem?_eq_none (by omega)]
   simp only[Option.any_none]
   repeat'((conv=>whnf);(apply aI<;>intro hb<;>first|exact absurd hb (by first|assumption|decide)|((try rw[hb]);(try simp only[Aa]at hb))))
   all_goals(try(conv=>whnf))
   exact Done.mk ⟨by kernel_rfl,by kernel_rfl⟩ (by kernel_rfl)
 have hlt:¬decide ((i:Int)<(j:Int))=false:=by simp[hij]
 obtain⟨g,rfl⟩:∃g,f=g+1:=⟨f - 1,by omega⟩
 rw[bsGo,if_pos hij]at h4
 have hmid:=Yt (i:=i) (j:=j) (by omega)
 obtain⟨h,hh⟩:∃h,h=(i+j) / 2:=⟨_,rfl⟩
 rw[←hh]at hmid h4
 have hhj:h<j:=by omega
 obtain⟨e,he⟩:∃e,l[h]?=some e:=⟨_,List.getElem?_eq_getElem (by omega)⟩
 have hle:ltAt Cj l n h=decide (e<n):=by unfold ltAt;rw[he];rfl
 have hw:IntKind.i64.wrap ((h:Int)+1)=((h+1:Nat):Int):=Ae (n:=1000000) (by omega) (by simp only[maxLen];omega)
 rw[hle]at h4
 have hsl:=Ao5 e n
 by_cases hc:e<n
 ·rw[if_pos (by simpa using hc)]at h4
  rw[show decide (e<n)=true by simp[hc]]at hsl
  repeat'((conv=>whnf);first|(apply aI<;>intro hb<;>first|exact absurd hb (by first|assumption|decide)|((try rw[hb]);(try simp only[Aa]at hb)))|(refine eI ?_ ?_;focus (and_intros<;>first|omega|exact rfl|(intro _ hh;cases hh;done)|(simp;done)|decide))|((try dsimp only);rw[hmid])|((try dsimp only);first|rw[Au he]|rw[Am he]|rw[An he])|(refine CallWp.mk ⟨_,hsl,?_⟩;rintro _ _ ⟨rfl,rfl⟩)|((try dsimp only);rw[hw]))
  all_goals(try(conv=>whnf))
  refine Round.by (g,h+1,j) ?_ ⟨by dsimp only;omega,h2,by dsimp only;omega,h4⟩ (by dsimp only;omega)
  dsimp only
  show norm _ _=upd _ _
  kernel_rfl
 ·rw[if_neg (by simpa using hc)]at h4
  rw[show decide (e<n)=false by simp[hc]]at hsl
  repeat'((conv=>whnf);first|(apply aI<;>intro hb<;>first|exact absurd hb (by first|assumption|decide)|((try rw[hb]);(try simp only[Aa]at hb)))|(refine eI ?_ ?_;focus (and_intros<;>first|omega|exact rfl|(intro _ hh;cases hh;done)|(simp;done)|decide))|((try dsimp only);rw[hmid])|((try dsimp only);first|rw[Au he]|rw[Am he]|rw[An he])|(refine CallWp.mk ⟨_,hsl,?_⟩;rintro _ _ ⟨rfl,rfl⟩))
  all_goals(try(conv=>whnf))
  refine Round.by (g,i,h) ?_ ⟨by dsimp only;omega,by dsimp only;omega,by dsimp only;omega,h4⟩ (by dsimp only;omega)
  dsimp only
  show norm _ _=upd _ _
  kernel_rfl
def Dv (r:Roll) (c:Cmd):Roll × Int:=
 if Bv Usr.name r.usrs c.name=false then(r,16)
 else match r.usrs[Az Usr.name r.usrs c.name]? with
 |none=>(r,16)
 |some u=>
  if c.kind=14 then
   if Bv Cj u.roles c.other=false then(r,16)
   else({r with usrs:=r.usrs.set (Az Usr.name r.usrs c.name) {u with roles:=Da (Az Cj u.roles c.other) u.roles}},0)
  else if(getR r.rols c.other).2=false then(r,16)
  else if(getR r.rols c.other).1.ten≠u.ten then(r,18)
  else if Bv Cj u.roles c.other=true then(r,15)
  else if 4≤(u.roles.length:Int)then(r,17)
  else({r with usrs:=r.usrs.set (Az Usr.name r.usrs c.name) {u with roles:=C2 (Az Cj u.roles c.other) c.other u.roles}},0)
theorem Amh (r:Roll) (hs:r.Small) (c:Cmd):Fn Tryz.prog Ahi [.own [] (.ptr r.toD),.v c.toI] (Is (.v (.int .i64 (Dv r c).2)) [.own [] (.ptr (Dv r c).1.toD),.no]):=by
 refine Ae6 ?_ (by simp)
 have hs':=hs
 obtain⟨b1,b2,b3,b4,b5⟩:=hs
 have hf:=Ji r.usrs c.name (by omega)
 have ht:=Uj r hs' c.other
 cases hb:Bv Usr.name r.usrs c.name with
 |false=>
  rw[hb]at hf
  rw[show Dv r c=(r,16)by simp only[Dv,hb,if_true]]
  repeat'((conv=>whnf);first|(apply aI<;>intro hb<;>first|exact absurd hb (by decide)|((try rw[hb]);(try simp only[Aa]at hb)))|(refine eI ?_ ?_;focus (and_intros<;>first|omega|exact rfl|(simp;done)))|((with_reducible apply Drawn.by0);(focus kernel_rfl);intro hfact;(try simp only[dRS]at hfact))|((simp only[show D.at (0::[].append [2]) (D.ptr r.toD)=some (D.vec Ar 5 (r.usrs.map Usr.toD))from rfl,Dd,show D.at [0] (D.ptr r.toD)=some r.toD from rfl,Be]))|(refine CallIs.mk ⟨_,_,hf,?_⟩)|(refine CallIs.mk ⟨_,_,ht,?_⟩))
  all_goals(try(conv=>whnf))
  all_goals exact Done.mk ⟨by kernel_rfl,by kernel_rfl⟩ (by kernel_rfl)
 |true=>
  rw[hb]at hf
  obtain⟨u,hu, -⟩:=Ep hb
  have hul:=b4 u (List.mem_of_getElem? hu)
  have hbs:=Amd u.roles c.other (by omega)
  have hlt:Az Usr.name r.usrs c.name<r.usrs.length:=(List.getElem?_eq_some_iff.1 hu).1
  obtain⟨i,hi⟩:∃i,i=Az Usr.name r.usrs c.name:=⟨_,rfl⟩
  have hP:Dv r c=(if c.kind=14 then
   if Bv Cj u.roles c.other=false then(r,16)
   else({r with usrs:=r.usrs.set i {u with roles:=Da (Az Cj u.roles c.other) u.roles}},0)
   else if(getR r.rols c.other).2=false then(r,16)
   else if(getR r.rols c.other).1.ten≠u.ten then(r,18)
   else if Bv Cj u.roles c.other=true then(r,15)
   else if 4≤(u.roles.length:Int)then(r,17)
   else({r with usrs:=r.usrs.set i {u with roles:=C2 (Az Cj u.roles c.other) c.other u.roles}},0)):=by
   unfold Dv
   rw[hb,hu, ←hi]
   rfl
  rw[←hi]at hf hlt hu
  clear hi
  have hxd:(r.usrs.map Usr.toD)[i]?=some u.toD:=by simp[hu]
  repeat'((conv=>whnf);first|(apply aI<;>intro hb<;>first|exact absurd hb (by decide)|((try rw[hb]);(try simp only[Aa]at hb)))|(refine eI ?_ ?_;focus (and_intros<;>first|omega|exact rfl|exact B5 rfl|(simp only[Ag];omega)|(simp;done)|decide))|(intro hfact)|((with_reducible apply Drawn.by0);(focus kernel_rfl);intro hfact;(try simp only[dRS]at hfact))|((simp only[show D.at (0::[].append [2]) (D.ptr r.toD)=some (D.vec Ar 5 (r.usrs.map Usr.toD))from rfl,Dd,show D.at [0] (D.ptr r.toD)=some r.toD from rfl,Be]))|(refine CallIs.mk ⟨_,_,hf,?_⟩)|(refine CallIs.mk ⟨_,_,ht,?_⟩)|(refine CallIs.mk ⟨_,_,hbs,?_⟩)|((first|with_reducible apply Uc|with_reducible apply Eo|((first|with_reducible apply Bm|with_reducible apply Md);(focus rfl)));(focus (simp only[D.at,D.put,D.kid,D.setKid,List.cons_append,List.nil_append,List.append,List.getElem?_cons_zero,List.getElem?_cons_succ,Int.toNat_natCast,List.getElem?_set_self',Option.map_eq_map,Option.map_some,List.set_cons_zero,List.set_cons_succ,List.set_set,Function.const_apply,List.map_cons,List.map_nil,mkSt,A1,D.toI,toIs,Aj,List.getElem?_map,List.length_map,List.length_set,hxd]<;>exact rfl));(try(focus exact rfl))))
  all_goals(try(conv=>whnf))
  ·rw[show Dv r c=(r,16)by rw[hP];simp[*]]
   exact Done.mk ⟨by kernel_rfl,by kernel_rfl⟩ (by kernel_rfl)
  ·have hh:Bv Cj u.roles c.other=true:=by assumption
   obtain⟨x,hx, -⟩:=Ep hh
   have hkl:Az Cj u.roles c.other<u.roles.length:=(List.getElem?_eq_some_iff.1 hx).1
   have e:Dv r c=({r with usrs:=r.usrs.set i {u with roles:=Da (Az Cj u.roles c.other) u.roles}},0):=by rw[hP];simp[*, -hu, -hxd, -hx]
   have hset:(r.usrs.set i {u with roles:=Da (Az Cj u.roles c.other) u.roles}).map Usr.toD=(r.usrs.map Usr.toD).set i (Usr.toD {u with roles:=Da (Az Cj u.roles c.other) u.roles}):=by simp[List.map_set]
   have hD:Roll.toD {r with usrs:=r.usrs.set i {u with roles:=Da (Az Cj u.roles c.other) u.roles}}= .st [.it (.int .i64 r.rev),.vec Ax 3 ((r.tens.map Ten.toI).map D.it),.vec Ar 5 ((r.usrs.map Usr.toD).set i (Usr.toD {u with roles:=Da (Az Cj u.roles c.other) u.roles})),.vec Aq 3 (r.rols.map Rol.toD)]:=by rw[←hset]
   rw[e]
   dsimp only
   rw[hD]
   have hdel:=Aif ((u.roles.map I.str).map D.it) (Az Cj u.roles c.other) (by simpa using hkl) (by simp;omega)
   rw[Aj0 D.it I.str]at hdel
   have hw:IntKind.i64.wrap ((Az Cj u.roles c.other:Int)+1)=((Az Cj u.roles c.other+1:Nat):Int):=Ae hkl (by simp only[maxLen];omega)
   repeat'((conv=>whnf);first|(refine eI ?_ ?_;focus (and_intros<;>first|exact rfl|(intro _ hh;cases hh;done)|(simp;done)))|((simp only[List.tail,List.headD,hw]))|(refine CallWp.mk ⟨_,hdel,?_⟩;rintro _ _ ⟨rfl,rfl⟩)|((first|with_reducible apply Uc|((with_reducible apply Bm);(focus rfl)));(focus (simp only[D.at,D.put,D.kid,D.setKid,List.cons_append,List.nil_append,List.append,List.getElem?_cons_zero,List.getElem?_cons_succ,Int.toNat_natCast,List.getElem?_set_self',Option.map_eq_map,Option.map_some,List.set_cons_zero,List.set_cons_succ,List.set_set,Function.const_apply,List.map_cons,List.map_nil,mkSt,A1,D.toI,toIs,Aj,List.getElem?_map,List.length_map,List.length_set,hxd]<;>exact rfl));(try(focus exact rfl))))
   all_goals(try(conv=>whnf))
   exact Done.mk ⟨by kernel_rfl,by kernel_rfl⟩ (by kernel_rfl)
  ·rw[show Dv r c=(r,16)by rw[hP];simp[*]]
   exact Done.mk ⟨by kernel_rfl,by kernel_rfl⟩ (by kernel_rfl)
  ·rw[show Dv r c=(r,18)by rw[hP];simp[*]]
   exact Done.mk ⟨by kernel_rfl,by kernel_rfl⟩ (by kernel_rfl)
  ·rw[show Dv r c=(r,15)by rw[hP];simp[*]]
   exact Done.mk ⟨by kernel_rfl,by kernel_rfl⟩ (by kernel_rfl)
  ·rw[show Dv r c=(r,17)by rw[hP];simp[*]]
   exact Done.mk ⟨by kernel_rfl,by kernel_rfl⟩ (by kernel_rfl)
  ·have hkl:Az Cj u.roles c.other≤u.roles.length:=H5 _ _ _
   have e:Dv r c=({r with usrs:=r.usrs.set i {u with roles:=C2 (Az Cj u.roles c.other) c.other u.roles}},0):=by rw[hP];simp[*, -hu, -hxd]
   have hset:(r.usrs.set i {u with roles:=C2 (Az Cj u.roles c.other) c.other u.roles}).map Usr.toD=(r.usrs.map Usr.toD).set i (Usr.toD {u with roles:=C2 (Az Cj u.roles c.other) c.other u.roles}):=by simp[List.map_set]
   have hD:Roll.toD {r with usrs:=r.usrs.set i {u with roles:=C2 (Az Cj u.roles c.other) c.other u.roles}}= .st [.it (.int .i64 r.rev),.vec Ax 3 ((r.tens.map Ten.toI).map D.it),.vec Ar 5 ((r.usrs.map Usr.toD).set i (Usr.toD {u with roles:=C2 (Az Cj u.roles c.other) c.other u.roles})),.vec Aq 3 (r.rols.map Rol.toD)]:=by rw[←hset]
   rw[e]
   dsimp only
   rw[hD]
   have hins:=Aio ((u.roles.map I.str).map D.it) (.it (.str c.other)) (Az Cj u.roles c.other) (by simpa using hkl) (by simp;omega)
   rw[Yk D.it I.str]at hins
   repeat'((conv=>whnf);first|(refine eI ?_ ?_;focus (and_intros<;>first|exact rfl|(intro _ hh;cases hh;done)|(simp;done)))|((with_reducible apply Drawn.by0);(focus kernel_rfl);intro hfact;(try simp only[dRS]at hfact))|(refine CallIs.mk ⟨_,_,hins,?_⟩)|((first|with_reducible apply Eo|((with_reducible apply Bm);(focus rfl)));(focus (simp only[D.at,D.put,D.kid,D.setKid,List.cons_append,List.nil_append,List.append,List.getElem?_cons_zero,List.getElem?_cons_succ,Int.toNat_natCast,List.getElem?_set_self',Option.map_eq_map,Option.map_some,List.set_cons_zero,List.set_cons_succ,List.set_set,Function.const_apply,List.map_cons,List.map_nil,mkSt,A1,D.toI,toIs,Aj,List.getElem?_map,List.length_map,List.length_set,hxd]<;>exact rfl));(try(focus exact rfl))))
   all_goals(try(conv=>whnf))
   exact Done.mk ⟨by kernel_rfl,by kernel_rfl⟩ (by kernel_rfl)

open Go.Proofs
theorem Fn.ofVec0 {P:Program} {f:FuncId} {e:TypeId} {sz:Nat} {l:List I} {rest:List SV} {Post:SV→List SV→Prop} (he:e<1000000) (h:Fn P f (.vec e sz l::rest) Post):Fn P f (.own [] (.vec e sz (l.map D.it))::rest) Post:=by
 intro G σ Fr w cargs hok hsz hargs
 obtain⟨_,h0⟩:=hargs 0 _ rfl
 obtain⟨bs,r1,r2,r3,r4⟩:=h0
 have hv:∃σ',WOk G σ' Fr ⟨w,0, #[]⟩ w∧VecAt G σ' w (0,0) e sz l (cargs.getD 0 undef)∧∀b i k,i≠0→σ b=some (i,k)→σ' b=some (i,k):=by
  have hc:(cargs.getD 0 undef).cells.toList=[cargs.getD 0 undef]:=by
   generalize cargs.getD 0 undef=c at*
   cases c<;>first|rfl|(simp[valOf,D.isAgg]at r2)
  rw[hc]at r1
  obtain⟨xs,q1,q2,q3,q4⟩:=RepD.ownsO r1
  have hor:OwnsR w e sz (cargs.getD 0 undef) l.length xs:=by
   refine⟨q1.1,?_⟩
   rcases q1.2 with⟨q,q'⟩|⟨g,off,cap,cur,a1,a2,a3,a4,a5,a6,a7⟩
   ·exact .inl ⟨q,q'⟩
   ·obtain⟨rfl,a8⟩:=a3 he
    exact .inr ⟨g,cap,cur,a1,Nat.zero_le _,a2,a4,a5,a8,by simpa using a7⟩
  rcases q4 with⟨rfl,hb⟩|⟨g,rfl,hb⟩
  ·exact⟨σ,hok,⟨xs,hor,q2,q3,fun b hb'=>by rw[hb]at hb';cases hb'⟩,fun _ _ _ _ h=>h⟩
  ·obtain⟨k,hk⟩:=r4 g (by simp)
   refine⟨fun b=>if b=g then some (0,0)else if σ b=some (0,0)then none else σ b,?_,⟨xs,hor,q2,q3,fun b hb'=>?_⟩,fun b i k' hi hb'=>?_⟩
   ·refine⟨hok.fixed,?_,?_,hok.frame,hok.os,hok.tape,hok.output,hok.size,hok.apart,hok.amb⟩
    ·intro b lab hb'
     split at hb'
     ·rename_i e;subst e;exact hok.own _ _ hk
     ·split at hb'
      ·cases hb'
      ·exact hok.own _ _ hb'
    ·intro b b' lab h1 h2
     split at h1<;>split at h2
     ·rename_i e1 e2;rw[e1,e2]
     ·split at h2
      ·cases h2
      ·rename_i n;rw[←h1]at h2;exact absurd h2 n
     ·split at h1
      ·cases h1
      ·rename_i n;rw[←h2]at h1;exact absurd h1 n
     ·split at h1
      ·cases h1
      ·split at h2
       ·cases h2
       ·exact hok.inj _ _ _ h1 h2
   ·rw[hb]at hb'
    cases hb'
    simp
   ·dsimp only
    rw[if_neg (by rintro rfl;rw[hk]at hb';cases hb';exact hi rfl),if_neg (by intro q;rw[hb']at q;cases q;exact hi rfl)]
    exact hb'
 obtain⟨σ',g1,g2,g3⟩:=hv
 have:=h G σ' Fr w cargs g1 (by simpa using hsz) (fun i sv hi=>by
  cases i with
  |zero=>cases hi;exact⟨rfl,g2⟩
  |succ i=>
   obtain⟨k1,k2⟩:=hargs (i+1) sv hi
   exact⟨k1,k2.tr (Mem.le.refl G) fun b k hb=>⟨g3 b _ k (by omega) hb,rfl⟩⟩)
 simpa using this
theorem Zi (g:Gra):Fn Tryz.prog Wj [.v g.toI] (Is (.v (.bool (decide (Bj g.sp)&&(g.r||g.w)))) [.no]):=by
 refine Vg ?_ (by simp)
 have s1:=Hc g.sp
 repeat'((conv=>whnf);first|(apply aI<;>intro hb<;>first|exact absurd hb (by decide)|((try rw[hb]);(try simp only[Aa]at hb)))|(refine eI ?_ ?_;focus (and_intros<;>first|omega|exact rfl|(intro _ hh;cases hh;done)|(simp;done)|decide))|(refine CallWp.mk ⟨_,s1,?_⟩;rintro _ _ ⟨rfl,rfl⟩))
 all_goals(try(conv=>whnf))
 all_goals refine Done.mk ⟨SV.bool_congr ?_,by kernel_rfl⟩ (by kernel_rfl)
 all_goals simp[*]
def idxP {α:Type} (p:α→Bool):Nat→List α→Int
 |_,[]=> -1
 |k,s::r=>if p s=true then k else idxP p (k+1) r
theorem Aep {α:Type} (p:α→Bool):∀(l:List α) (k:Nat),decide (0≤idxP p k l)=l.any p
 | [],_=>rfl
 |s::r,k=>by
  unfold idxP
  by_cases h:p s=true
  ·simp[h]
  ·rw[if_neg h,Aep p r (k+1)]
   simp[h]
theorem Aim (l:List Gra) (g:Gra) (hl:l.length≤1000000):Fn Tryz.prog F0 [.v (.list (l.map Gra.toI)),.v g.toI] (Is (.v (.int .i64 (idxP (fun e=>decide (e=g)) 0 l))) [.no,.no]):=by
 refine Fv ?_ (by simp)
 have hmax:l.length≤maxLen:=by simp only[maxLen];omega
 repeat'((conv=>whnf);first|(refine eI ?_ ?_;focus (and_intros<;>exact rfl))|(intro hfact))
 all_goals(try(conv=>whnf))
 refine LoopWq.by (X:=Nat) (fun x=>[(8,.v (.int .i64 x))]) (fun x=>x≤l.length∧idxP (fun e=>decide (e=g)) x (l.drop x)=idxP (fun e=>decide (e=g)) 0 l) (fun x=>l.length - x)
  0 (by kernel_rfl) ⟨Nat.zero_le _,rfl⟩ ?_
 rintro k ⟨h1,h2⟩
 by_cases hk:k<l.length
 ·obtain⟨e,he⟩:∃e,l[k]?=some e:=⟨_,List.getElem?_eq_getElem hk⟩
  have hlt:¬decide ((k:Int)<((l.map Gra.toI).length:Int))=false:=by simp[hk]
  have hke:l[k]=e:=by rw[List.getElem?_eq_getElem hk]at he;simpa using he
  rw[List.drop_eq_getElem_cons hk,hke]at h2
  repeat'((conv=>whnf);first|(apply aI<;>intro hb<;>first|exact absurd hb (by assumption)|((try rw[hb]);(try simp only[Aa]at hb)))|(refine eI ?_ ?_;focus (and_intros<;>first|omega|exact rfl))|((with_reducible apply Drawn.by0);(focus kernel_rfl);intro hfact;(try simp only[dRS]at hfact))|((try dsimp only);first|rw[Au he]|rw[Am he]|rw[An he]))
  all_goals(try(conv=>whnf))
  ·rw[Yg]at hb
   refine Done.mk ⟨congrArg (fun n=>SV.v (.int .i64 n)) ?_,by kernel_rfl⟩ (by kernel_rfl)
   rw[←h2,idxP,if_pos (by simpa[eq_comm]using hb)]
  ·rw[Yg]at hb
   refine Round.by (k+1) ?_ ⟨hk,?_⟩ (by omega)
   ·rw[Ae hk hmax]
    show norm _ _=upd _ _
    kernel_rfl
   ·rw[←h2,idxP,if_neg (by simpa[eq_comm]using hb)]
 ·have hlt:¬decide ((k:Int)<((l.map Gra.toI).length:Int))=true:=by simp;omega
  repeat'((conv=>whnf);(apply aI<;>intro hb<;>first|exact absurd hb (by assumption)|((try rw[hb]);(try simp only[Aa]at hb))))
  all_goals(try(conv=>whnf))
  refine Done.mk ⟨congrArg (fun n=>SV.v (.int .i64 n)) ?_,by kernel_rfl⟩ (by kernel_rfl)
  rw[←h2,List.drop_eq_nil_of_le (by omega)]
  rfl
theorem J7 (l:List Gra) (g:Gra) (hl:l.length≤1000000):Fn Tryz.prog E0 [.v (.list (l.map Gra.toI)),.v g.toI] (Is (.v (.bool (l.any fun e=>decide (e=g)))) [.no,.no]):=by
 refine Ey ?_ (by simp)
 have h:=Aim l g hl
 rw[←Aep _ l 0]
 repeat'((conv=>whnf);first|(refine eI ?_ ?_;focus (and_intros<;>first|omega|exact rfl|(intro _ hh;cases hh;done)|(simp;done)|decide))|(refine CallWp.mk ⟨_,h,?_⟩;rintro _ _ ⟨rfl,rfl⟩))
 all_goals(try(conv=>whnf))
 exact Done.mk ⟨SV.bool_congr (by simp),by kernel_rfl⟩ (by kernel_rfl)
theorem Zj (s:Ad) (c:Cmd):Fn Tryz.prog K0 [.v (.str s),.rp c.toI] (Is (.v (.bool (decide (s=c.name)))) [.no,.no]):=by
 refine Aah ?_ (by simp)
 repeat'((conv=>whnf);(refine eI ?_ ?_;focus (and_intros<;>exact rfl)))
 all_goals(try(conv=>whnf))
 exact Done.mk ⟨SV.bool_congr (by simp),by kernel_rfl⟩ (by kernel_rfl)

open Go.Proofs
theorem Ain (l:List Ad) (c:Cmd) (hl:l.length≤1000000):Fn Tryz.prog G7 [.v (.list (strs l)),.v (.clo K0 [c.toI])] (Is (.v (.int .i64 (idxP (fun s=>decide (s=c.name)) 0 l))) [.no,.no]):=by
 refine Gw ?_ (by simp)
 have hmax:l.length≤maxLen:=by simp only[maxLen];omega
 repeat'((conv=>whnf);first|(refine eI ?_ ?_;focus (and_intros<;>exact rfl))|(intro hfact))
 all_goals(try(conv=>whnf))
 refine LoopWq.by (X:=Nat) (fun x=>[(8,.v (.int .i64 x))]) (fun x=>x≤l.length∧idxP (fun s=>decide (s=c.name)) x (l.drop x)=idxP (fun s=>decide (s=c.name)) 0 l) (fun x=>l.length - x)
  0 (by kernel_rfl) ⟨Nat.zero_le _,rfl⟩ ?_
 rintro k ⟨h1,h2⟩
 by_cases hk:k<l.length
 ·obtain⟨e,he⟩:∃e,l[k]?=some e:=⟨_,List.getElem?_eq_getElem hk⟩
  have hlt:¬decide ((k:Int)<((strs l).length:Int))=false:=by simp[hk]
  have hke:l[k]=e:=by rw[List.getElem?_eq_getElem hk]at he;simpa using he
  rw[List.drop_eq_getElem_cons hk,hke]at h2
  have hr:=Zj e c
  by_cases hec:e=c.name
  ·rw[show decide (e=c.name)=true by simp[hec]]at hr
   repeat'((conv=>whnf);first|(apply aI<;>intro hb<;>first|exact absurd hb (by first|assumption|decide)|((try rw[hb]);(try simp only[Aa]at hb)))|(refine eI ?_ ?_;focus (and_intros<;>first|omega|exact rfl|(simp;done)))|((try dsimp only);first|rw[Au he]|rw[Am he]|rw[An he])|(refine CallWp.mk ⟨_,hr,?_⟩;rintro _ _ ⟨rfl,rfl⟩))
   all_goals(try(conv=>whnf))
   refine Done.mk ⟨congrArg (fun n=>SV.v (.int .i64 n)) ?_,by kernel_rfl⟩ (by kernel_rfl)
   rw[←h2,idxP,if_pos (by simp[hec])]
  ·rw[show decide (e=c.name)=false by simp[hec]]at hr
   repeat'((conv=>whnf);first|(apply aI<;>intro hb<;>first|exact absurd hb (by first|assumption|decide)|((try rw[hb]);(try simp only[Aa]at hb)))|(refine eI ?_ ?_;focus (and_intros<;>first|omega|exact rfl|(simp;done)))|((try dsimp only);first|rw[Au he]|rw[Am he]|rw[An he])|(refine CallWp.mk ⟨_,hr,?_⟩;rintro _ _ ⟨rfl,rfl⟩))
   all_goals(try(conv=>whnf))
   refine Round.by (k+1) ?_ ⟨hk,?_⟩ (by omega)
   ·rw[Ae hk hmax]
    show norm _ _=upd _ _
    kernel_rfl
   ·rw[←h2,idxP,if_neg (by simp[hec])]
 ·have hlt:¬decide ((k:Int)<((strs l).length:Int))=true:=by simp;omega
  repeat'((conv=>whnf);(apply aI<;>intro hb<;>first|exact absurd hb (by assumption)|((try rw[hb]);(try simp only[Aa]at hb))))
  all_goals(try(conv=>whnf))
  refine Done.mk ⟨congrArg (fun n=>SV.v (.int .i64 n)) ?_,by kernel_rfl⟩ (by kernel_rfl)
  rw[←h2,List.drop_eq_nil_of_le (by omega)]
  rfl
theorem Abf {α:Type} {p:α→Bool}:∀{l:List α} {k:Nat},idxP p k l= -1→(l.filter fun s=> !p s)=l
 | [],_,_=>rfl
 |s::r,k,h=>by
  unfold idxP at h
  split at h
  ·omega
  ·rename_i hs
   rw[List.filter_cons,if_pos (by simpa using hs),Abf h]
theorem Abg {α:Type} {p:α→Bool}:∀{l:List α} {k:Nat},idxP p k l≠ -1→∃i:Nat,idxP p k l=k+i∧i<l.length∧((l.take i).filter fun s=> !p s)=l.take i∧∃s,l[i]?=some s∧p s=true
 | [],k,h=>by simp[idxP]at h
 |s::r,k,h=>by
  unfold idxP at h ⊢
  split
  ·rename_i hs
   exact⟨0,by simp,by simp,rfl,s,rfl,hs⟩
  ·rename_i hs
   rw[if_neg hs]at h
   obtain⟨i,h1,h2,h3,h4⟩:=Abg h
   refine⟨i+1,by rw[h1];simp;omega,by simpa using h2,?_,by simpa using h4⟩
   rw[List.take_succ_cons,List.filter_cons,if_pos (by simpa using hs),h3]
theorem Agm (l:List Ad) (c:Cmd) (hl:l.length≤1000000):Fn Tryz.prog Gj [.vec B3 1 (strs l),.v (.clo K0 [c.toI])] (Is (.vec B3 1 (strs (l.filter fun s=> !decide (s=c.name)))) [.no,.no]):=by
 refine Fw ?_ (by simp)
 obtain⟨p,hp⟩:∃p:Ad→Bool,p=fun s=>decide (s=c.name):=⟨_,rfl⟩
 have hidx:=Ain l c hl
 rw[←hp]at hidx
 rw[show(fun s:Ad=> !decide (s=c.name))=fun s=> !p s by rw[hp]]
 by_cases hn:idxP p 0 l= -1
 ·rw[hn]at hidx
  repeat'((conv=>whnf);first|(apply aI<;>intro hb<;>first|exact absurd hb (by decide)|((try rw[hb]);(try simp only[Aa]at hb)))|(refine eI ?_ ?_;focus (and_intros<;>first|omega|exact rfl|(simp;done)))|(refine CallWp.mk ⟨_,hidx,?_⟩;rintro _ _ ⟨rfl,rfl⟩))
  all_goals(try(conv=>whnf))
  exact Done.mk ⟨by rw[Abf hn],by kernel_rfl⟩ (by kernel_rfl)
 obtain⟨i0,hi0,hlt0,hf0,b0,hb0,hbad0⟩:=Abg hn
 rw[hi0,show((0:Nat):Int)+(i0:Int)=(i0:Int)from by omega]at hidx
 have n1:¬decide ((i0:Int)= -1)=true:=by simp
 have hw0:IntKind.i64.wrap ((i0:Int)+1)=((i0+1:Nat):Int):=(A5 (by omega)).trans (by omega)
 repeat'((conv=>whnf);first|(apply aI<;>intro hb<;>first|exact absurd hb (by assumption)|((try rw[hb]);(try simp only[Aa]at hb)))|(refine eI ?_ ?_;focus (and_intros<;>first|omega|(simp;done)))|(refine CallWp.mk ⟨_,hidx,?_⟩;rintro _ _ ⟨rfl,rfl⟩)|((try dsimp only);rw[hw0]))
 all_goals(try(conv=>whnf))
 have hmax:l.length≤maxLen:=by simp only[maxLen];omega
 refine LoopWq.by (X:=Nat × Nat × List Ad) (fun x=>[(42,.vec B3 1 (strs x.2.2)),(5,.v (.int .i64 x.2.1)),(6,.v (.int .i64 x.1))])
  (fun x=>x.2.1<x.1∧x.1≤l.length∧x.2.2.length=l.length∧x.2.2.drop x.1=l.drop x.1∧x.2.2.take x.2.1=(l.take x.1).filter fun s=> !p s) (fun x=>l.length - x.1)
  (i0+1,i0,l) (by kernel_rfl) ⟨Nat.lt_succ_self _,hlt0,rfl,rfl,by
    rw[List.take_add_one,hb0,List.filter_append,hf0]
    simp[hbad0]⟩ ?_
 rintro⟨j,i,d⟩ ⟨h1,h2,h3,h4,h5⟩
 dsimp only at h1 h2 h3 h4 h5 ⊢
 by_cases hj:j<l.length
 case neg=>
  have hlt:¬decide ((j:Int)<((strs d).length:Int))=true:=by simp;omega
  have hle:(i:Int)≤((strs d).length:Int):=by simp;omega
  have hle0:Int.toNat (i:Int)≤(strs d).length:=by simp;omega
  rw[show l.take j=l from List.take_of_length_le (by omega)]at h5
  have hle2:(i:Int)≤(((strs d).take (i:Int).toNat++List.replicate ((strs d).length - (i:Int).toNat) (I.str [])).length:Int):=by
   simp only[List.length_append,List.length_take,List.length_replicate,List.length_map];omega
  repeat'((conv=>whnf);first|(apply aI<;>intro hb<;>first|exact absurd hb (by assumption)|((try rw[hb]);(try simp only[Aa]at hb)))|(refine eI ?_ ?_;focus (and_intros<;>first|omega|exact rfl|(simp;done)))|(intro hfact))
  all_goals(try(conv=>whnf))
  refine Done.mk ⟨congrArg (fun l=>SV.vec B3 1 l) ?_,by kernel_rfl⟩ (by kernel_rfl)
  rw[←h5,Int.toNat_natCast,List.take_append_of_le_length (by simp;omega),List.take_take,Nat.min_self]
  simp[strs]
 obtain⟨e,he⟩:∃e,l[j]?=some e:=⟨_,List.getElem?_eq_getElem hj⟩
 have hce:d[j]?=some e:=by
  have:=congrArg (fun q=>q[0]?) h4
  simp only[List.getElem?_drop,Nat.add_zero]at this
  rw[this,he]
 have hlt:¬decide ((j:Int)<((strs d).length:Int))=false:=by simp;omega
 have hgc:(strs d)[Int.toNat (j:Int)]?=some (.str e):=by simp[hce]
 have hh:=Kn (e:=B3) (sz:=1) hgc
 have hkl:Int.toNat (j:Int)<(strs d).length:=by simp;omega
 have hki:Int.toNat (i:Int)<(strs d).length:=by simp;omega
 obtain⟨y,hy⟩:∃y,d[i]?=some y:=⟨_,List.getElem?_eq_getElem (by omega)⟩
 have hgi:(strs d)[Int.toNat (i:Int)]?=some (.str y):=by simp[hy]
 have hhi:=Kn (e:=B3) (sz:=1) hgi
 have hround:l.length - (j+1)<l.length - j:=by omega
 have hwj:IntKind.i64.wrap ((j:Int)+1)=((j+1:Nat):Int):=(A5 (by omega)).trans (by omega)
 have hwi:IntKind.i64.wrap ((i:Int)+1)=((i+1:Nat):Int):=(A5 (by omega)).trans (by omega)
 have htk:((l.take (j+1)).filter fun s=> !p s)=((l.take j).filter fun s=> !p s)++[e].filter fun s=> !p s:=by rw[List.take_add_one,he,List.filter_append];rfl
 have hr:=Zj e c
 rw[show decide (e=c.name)=p e by rw[hp]]at hr
 cases hpe:p e with
 |false=>
  rw[hpe]at hr
  repeat'((conv=>whnf);first|(apply aI<;>intro hb<;>first|exact absurd hb (by first|assumption|decide)|((try rw[hb]);(try simp only[Aa]at hb)))|(refine eI ?_ ?_;focus (and_intros<;>first|omega|exact rfl|(simp;done)))|(intro hfact)|((try dsimp only);rw[hh])|((try dsimp only);rw[hhi])|(refine CallWp.mk ⟨_,hr,?_⟩;rintro _ _ ⟨rfl,rfl⟩))
  all_goals(try(conv=>whnf))
  refine Round.by (j+1,i+1,d.set i e) ?_ ⟨by dsimp only;omega,hj,by simp[h3],?_,?_⟩ hround
  ·have hput:strs (d.set i e)=putV (strs d) [Int.toNat (i:Int)] ((I.str []).put [] (.str e)):=by
    rw[Afe hgi,Int.toNat_natCast]
    simp only[strs,List.map_set]
    rfl
   dsimp only
   rw[hwj,hwi,hput]
   show norm _ _=upd _ _
   kernel_rfl
  ·dsimp only
   have:=congrArg (List.drop 1) h4
   rw[List.drop_set_of_lt (by omega)]
   simpa[List.drop_drop]using this
  ·dsimp only
   rw[htk, ←h5,List.take_add_one,List.getElem?_set_self (by omega),List.take_set_of_le (by omega)]
   simp[hpe]
 |true=>
  rw[hpe]at hr
  repeat'((conv=>whnf);first|(apply aI<;>intro hb<;>first|exact absurd hb (by assumption)|((try rw[hb]);(try simp only[Aa]at hb)))|(refine eI ?_ ?_;focus (and_intros<;>first|omega|exact rfl|(simp;done)))|(intro hfact)|((try dsimp only);rw[hh])|(refine CallWp.mk ⟨_,hr,?_⟩;rintro _ _ ⟨rfl,rfl⟩))
  all_goals(try(conv=>whnf))
  refine Round.by (j+1,i,d) ?_ ⟨by dsimp only;omega,hj,h3,?_,?_⟩ hround
  ·rw[hwj]
   show norm _ _=upd _ _
   kernel_rfl
  ·dsimp only
   have:=congrArg (List.drop 1) h4
   simpa[List.drop_drop]using this
  ·dsimp only
   rw[htk,h5]
   simp[hpe]
end Go.Ab
