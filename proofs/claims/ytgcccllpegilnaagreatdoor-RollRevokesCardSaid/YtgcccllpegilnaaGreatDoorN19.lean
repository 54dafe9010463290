/- Lemmas for the last text. -/
import Derived.Test.YtgcccllpegilnaaGreatDoorN14
set_option linter.unusedVariables false
set_option linter.unusedSimpArgs false
set_option maxRecDepth 100000
set_option maxHeartbeats 40000000
namespace Go.Ab
open Go.Proofs
theorem Amo (r:Roll) (hs:r.Small):Fn Tryz.prog Ro [.v r.toI,.v r.toI] (Is (.v (.bool true)) [.no,.no]):=by
 refine Q1 ?_ (by simp)
 obtain⟨b1,b2,b3,b4,b5⟩:=hs
 repeat'((conv=>whnf);first|(apply aI<;>intro hb<;>first|exact absurd hb (by decide)|((try rw[hb]);(try simp only[Aa]at hb)))|(refine eI ?_ ?_;focus (and_intros<;>first|omega|exact rfl|(simp;done)))|(intro hfact))
 all_goals(try(conv=>whnf))
 all_goals first|(exfalso;have ht:¬True:=(by assumption);exact ht True.intro)|(exfalso;simp at hb;done)|skip
 refine LoopWq.by (X:=Nat) (fun k=>[(5,.v (.int .i64 k))]) (fun k=>k≤r.tens.length) (fun k=>r.tens.length - k)
  0 (by kernel_rfl) (Nat.zero_le _) ?_
 intro k hk
 by_cases hk2:k<r.tens.length
 ·obtain⟨e,he⟩:∃e,r.tens[k]?=some e:=⟨_,List.getElem?_eq_getElem hk2⟩
  have hlt:¬decide ((k:Int)<((r.tens.map Ten.toI).length:Int))=false:=by simp[hk2]
  repeat'((conv=>whnf);first|(apply aI<;>intro hb<;>first|exact absurd hb (by assumption)|((try rw[hb]);(try simp only[Aa]at hb)))|(refine eI ?_ ?_;focus (and_intros<;>first|omega|exact rfl|(simp;done)))|(intro hfact)|((with_reducible apply Drawn.by0);(focus kernel_rfl);intro hfact;(try simp only[dRS]at hfact))|((try dsimp only);first|rw[Au he]|rw[Am he]|rw[An he]))
  all_goals(try(conv=>whnf))
  all_goals first|(exfalso;have ht:¬True:=(by assumption);exact ht True.intro)|(exfalso;simp at hb;done)|skip
  refine Round.by (k+1) ?_ hk2 (by omega)
  rw[Ae (n:=r.tens.length) hk2 (by simp only[maxLen];omega)]
  show norm _ _=upd _ _
  kernel_rfl
 have hlt:¬decide ((k:Int)<((r.tens.map Ten.toI).length:Int))=true:=by simp;omega
 obtain rfl:k=r.tens.length:=by omega
 clear hk hk2
 repeat'((conv=>whnf);first|(apply aI<;>intro hb<;>first|exact absurd hb (by assumption)|((try rw[hb]);(try simp only[Aa]at hb)))|(refine eI ?_ ?_;focus (and_intros<;>first|omega|exact rfl|(simp;done)))|(intro hfact))
 all_goals(try(conv=>whnf))
 refine LoopWq.by (X:=Nat) (fun k=>[(6,.v (.int .i64 k))]) (fun k=>k≤r.usrs.length) (fun k=>r.usrs.length - k)
  0 (by kernel_rfl) (Nat.zero_le _) ?_
 clear hlt
 intro k hk
 by_cases hk2:k<r.usrs.length
 ·obtain⟨u,he⟩:∃e,r.usrs[k]?=some e:=⟨_,List.getElem?_eq_getElem hk2⟩
  have hlt:¬decide ((k:Int)<((r.usrs.map Usr.toI).length:Int))=false:=by simp[hk2]
  have hul:=b4 u (List.mem_of_getElem? he)
  repeat'((conv=>whnf);first|(apply aI<;>intro hb<;>first|exact absurd hb (by first|assumption|decide)|((try rw[hb]);(try simp only[Aa]at hb)))|(refine eI ?_ ?_;focus (and_intros<;>first|omega|exact rfl|(simp;done)))|(intro hfact)|((with_reducible apply Drawn.by0);(focus kernel_rfl);intro hfact;(try simp only[dRS]at hfact))|((try dsimp only);first|rw[Au he]|rw[Am he]|rw[An he]))
  all_goals(try(conv=>whnf))
  all_goals first|(exfalso;have ht:¬True:=(by assumption);exact ht True.intro)|(exfalso;simp at hb;done)|skip
  refine LoopWq.by (X:=Nat) (fun j=>[(9,.v (.int .i64 j))]) (fun j=>j≤u.roles.length) (fun j=>u.roles.length - j)
   0 (by kernel_rfl) (Nat.zero_le _) ?_
  intro j hj
  by_cases hj2:j<u.roles.length
  ·obtain⟨e,hje⟩:∃e,u.roles[j]?=some e:=⟨_,List.getElem?_eq_getElem hj2⟩
   have hlt2:¬decide ((j:Int)<((strs u.roles).length:Int))=false:=by simp[hj2]
   repeat'((conv=>whnf);first|(apply aI<;>intro hb<;>first|exact absurd hb (by assumption)|((try rw[hb]);(try simp only[Aa]at hb)))|(refine eI ?_ ?_;focus (and_intros<;>first|omega|exact rfl|(simp;done)))|(intro hfact)|((with_reducible apply Drawn.by0);(focus kernel_rfl);intro hfact;(try simp only[dRS]at hfact))|((try dsimp only);first|rw[Au hje]|rw[Am hje]|rw[An hje]))
   all_goals(try(conv=>whnf))
   all_goals first|(exfalso;have ht:¬True:=(by assumption);exact ht True.intro)|(exfalso;simp at hb;done)|skip
   refine Round.by (j+1) ?_ hj2 (by omega)
   rw[Ae (n:=u.roles.length) hj2 (by simp only[maxLen];omega)]
   show norm _ _=upd _ _
   kernel_rfl
  ·have hlt2:¬decide ((j:Int)<((strs u.roles).length:Int))=true:=by simp;omega
   obtain rfl:j=u.roles.length:=by omega
   repeat'((conv=>whnf);first|(apply aI<;>intro hb<;>first|exact absurd hb (by assumption)|((try rw[hb]);(try simp only[Aa]at hb)))|(refine eI ?_ ?_;focus (and_intros<;>first|omega|exact rfl|(simp;done)))|(intro hfact))
   all_goals(try(conv=>whnf))
   refine Round.by (k+1) ?_ hk2 (by omega)
   rw[Ae (n:=r.usrs.length) hk2 (by simp only[maxLen];omega)]
   show norm _ _=upd _ _
   kernel_rfl
 have hlt:¬decide ((k:Int)<((r.usrs.map Usr.toI).length:Int))=true:=by simp;omega
 obtain rfl:k=r.usrs.length:=by omega
 clear hk hk2
 repeat'((conv=>whnf);first|(apply aI<;>intro hb<;>first|exact absurd hb (by assumption)|((try rw[hb]);(try simp only[Aa]at hb)))|(refine eI ?_ ?_;focus (and_intros<;>first|omega|exact rfl|(simp;done)))|(intro hfact))
 all_goals(try(conv=>whnf))
 refine LoopWq.by (X:=Nat) (fun k=>[(10,.v (.int .i64 k))]) (fun k=>k≤r.rols.length) (fun k=>r.rols.length - k)
  0 (by kernel_rfl) (Nat.zero_le _) ?_
 clear hlt
 intro k hk
 by_cases hk2:k<r.rols.length
 ·obtain⟨u,he⟩:∃e,r.rols[k]?=some e:=⟨_,List.getElem?_eq_getElem hk2⟩
  have hlt:¬decide ((k:Int)<((r.rols.map Rol.toI).length:Int))=false:=by simp[hk2]
  have hul:=b5 u (List.mem_of_getElem? he)
  repeat'((conv=>whnf);first|(apply aI<;>intro hb<;>first|exact absurd hb (by first|assumption|decide)|((try rw[hb]);(try simp only[Aa]at hb)))|(refine eI ?_ ?_;focus (and_intros<;>first|omega|exact rfl|(simp;done)))|(intro hfact)|((with_reducible apply Drawn.by0);(focus kernel_rfl);intro hfact;(try simp only[dRS]at hfact))|((try dsimp only);first|rw[Au he]|rw[Am he]|rw[An he]))
  all_goals(try(conv=>whnf))
  all_goals first|(exfalso;have ht:¬True:=(by assumption);exact ht True.intro)|(exfalso;simp at hb;done)|skip
  refine LoopWq.by (X:=Nat) (fun j=>[(13,.v (.int .i64 j))]) (fun j=>j≤u.grants.length) (fun j=>u.grants.length - j)
   0 (by kernel_rfl) (Nat.zero_le _) ?_
  intro j hj
  by_cases hj2:j<u.grants.length
  ·obtain⟨e,hje⟩:∃e,u.grants[j]?=some e:=⟨_,List.getElem?_eq_getElem hj2⟩
   have hlt2:¬decide ((j:Int)<((u.grants.map Gra.toI).length:Int))=false:=by simp[hj2]
   repeat'((conv=>whnf);first|(apply aI<;>intro hb<;>first|exact absurd hb (by assumption)|((try rw[hb]);(try simp only[Aa]at hb)))|(refine eI ?_ ?_;focus (and_intros<;>first|omega|exact rfl|(simp;done)))|(intro hfact)|((with_reducible apply Drawn.by0);(focus kernel_rfl);intro hfact;(try simp only[dRS]at hfact))|((try dsimp only);first|rw[Au hje]|rw[Am hje]|rw[An hje]))
   all_goals(try(conv=>whnf))
   all_goals first|(exfalso;have ht:¬True:=(by assumption);exact ht True.intro)|(exfalso;simp at hb;done)|skip
   refine Round.by (j+1) ?_ hj2 (by omega)
   rw[Ae (n:=u.grants.length) hj2 (by simp only[maxLen];omega)]
   show norm _ _=upd _ _
   kernel_rfl
  ·have hlt2:¬decide ((j:Int)<((u.grants.map Gra.toI).length:Int))=true:=by simp;omega
   obtain rfl:j=u.grants.length:=by omega
   repeat'((conv=>whnf);first|(apply aI<;>intro hb<;>first|exact absurd hb (by assumption)|((try rw[hb]);(try simp only[Aa]at hb)))|(refine eI ?_ ?_;focus (and_intros<;>first|omega|exact rfl|(simp;done)))|(intro hfact))
   all_goals(try(conv=>whnf))
   refine Round.by (k+1) ?_ hk2 (by omega)
   rw[Ae (n:=r.rols.length) hk2 (by simp only[maxLen];omega)]
   show norm _ _=upd _ _
   kernel_rfl
 have hlt:¬decide ((k:Int)<((r.rols.map Rol.toI).length:Int))=true:=by simp;omega
 obtain rfl:k=r.rols.length:=by omega
 clear hk hk2
 repeat'((conv=>whnf);first|(apply aI<;>intro hb<;>first|exact absurd hb (by assumption)|((try rw[hb]);(try simp only[Aa]at hb)))|(refine eI ?_ ?_;focus (and_intros<;>first|omega|exact rfl|(simp;done)))|(intro hfact))
 all_goals(try(conv=>whnf))
 exact Done.mk ⟨by kernel_rfl,by kernel_rfl⟩ (by kernel_rfl)
set_option maxHeartbeats 4000000

open Go.Proofs
abbrev F6:Ad:=[114,111,111,116]
def GrOk (l:List Gra):Prop:=(∀g∈l,Bj g.sp∧(g.r||g.w)=true)∧l.Nodup
structure Roll.Ok (r:Roll):Prop where
 tn:∀t∈r.tens,Co t.name=true∧Ej t.mb=true∧Ej t.ks=true
 un:∀u∈r.usrs,Co u.name=true∧u.salt.length≤64∧u.hash.length=32
 xn:∀x∈r.rols,Co x.name=true∧(∃t∈r.tens,t.name=x.ten)∧GrOk x.grants
 ur:∀u∈r.usrs,u.name=F6→u.ten=[]∧u.roles=[]
 ut:∀u∈r.usrs,u.name≠F6→∃t∈r.tens,t.name=u.ten
 uo:∀u∈r.usrs,∀n∈u.roles,∃x∈r.rols,x.name=n∧x.ten=u.ten
 rt:∃u∈r.usrs,u.name=F6
theorem Lw {g:Gra} {out:List Gra} {sp:Sp} (h:GrOk out) (hs:Bj sp) (hg:(g.r||g.w)=true):GrOk (addG g out sp):=by
 unfold addG
 split
 ·exact h
 ·rename_i hn
  refine⟨fun x hx=>?_,?_⟩
  ·rcases List.mem_append.1 hx with hx|hx
   ·exact h.1 x hx
   ·simp at hx;subst hx;exact⟨hs,hg⟩
  ·rw[List.nodup_append]
   refine⟨h.2,by simp,fun a ha b hb=>?_⟩
   simp at hb;subst hb
   intro e
   exact hn (List.any_eq_true.2 ⟨a,ha,by simpa using e⟩)
theorem Jz {g:Gra} (hg:(g.r||g.w)=true):∀{l:List Sp} {out:List Gra},GrOk out→(∀s∈l,Bj s)→GrOk (l.foldl (addG g) out)
 | [],_,h,_=>h
 |s::l,out,h,hl=>Jz hg (l:=l) (Lw h (hl s (List.mem_cons_self ..)) hg) fun x hx=>hl x (List.mem_cons_of_mem _ hx)
theorem K3 {s:Sp}:∀{l out:List Gra},GrOk out→(∀g∈l,Bj g.sp∧(g.r||g.w)=true)→GrOk (l.foldl (De s) out)
 | [],_,h,_=>h
 |g::l,out,h,hl=>K3 (l:=l) (by
   unfold De
   exact Jz (hl g (List.mem_cons_self ..)).2 h (by rw[An5];exact Kp _ _)) fun x hx=>hl x (List.mem_cons_of_mem _ hx)
theorem L1 {l:List Gra} {s:Sp} (h:GrOk l):GrOk (revM l s):=K3 ⟨by simp,by simp⟩ h.1
theorem D3 {α:Type} {gt:α→Bool} {y:α} {p:α→Prop} {l:List α} (h:∃x∈l,p x):∃x∈B2 gt y l,p x:=by
 obtain⟨x,hx,hp⟩:=h
 exact⟨x,Ko.2 (.inr hx),hp⟩
theorem Cs {α:Type} {p:α→Prop} {l:List α} {j:Nat} {x y:α} (hj:l[j]?=some x) (hxy:p x→p y) (h:∃z∈l,p z):∃z∈l.set j y,p z:=by
 obtain⟨z,hz,hp⟩:=h
 obtain⟨i,hi⟩:=List.getElem?_of_mem hz
 by_cases e:j=i
 ·subst e
  rw[hj]at hi
  cases hi
  exact⟨y,List.mem_of_getElem? (i:=j) (by rw[List.getElem?_set_self (List.getElem?_eq_some_iff.1 hj).1]),hxy hp⟩
 ·exact⟨z,List.mem_of_getElem? (i:=i) (by rw[List.getElem?_set_ne e];exact hi),hp⟩
theorem Lf {α:Type} {p:α→Prop} {l:List α} {j:Nat} {x:α} (hj:l[j]?=some x) (hx:¬p x) (h:∃z∈l,p z):∃z∈l.take j++l.drop (j+1),p z:=by
 obtain⟨z,hz,hp⟩:=h
 obtain⟨i,hi⟩:=List.getElem?_of_mem hz
 refine⟨z,?_,hp⟩
 rcases Nat.lt_trichotomy i j with h|h|h
 ·exact List.mem_append_left _ (List.mem_of_getElem? (i:=i) (by rw[List.getElem?_take,if_pos h];exact hi))
 ·subst h;rw[hj]at hi;cases hi;exact absurd hp hx
 ·exact List.mem_append_right _ (List.mem_of_getElem? (i:=i - (j+1)) (by rw[List.getElem?_drop,show j+1+(i - (j+1))=i by omega];exact hi))
theorem Ct {α:Type} {l:List α} {j:Nat} {x:α} (h:x∈l.take j++l.drop (j+1)):x∈l:=by
 rcases List.mem_append.1 h with h|h
 ·exact List.mem_of_mem_take h
 ·exact List.mem_of_mem_drop h
theorem Lo:Co []=false:=by decide
theorem Mc {r:Roll} (h:r.Ok) (c:Cmd):(doM r c).1.Ok:=by
 obtain⟨tn,un,xn,ur,ut,uo,rt⟩:=h
 have h0:r.Ok:=⟨tn,un,xn,ur,ut,uo,rt⟩
 have nn:∀{α:Type} {nm:α→Ad} {l:List α} {n:Ad},findAt (fun t=>decide (nm t=n)) 0 l<0→∀x∈l,nm x≠n:=fun h x hx=>by simpa using Aq3 h x hx
 unfold doM
 split
 ·exact h0
 split
 ·exact h0
 split
 ·unfold Fe
  repeat' split
  all_goals try exact h0
  rename_i g1 g2 g3 g4 g5
  refine⟨fun t ht=>?_,un,fun x hx=>⟨(xn x hx).1,D3 (xn x hx).2.1,(xn x hx).2.2⟩,ur,fun u hu hn=>D3 (ut u hu hn),uo,rt⟩
  rcases Ko.1 ht with rfl|ht
  ·exact⟨by simpa using g1,by simpa using g2,by simpa using g3⟩
  ·exact tn t ht
 split
 ·unfold E9
  repeat' split
  all_goals try exact h0
  rename_i g1 g2 hn
  obtain⟨x,hx,hp⟩:=Aq4 hn
  have hp:x.name=c.name:=of_decide_eq_true hp
  have es:∀{n:Ad},(∃t∈r.tens,t.name=n)→∃t∈r.tens.set (r.tenAt c.name).toNat ⟨c.name,c.bytes,c.keys⟩,t.name=n:=fun h=>Cs hx (fun e=>by dsimp only;rw[←e,hp]) h
  refine⟨fun t ht=>?_,un,fun x hx=>⟨(xn x hx).1,es (xn x hx).2.1,(xn x hx).2.2⟩,ur,fun u hu hn=>es (ut u hu hn),uo,rt⟩
  rcases Hu ht with rfl|ht
  ·exact⟨by rw[←hp];exact(tn x (List.mem_of_getElem? hx)).1,by simpa using g1,by simpa using g2⟩
  ·exact tn t ht
 split
 ·unfold Kj
  repeat' split
  all_goals try exact h0
  rename_i g1 g2 g3 g4 g5 g6
  have hne:c.name≠F6:=by
   obtain⟨u,hu,hr⟩:=rt
   intro e
   exact nn (show r.usrAt c.name<0 by omega) u hu (by rw[hr,e])
  obtain⟨x,hx,hp⟩:=Aq4 (show ¬r.tenAt c.other<0 from g5)
  have hp:x.name=c.other:=of_decide_eq_true hp
  refine⟨tn,fun u hu=>?_,xn,fun u hu hn=>?_,fun u hu hn=>?_,fun u hu=>?_,D3 rt⟩
  ·rcases Ko.1 hu with rfl|hu
   ·exact⟨by simpa using g1,by dsimp only;omega,U6 _ _ _⟩
   ·exact un u hu
  ·rcases Ko.1 hu with rfl|hu
   ·exact absurd hn hne
   ·exact ur u hu hn
  ·rcases Ko.1 hu with rfl|hu
   ·exact⟨x,List.mem_of_getElem? hx,hp⟩
   ·exact ut u hu hn
  ·rcases Ko.1 hu with rfl|hu
   ·intro n hn;simp at hn
   ·exact uo u hu
 split
 ·unfold Hi
  repeat' split
  all_goals try exact h0
  rename_i g1 g2 hn _ u hu
  have hm:=List.mem_of_getElem? hu
  refine⟨tn,fun v hv=>?_,xn,fun v hv=>?_,fun v hv=>?_,fun v hv=>?_,Cs hu (fun e=>e) rt⟩
  all_goals rcases Hu hv with rfl|hv
  ·exact⟨(un u hm).1,by dsimp only;omega,U6 _ _ _⟩
  ·exact un v hv
  ·exact ur u hm
  ·exact ur v hv
  ·exact ut u hm
  ·exact ut v hv
  ·exact uo u hm
  ·exact uo v hv
 split
 ·unfold E7
  repeat' split
  all_goals try exact h0
  rename_i hn hroot
  obtain⟨x,hx,hp⟩:=Aq4 hn
  have hp:x.name=c.name:=of_decide_eq_true hp
  exact⟨tn,fun u hu=>un u (Ct hu),xn,fun u hu=>ur u (Ct hu),fun u hu=>ut u (Ct hu),fun u hu=>uo u (Ct hu),Lf hx (fun e=>hroot (by rw[←hp,e])) rt⟩
 split
 ·unfold Kg
  repeat' split
  all_goals try exact h0
  rename_i g1 g2 g3 g4
  obtain⟨x,hx,hp⟩:=Aq4 (show ¬r.tenAt c.other<0 from g3)
  have hp:x.name=c.other:=of_decide_eq_true hp
  refine⟨tn,un,fun y hy=>?_,ur,ut,fun u hu n hn=>D3 (uo u hu n hn),rt⟩
  rcases Ko.1 hy with rfl|hy
  ·exact⟨by simpa using g1,⟨x,List.mem_of_getElem? hx,hp⟩,by simp[GrOk]⟩
  ·exact xn y hy
 split
 ·unfold He
  repeat' split
  all_goals try exact h0
  rename_i hn
  obtain⟨x,hx,hp⟩:=Aq4 hn
  have hp:x.name=c.name:=of_decide_eq_true hp
  refine⟨tn,fun v hv=>?_,fun y hy=>xn y (Ct hy),fun v hv=>?_,fun v hv=>?_,fun v hv=>?_,?_⟩
  ·obtain⟨u,hu,rfl⟩:=List.mem_map.1 hv;exact un u hu
  ·obtain⟨u,hu,rfl⟩:=List.mem_map.1 hv
   intro e
   obtain⟨e1,e2⟩:=ur u hu e
   exact⟨e1,by simp[Nk,e2]⟩
  ·obtain⟨u,hu,rfl⟩:=List.mem_map.1 hv;exact ut u hu
  ·obtain⟨u,hu,rfl⟩:=List.mem_map.1 hv
   intro n hn
   simp only[Nk,List.mem_filter,Bool.not_eq_true',decide_eq_false_iff_not]at hn
   exact Lf hx (fun e=>hn.2 (by rw[←e.1,hp])) (uo u hu n hn.1)
  ·obtain⟨u,hu,e⟩:=rt
   exact⟨_,List.mem_map_of_mem hu,e⟩
 split
 ·unfold E4
  repeat' split
  all_goals try exact h0
  rename_i g1 hn _ x hx g2 g3
  have hm:=List.mem_of_getElem? hx
  refine⟨tn,un,fun y hy=>?_,ur,ut,fun u hu n hn=>Cs hx (fun e=>e) (uo u hu n hn),rt⟩
  rcases Hu hy with rfl|hy
  ·refine⟨(xn x hm).1,(xn x hm).2.1,fun g hg=>?_,?_⟩
   ·rcases List.mem_append.1 hg with hg|hg
    ·exact(xn x hm).2.2.1 g hg
    ·simp at hg
     subst hg
     have g4:(decide (Bj c.grant.sp)&&(c.grant.r||c.grant.w))=true:=by
      revert g1
      cases (decide (Bj c.grant.sp)&&(c.grant.r||c.grant.w))<;>simp
     rw[Bool.and_eq_true]at g4
     exact⟨of_decide_eq_true g4.1,g4.2⟩
   ·dsimp only
    rw[List.nodup_append]
    refine⟨(xn x hm).2.2.2,by simp,fun a ha b hb=>?_⟩
    simp at hb;subst hb
    intro e
    exact g2 (List.any_eq_true.2 ⟨a,ha,by simpa using e⟩)
  ·exact xn y hy
 split
 ·unfold Dp
  repeat' split
  all_goals try exact h0
  rename_i g1 hn _ x hx g2
  have hm:=List.mem_of_getElem? hx
  refine⟨tn,un,fun y hy=>?_,ur,ut,fun u hu n hn=>Cs hx (fun e=>e) (uo u hu n hn),rt⟩
  rcases Hu hy with rfl|hy
  ·exact⟨(xn x hm).1,(xn x hm).2.1,L1 (xn x hm).2.2⟩
  ·exact xn y hy
 ·unfold Du
  repeat' split
  all_goals try exact h0
  ·rename_i u hu _ _
   have hm:=List.mem_of_getElem? hu
   refine⟨tn,fun v hv=>?_,xn,fun v hv=>?_,fun v hv=>?_,fun v hv=>?_,Cs hu (fun e=>e) rt⟩
   all_goals rcases Hu hv with rfl|hv
   ·exact un u hm
   ·exact un v hv
   ·intro e
    obtain⟨e1,e2⟩:=ur u hm e
    exact⟨e1,by simp[e2]⟩
   ·exact ur v hv
   ·exact ut u hm
   ·exact ut v hv
   ·intro n hn;exact uo u hm n (List.mem_filter.1 hn).1
   ·exact uo v hv
  ·rename_i u hu _ hxn _ x hx ht ha hl
   have hm:=List.mem_of_getElem? hu
   have ht:x.ten=u.ten:=by simpa using ht
   have hxm:=List.mem_of_getElem? hx
   have hxo:x.name=c.other:=by
    obtain⟨y,hy,hp⟩:=Aq4 hxn
    rw[hx]at hy
    cases hy
    exact of_decide_eq_true hp
   refine⟨tn,fun v hv=>?_,xn,fun v hv=>?_,fun v hv=>?_,fun v hv=>?_,Cs hu (fun e=>e) rt⟩
   all_goals rcases Hu hv with rfl|hv
   ·exact un u hm
   ·exact un v hv
   ·intro e
    obtain⟨e1,e2⟩:=ur u hm e
    obtain⟨t,htm,htn⟩:=(xn x hxm).2.1
    have:=(tn t htm).1
    rw[htn,ht,e1,Lo]at this
    cases this
   ·exact ur v hv
   ·exact ut u hm
   ·exact ut v hv
   ·intro n hn
    rcases Ko.1 hn with rfl|hn
    ·exact⟨x,hxm,hxo,ht⟩
    ·exact uo u hm n hn
   ·exact uo v hv
theorem Mh (a b:Ad) (ha:a.length≤64):(Ea a b).Ok:=by
 refine⟨by simp[Ea],fun u hu=>?_,by simp[Ea],fun u hu=>?_,fun u hu=>?_,fun u hu=>?_,⟨_,List.mem_cons_self ..,rfl⟩⟩
 all_goals
  simp[Ea]at hu
  subst hu
 ·exact⟨show Co F6=true by decide,ha,U6 _ _ _⟩
 ·exact fun _=>⟨rfl,rfl⟩
 ·exact fun h=>absurd rfl h
 ·simp
set_option maxHeartbeats 40000000

open Go.Proofs
def L5 (l:List Ad) (i:Nat):Prop:=∀x,l[i]?=some x→Co x=true∧∀y,0<i→l[i - 1]?=some y→y<x
def Dw (l:List Ad):Prop:=∀i,L5 l i

open Go.Proofs
def GrAt (l:List Gra) (i:Nat):Prop:=∀x,l[i]?=some x→(Bj x.sp∧(x.r||x.w)=true)∧x ∉ l.take i

open Go.Proofs
def Mi (r:Roll) (u:Usr) (n:Ad):Prop:=(getR r.rols n).2=true∧(getR r.rols n).1.ten=u.ten
structure UsrOk (r:Roll) (u:Usr):Prop where
 salt:u.salt.length≤64
 hash:u.hash.length=32
 many:u.roles.length≤4
 rise:Dw u.roles
 root:u.name=[114,111,111,116]→u.ten=[]∧u.roles=[]
 ten:u.name≠[114,111,111,116]→(getT r.tens u.ten).2=true
 rol:u.name≠[114,111,111,116]→∀n∈u.roles,Mi r u n
structure RolR (r:Roll) (x:Rol):Prop where
 ten:(getT r.tens x.ten).2=true
 grs:x.grants.length≤8∧∀i,GrAt x.grants i
structure Roll.RightP (r:Roll):Prop where
 num:1≤r.rev∧r.rev≤1099511627776∧r.tens.length≤8∧r.usrs.length≤16∧r.rols.length≤16
 rT:Dw (r.tens.map Ten.name)
 rU:Dw (r.usrs.map Usr.name)
 rX:Dw (r.rols.map Rol.name)
 tens:∀t∈r.tens,Ej t.mb=true∧Ej t.ks=true
 rols:∀x∈r.rols,RolR r x
 usrs:∀u∈r.usrs,UsrOk r u
 root:(getU r.usrs [114,111,111,116]).2=true
set_option maxHeartbeats 4000000

open Go.Proofs
def Told (r:Roll) (x:Roll × Int):Prop:=(x.2=0∧x.1.rev=r.rev+1)∨(x.2≠0∧x.1=r)
theorem L0 (r:Roll) (c:Cmd):Told r (doM r c):=by
 have no:∀n:Int,n≠0→Told r (r,n):=fun n h=>.inr ⟨h,rfl⟩
 unfold doM
 repeat' split
 all_goals first|exact no _ (by decide)|skip
 ·unfold Fe;repeat' split
  all_goals first|exact no _ (by decide)|exact .inl ⟨rfl,rfl⟩
 ·unfold E9;repeat' split
  all_goals first|exact no _ (by decide)|exact .inl ⟨rfl,rfl⟩
 ·unfold Kj;repeat' split
  all_goals first|exact no _ (by decide)|exact .inl ⟨rfl,rfl⟩
 ·unfold Hi;repeat' split
  all_goals first|exact no _ (by decide)|exact .inl ⟨rfl,rfl⟩
 ·unfold E7;repeat' split
  all_goals first|exact no _ (by decide)|exact .inl ⟨rfl,rfl⟩
 ·unfold Kg;repeat' split
  all_goals first|exact no _ (by decide)|exact .inl ⟨rfl,rfl⟩
 ·unfold He;repeat' split
  all_goals first|exact no _ (by decide)|exact .inl ⟨rfl,rfl⟩
 ·unfold E4;repeat' split
  all_goals first|exact no _ (by decide)|exact .inl ⟨rfl,rfl⟩
 ·unfold Dp;repeat' split
  all_goals first|exact no _ (by decide)|exact .inl ⟨rfl,rfl⟩
 ·unfold Du;repeat' split
  all_goals first|exact no _ (by decide)|exact .inl ⟨rfl,rfl⟩
theorem Lu {α:Type} {p:α→Bool} {l:List α} {x:α} (hx:x∈l) (hp:p x=true):∃y,l.find? p=some y∧y∈l∧p y=true:=by
 cases h:l.find? p with
 |none=>exact absurd hp (by simpa using List.find?_eq_none.1 h x hx)
 |some y=>exact⟨y,rfl,List.mem_of_find?_eq_some h,List.find?_some h⟩
theorem Lp {α:Type} {nm:α→Ad} {l:List α} (h:Dt nm l) {x y:α} (hx:x∈l) (hy:y∈l) (e:nm x=nm y):x=y:=by
 obtain⟨i,hi⟩:=List.getElem?_of_mem hx
 obtain⟨j,hj⟩:=List.getElem?_of_mem hy
 obtain⟨hi',hi⟩:=List.getElem?_eq_some_iff.1 hi
 obtain⟨hj',hj⟩:=List.getElem?_eq_some_iff.1 hj
 have h:=List.pairwise_iff_getElem.1 h
 rcases Nat.lt_trichotomy i j with hl|hl|hl
 ·have:=h i j hi' hj' hl
  rw[hi,hj,e]at this
  exact absurd this (List.lt_irrefl _)
 ·subst hl;rw[←hi, ←hj]
 ·have:=h j i hj' hi' hl
  rw[hi,hj,e]at this
  exact absurd this (List.lt_irrefl _)
theorem K2 {l:List Rol} (h:Dt Rol.name l) {x:Rol} (hx:x∈l):getR l x.name=(x,true):=by
 obtain⟨y,h1,h2,h3⟩:=Lu (p:=fun t:Rol=>decide (t.name=x.name)) hx (by simp)
 have:y=x:=Lp h h2 hx (by simpa using h3)
 unfold getR
 rw[h1,this]
set_option maxHeartbeats 40000000

open Go.Proofs
theorem Kz:∀(l:List Cmd) (r:Roll),r.Ok→(l.foldl next r).Ok
 | [],r,h=>h
 |c::l,r,h=>Kz l _ (Mc h c)

open Go.Proofs
theorem K5 (s:Sp) (k:Ad):Fn Tryz.prog K4 [.v s.toI,.v (.str k)] (Is (.v (.bool (decide (SpH s k)))) [.no,.no]):=by
 refine Kq ?_ (by simp)
 repeat'((conv=>whnf);first
  |(refine aI (fun hb=>?_) (fun hb=>?_)<;>first|(exact absurd hb (by first|assumption|decide))|(with_reducible exact absurd hb Bool.false_ne_true)|(with_reducible exact absurd hb.symm Bool.false_ne_true)|(exfalso;first|(simp only[Ag]at hb<;>omega)|omega)|((try rw[hb]);(try simp only[Aa]at hb);(try subst hb)))
  |(refine eI ?_ ?_;focus (and_intros<;>first|omega|exact rfl|assumption|(intro _ hh;cases hh;done)|exact A0 (by rfl)|exact size_map (fun _=>rfl)|exact Aqd rfl|exact take_size (fun _=>rfl)|exact B5 rfl|exact Am8 (fun _=>rfl)|exact Am7 (fun _=>rfl)|(simp only[Ag];omega)|(simp;done)|decide))
  |(intro hfact))
 all_goals(try(conv=>whnf))
 all_goals(refine Done.mk ⟨SV.bool_congr ?_,by kernel_rfl⟩ (by kernel_rfl))
 all_goals(simp[SpH,Cu]at*;grind)
def Cg (w:Bool) (k:Ad) (g:Gra):Bool:=((g.r&& !w)||(g.w&&w))&&decide (SpH g.sp k)
def mayG (l:List Gra) (w:Bool) (k:Ad):Bool:=l.any (Cg w k)
theorem Cv (x:Rol) (hx:x.grants.length≤1000) (w:Bool) (k:Ad):Fn Tryz.prog Bn [.v x.toI,.v (.bool w),.rp (.str k)] (Is (.v (.bool (mayG x.grants w k))) [.no,.no,.no]):=by
 refine Ba ?_ (by simp)
 repeat'((conv=>whnf);first
  |(refine aI (fun hb=>?_) (fun hb=>?_)<;>first|(exact absurd hb (by first|assumption|decide))|(with_reducible exact absurd hb Bool.false_ne_true)|(with_reducible exact absurd hb.symm Bool.false_ne_true)|(exfalso;first|(simp only[Ag]at hb<;>omega)|omega)|((try rw[hb]);(try simp only[Aa]at hb);(try subst hb)))
  |(refine eI ?_ ?_;focus (and_intros<;>first|omega|exact rfl|assumption|(intro _ hh;cases hh;done)|exact A0 (by rfl)|exact size_map (fun _=>rfl)|exact Aqd rfl|exact take_size (fun _=>rfl)|exact B5 rfl|exact Am8 (fun _=>rfl)|exact Am7 (fun _=>rfl)|(simp only[Ag];omega)|(simp;done)|decide))
  |(intro hfact))
 all_goals(try(conv=>whnf))
 refine LoopWq.by (X:=Nat) (fun j=>[(11,.v (.int .i64 j))]) (fun j=>j≤x.grants.length∧(x.grants.take j).any (Cg w k)=false) (fun j=>x.grants.length - j)
  0 (by kernel_rfl) ⟨Nat.zero_le _,rfl⟩ ?_
 rintro j ⟨hj,hA⟩
 by_cases hj2:j<x.grants.length
 ·obtain⟨e,he⟩:∃e,x.grants[j]?=some e:=⟨_,List.getElem?_eq_getElem hj2⟩
  have hlt:¬decide ((j:Int)<((x.grants.map Gra.toI).length:Int))=false:=by simp[hj2]
  have hh:=K5 e.sp k
  have hm:=List.mem_of_getElem? he
  have hone:Cg w k e=(((e.r&& !w)||(e.w&&w))&&decide (SpH e.sp k)):=rfl
  have hyes:Cg w k e=true→mayG x.grants w k=true:=fun h=>List.any_eq_true.2 ⟨e,hm,h⟩
  have hno:Cg w k e=false→(x.grants.take (j+1)).any (Cg w k)=false:=fun h=>by
   rw[List.take_add_one,he,List.any_append,hA]
   simp[h]
  generalize Cg w k e=v at*
  generalize decide (SpH e.sp k)=d at*
  generalize hG:mayG x.grants w k=G at*
  obtain⟨s,r1,w1⟩:=e
  dsimp only at hone hh
  cases r1<;>cases w1<;>cases w<;>cases d<;>subst hone
  all_goals
   repeat'((conv=>whnf);first
    |(refine aI (fun hb=>?_) (fun hb=>?_)<;>first|(exact absurd hb (by first|assumption|decide))|(with_reducible exact absurd hb Bool.false_ne_true)|(with_reducible exact absurd hb.symm Bool.false_ne_true)|(exfalso;first|(simp only[Ag]at hb<;>omega)|omega)|((try rw[hb]);(try simp only[Aa]at hb);(try subst hb)))
    |(refine eI ?_ ?_;focus (and_intros<;>first|omega|exact rfl|assumption|(intro _ hh;cases hh;done)|exact A0 (by rfl)|exact size_map (fun _=>rfl)|exact Aqd rfl|exact take_size (fun _=>rfl)|exact B5 rfl|exact Am8 (fun _=>rfl)|exact Am7 (fun _=>rfl)|(simp only[Ag];omega)|(simp;done)|decide))
    |(intro hfact)
    |((try dsimp only);first|rw[Au he]|rw[Am he]|rw[An he])
    |(refine CallWp.mk ⟨_,hh,?_⟩;rintro _ _ ⟨rfl,rfl⟩))
   all_goals(try(conv=>whnf))
   all_goals first|contradiction|skip
   all_goals first
    |(obtain rfl:=hyes rfl;exact Done.mk ⟨by kernel_rfl,by kernel_rfl⟩ (by kernel_rfl))
    |(refine Round.by (j+1) ?_ ⟨hj2,hno rfl⟩ (by omega)
      rw[Ae (n:=x.grants.length) hj2 (by simp only[maxLen];omega)]
      show norm _ _=upd _ _
      kernel_rfl)
 ·have hlt:¬decide ((j:Int)<((x.grants.map Gra.toI).length:Int))=true:=by simp;omega
  obtain rfl:j=x.grants.length:=by omega
  rw[List.take_length]at hA
  have hG:mayG x.grants w k=false:=hA
  rw[hG]
  repeat'((conv=>whnf);first
   |(refine aI (fun hb=>?_) (fun hb=>?_)<;>first|(exact absurd hb (by first|assumption|decide))|(with_reducible exact absurd hb Bool.false_ne_true)|(with_reducible exact absurd hb.symm Bool.false_ne_true)|(exfalso;first|(simp only[Ag]at hb<;>omega)|omega)|((try rw[hb]);(try simp only[Aa]at hb);(try subst hb)))
   |(refine eI ?_ ?_;focus (and_intros<;>first|omega|exact rfl|assumption|(intro _ hh;cases hh;done)|exact A0 (by rfl)|exact size_map (fun _=>rfl)|exact Aqd rfl|exact take_size (fun _=>rfl)|exact B5 rfl|exact Am8 (fun _=>rfl)|exact Am7 (fun _=>rfl)|(simp only[Ag];omega)|(simp;done)|decide))
   |(intro hfact))
  all_goals(try(conv=>whnf))
  exact Done.mk ⟨by kernel_rfl,by kernel_rfl⟩ (by kernel_rfl)
theorem Lq {g:Gra} {out:List Gra} {sp:Sp} {x:Gra}:x∈addG g out sp↔x∈out∨x=⟨sp,g.r,g.w⟩:=by
 unfold addG
 split
 ·rename_i h
  obtain⟨y,hy,e⟩:=List.any_eq_true.1 h
  have e:=of_decide_eq_true e
  subst e
  constructor
  ·exact .inl
  ·rintro(h|rfl)
   ·exact h
   ·exact hy
 ·simp
theorem Hn {g:Gra} {x:Gra}:∀{l:List Sp} {out:List Gra},x∈l.foldl (addG g) out↔x∈out∨∃sp∈l,x=⟨sp,g.r,g.w⟩
 | [],out=>by simp
 |s::l,out=>by
  rw[List.foldl_cons,Hn (l:=l),Lq]
  simp[or_assoc]
theorem Cy {s:Sp} {x:Gra}:∀{l out:List Gra},x∈l.foldl (De s) out↔x∈out∨∃g∈l,∃sp∈Ef [g.sp] s,x=⟨sp,g.r,g.w⟩
 | [],out=>by simp
 |g::l,out=>by
  rw[List.foldl_cons,Cy (l:=l)]
  unfold De
  rw[Hn]
  simp[or_assoc]
theorem Lv {l:List Gra} {s:Sp} (hl:GrOk l) (hs:Bj s) (w:Bool) (k:Ad):mayG (revM l s) w k=(mayG l w k&& !decide (SpH s k)):=by
 rw[Bool.eq_iff_iff]
 simp only[mayG,List.any_eq_true,Bool.and_eq_true,Cg,decide_eq_true_eq,Bool.not_eq_true',decide_eq_false_iff_not]
 unfold revM
 constructor
 ·rintro⟨x,hx,ha,hk⟩
  rcases Cy.1 hx with hx|⟨g,hg,sp,hsp,rfl⟩
  ·simp at hx
  ·rw[An5]at hsp
   have:=(Ake [g.sp] s k).1 ⟨sp,hsp,hk⟩
   obtain⟨⟨y,hy,hy2⟩,h2⟩:=this
   simp at hy
   subst hy
   exact⟨⟨g,hg,ha,hy2.2⟩,fun h=>h2 ⟨hs,h⟩⟩
 ·rintro⟨⟨g,hg,ha,hk⟩,hn⟩
  obtain⟨sp,hsp,hk2⟩:=(Ake [g.sp] s k).2 ⟨⟨g.sp,by simp,(hl.1 g hg).1,hk⟩,fun h=>hn h.2⟩
  rw[←An5]at hsp
  exact⟨⟨sp,g.r,g.w⟩,Cy.2 (.inr ⟨g,hg,sp,hsp,rfl⟩),ha,hk2⟩
theorem Ks {r:Roll} (s:r.Sorted) (o:r.Ok) (c:Cmd) (hk:c.kind=12) (hd:(doM r c).2=0):∃x:Rol,getR r.rols c.name=(x,true)∧x∈r.rols∧ {x with grants:=revM x.grants c.grant.sp}∈(doM r c).1.rols∧GrOk x.grants∧Bj c.grant.sp∧getR (doM r c).1.rols c.name=({x with grants:=revM x.grants c.grant.sp},true):=by
 have hs2:=(Aj2 s c).X
 unfold doM at hd hs2 ⊢
 rw[if_neg (by omega)]at hd hs2 ⊢
 split at hd
 ·simp at hd
 rename_i h2
 rw[if_neg h2]at hs2 ⊢
 simp only[hk,show ¬((12:Int)=4)by decide,show ¬((12:Int)=5)by decide,show ¬((12:Int)=6)by decide,show ¬((12:Int)=7)by decide,show ¬((12:Int)=8)by decide,show ¬((12:Int)=9)by decide,show ¬((12:Int)=10)by decide,show ¬((12:Int)=11)by decide,if_false,if_true]at hd hs2 ⊢
 unfold Dp at hd hs2 ⊢
 split at hd
 ·simp at hd
 rename_i h3
 rw[if_neg h3]at hs2 ⊢
 split at hd
 ·simp at hd
 rename_i h4
 rw[if_neg h4]at hs2 ⊢
 obtain⟨x,hx,hp⟩:=Aq4 h4
 have hn:x.name=c.name:=of_decide_eq_true hp
 simp only[hx]at hd hs2 ⊢
 split at hd
 ·simp at hd
 rename_i h5
 rw[if_neg h5]at hs2 ⊢
 have hm:=List.mem_of_getElem? hx
 have hm2: {x with grants:=revM x.grants c.grant.sp}∈r.rols.set (r.rolAt c.name).toNat {x with grants:=revM x.grants c.grant.sp}:=
  List.mem_of_getElem? (i:=(r.rolAt c.name).toNat) (by rw[List.getElem?_set_self (List.getElem?_eq_some_iff.1 hx).1])
 refine⟨x,?_,hm,hm2,(o.xn x hm).2.2,by simpa using h3,?_⟩
 ·rw[←hn];exact K2 s.X hm
 ·have:=K2 hs2 (x:={x with grants:=revM x.grants c.grant.sp}) hm2
  dsimp only at this ⊢
  exact(congrArg (getR _) hn).symm.trans this

open Go.Proofs
theorem bs18 (c:Cmd):∀u∈(List.replicate 1 (I.agg [.int .i64 0,.int .i64 0,.str [],.int .i64 0,.str [],.str [],.str [],.str [],.int .i64 0,.int .i64 0,.agg [.agg [.str [],.str []],.bool false,.bool false],.int .i64 0,.list [],.list [],.list []])).set 0 c.toI,u.size=18:=by
 intro u hu
 have hu:u∈[c.toI]:=hu
 rw[List.mem_singleton]at hu
 subst hu
 exact sz18 c
theorem Hm (c:Cmd):(c.toI.put ([]++[3]) (.int .i64 12)).size=18:=by kernel_rfl
theorem Dk (l:List Cmd) (c:Cmd) (key:Ad) (hl:(l.length+1)*240≤140737488355328):Fn Tryz.prog Ca [.v (.list (l.map Cmd.toI)),.v c.toI,.v (.str key)] (Is (.v (.bool true)) [.no,.no,.no]):=by
 refine Br ?_ (by simp)
 have hlm:l.length+1≤maxLen:=by simp only[maxLen];omega
 have aw:=Agh
 have gr:=Agu (c::l) hlm
 have hsz1:∀u∈l.map Cmd.toI,u.size=18:=fun u hu=>by
  obtain⟨d,_,rfl⟩:=List.mem_map.1 hu
  exact sz18 d
 have n1:=Acd [115] [119] (by simp) (by simp)
 cases hg:Kk (c::l)with
 |true=>
  rw[hg]at gr
  repeat'((conv=>whnf);first
   |(refine aI (fun hb=>?_) (fun hb=>?_)<;>first|(exact absurd hb (by first|assumption|decide))|(with_reducible exact absurd hb Bool.false_ne_true)|(with_reducible exact absurd hb.symm Bool.false_ne_true)|(exfalso;first|(simp only[Ag]at hb<;>omega)|omega)|((try rw[hb]);(try simp only[Aa]at hb);(try subst hb)))
   |(refine eI ?_ ?_;focus (and_intros<;>first|(with_reducible exact sz18 _)|(with_reducible exact Ar9 _)|(with_reducible exact Asa _)|(with_reducible exact Asb _)|(with_reducible exact bs18 _)|(with_reducible exact Hm _)|omega|exact rfl|assumption|(intro _ hh;cases hh;done)|exact A0 (by rfl)|exact size_map (fun _=>rfl)|exact Aqd rfl|exact take_size (fun _=>rfl)|exact B5 rfl|exact Am8 (fun _=>rfl)|exact Am7 (fun _=>rfl)|(simp only[Ag];omega)|(simp;done)|decide))
   |(intro hfact)
   |((with_reducible apply Drawn.by0);(focus kernel_rfl);intro hfact;(try simp only[dRS]at hfact))
   |(refine CallWp.mk ⟨_,aw,?_⟩;rintro _ _ ⟨rfl,rfl⟩)
   |(refine CallWp.mk ⟨_,gr,?_⟩;rintro _ _ ⟨rfl,rfl⟩))
  all_goals(try(conv=>whnf))
  all_goals first|contradiction|exact Done.mk ⟨by kernel_rfl,by kernel_rfl⟩ (by kernel_rfl)
 |false=>
 rw[hg]at gr
 have hb0:∀d∈c::l,bigC d=false:=by
  unfold Kk at hg
  rw[Bool.or_eq_false_iff]at hg
  intro d hd
  have:=List.any_eq_false.1 hg.2 d hd
  simpa using this
 clear hg
 by_cases hkl:key.length≤1000
 case neg=>
  repeat'((conv=>whnf);first
   |(refine aI (fun hb=>?_) (fun hb=>?_)<;>first|(exact absurd hb (by first|assumption|decide))|(with_reducible exact absurd hb Bool.false_ne_true)|(with_reducible exact absurd hb.symm Bool.false_ne_true)|(exfalso;first|(simp only[Ag]at hb<;>omega)|omega)|((try rw[hb]);(try simp only[Aa]at hb);(try subst hb)))
   |(refine eI ?_ ?_;focus (and_intros<;>first|(with_reducible exact sz18 _)|(with_reducible exact Ar9 _)|(with_reducible exact Asa _)|(with_reducible exact Asb _)|(with_reducible exact bs18 _)|(with_reducible exact Hm _)|omega|exact rfl|assumption|(intro _ hh;cases hh;done)|exact A0 (by rfl)|exact size_map (fun _=>rfl)|exact Aqd rfl|exact take_size (fun _=>rfl)|exact B5 rfl|exact Am8 (fun _=>rfl)|exact Am7 (fun _=>rfl)|(simp only[Ag];omega)|(simp;done)|decide))
   |(intro hfact)
   |((with_reducible apply Drawn.by0);(focus kernel_rfl);intro hfact;(try simp only[dRS]at hfact))
   |(refine CallWp.mk ⟨_,aw,?_⟩;rintro _ _ ⟨rfl,rfl⟩)
   |(refine CallWp.mk ⟨_,gr,?_⟩;rintro _ _ ⟨rfl,rfl⟩))
  all_goals(try(conv=>whnf))
  all_goals first|contradiction|(exfalso;omega)|exact Done.mk ⟨by kernel_rfl,by kernel_rfl⟩ (by kernel_rfl)
 have g0:=Ai5 [115] [119]
 have g1:=Yu [115] [119]
 have g2:=Mh [115] [119] (by simp)
 generalize Ea [115] [119]=R0 at*
 repeat'((conv=>whnf);first
  |(refine aI (fun hb=>?_) (fun hb=>?_)<;>first|(exact absurd hb (by first|assumption|decide))|(with_reducible exact absurd hb Bool.false_ne_true)|(with_reducible exact absurd hb.symm Bool.false_ne_true)|(exfalso;first|(simp only[Ag]at hb<;>omega)|omega)|((try rw[hb]);(try simp only[Aa]at hb);(try subst hb)))
  |(refine eI ?_ ?_;focus (and_intros<;>first|(with_reducible exact sz18 _)|(with_reducible exact Ar9 _)|(with_reducible exact Asa _)|(with_reducible exact Asb _)|(with_reducible exact bs18 _)|(with_reducible exact Hm _)|omega|exact rfl|assumption|(intro _ hh;cases hh;done)|exact A0 (by rfl)|exact size_map (fun _=>rfl)|exact Aqd rfl|exact take_size (fun _=>rfl)|exact B5 rfl|exact Am8 (fun _=>rfl)|exact Am7 (fun _=>rfl)|(simp only[Ag];omega)|(simp;done)|decide))
  |(intro hfact)
  |((with_reducible apply Drawn.by0);(focus kernel_rfl);intro hfact;(try simp only[dRS]at hfact))
  |(refine CallWp.mk ⟨_,aw,?_⟩;rintro _ _ ⟨rfl,rfl⟩)
  |(refine CallWp.mk ⟨_,gr,?_⟩;rintro _ _ ⟨rfl,rfl⟩)
  |(refine CallWp.mk ⟨_,n1,?_⟩;rintro _ _ ⟨rfl,rfl⟩))
 all_goals(try(conv=>whnf))
 all_goals first|contradiction|(exfalso;omega)|skip
 obtain⟨R,hR⟩:∃R:Nat→Roll,R=fun k=>(l.take k).foldl next R0:=⟨_,rfl⟩
 have hR0:R 0=R0:=by rw[hR];rfl
 have hRg:∀k,(R k).Fit∧(R k).Sorted:=fun k=>by rw[hR];exact U4 _ _ g0 g1
 have hRo:∀k,(R k).Ok:=fun k=>by rw[hR];exact Kz _ _ g2
 have hRs:∀k e,l[k]?=some e→R (k+1)=next (R k) e:=fun k e he=>by
  rw[hR]
  simp only[List.take_add_one,he,Option.toList_some,List.foldl_append,List.foldl_cons,List.foldl_nil]
 clear hR aw gr n1
 refine LoopWq.by (X:=Nat) (fun k=>[(7,.box (.one (.i (R k).toI))),(37,.v (.int .i64 k))]) (fun k=>k≤l.length) (fun k=>l.length - k)
  0 (by rw[hR0];kernel_rfl) (Nat.zero_le _) ?_
 intro k hk
 by_cases hk2:k<l.length
 ·obtain⟨e,he⟩:∃e,l[k]?=some e:=⟨_,List.getElem?_eq_getElem hk2⟩
  have hlt:¬decide ((k:Int)<((l.map Cmd.toI).length:Int))=false:=by simp[hk2]
  have hbe:¬bigC e=true:=by rw[hb0 e (List.mem_cons_of_mem _ (List.mem_of_getElem? he))];simp
  rw[Aa5]at hbe
  obtain⟨hf,hs⟩:=hRg k
  have d1:=Aqe (R k) hf hs e (by omega)
  have hnx:=hRs k e he
  unfold next at hnx
  rw[←hnx]at d1
  generalize (doM (R k) e).2=b at d1
  obtain⟨Rn,hRn⟩:∃x,x=R (k+1):=⟨_,rfl⟩
  rw[←hRn]at d1
  obtain⟨Rk,hRk⟩:∃x,x=R k:=⟨_,rfl⟩
  rw[←hRk]at d1 ⊢
  clear hRg hRo hRs hb0 g0 g1 g2 hbe hnx hf hs hR0 hRk
  iterate 4 (all_goals(try((conv=>whnf);first
   |(refine aI (fun hb=>?_) (fun hb=>?_)<;>first|(exact absurd hb (by first|assumption|decide))|(with_reducible exact absurd hb Bool.false_ne_true)|(with_reducible exact absurd hb.symm Bool.false_ne_true)|(exfalso;first|(simp only[Ag]at hb<;>omega)|omega)|((try rw[hb]);(try simp only[Aa]at hb);(try subst hb)))
   |(refine eI ?_ ?_;focus (and_intros<;>first|(with_reducible exact sz18 _)|(with_reducible exact Ar9 _)|(with_reducible exact Asa _)|(with_reducible exact Asb _)|omega|exact rfl|assumption|(intro _ hh;cases hh;done)|exact A0 (by rfl)|exact size_map (fun _=>rfl)|exact Aqd rfl|exact take_size (fun _=>rfl)|exact B5 rfl|exact Am8 (fun _=>rfl)|exact Am7 (fun _=>rfl)|(simp only[Ag];omega)|(simp;done)|decide))
   |(intro hfact)
   |((with_reducible apply Drawn.by0);(focus kernel_rfl);intro hfact;(try simp only[dRS]at hfact))
   |((try dsimp only);first|rw[Au he]|rw[Am he]|rw[An he]))))
  generalize hKK:wqS Tryz.prog _ _=KK
  as_aux_lemma=>
   repeat'((conv=>whnf);first
    |(refine aI (fun hb=>?_) (fun hb=>?_)<;>first|(exact absurd hb (by first|assumption|decide))|(with_reducible exact absurd hb Bool.false_ne_true)|(with_reducible exact absurd hb.symm Bool.false_ne_true)|(exfalso;first|(simp only[Ag]at hb<;>omega)|omega)|((try rw[hb]);(try simp only[Aa]at hb);(try subst hb)))
    |(refine eI ?_ ?_;focus (and_intros<;>first|(with_reducible exact sz18 _)|(with_reducible exact Ar9 _)|(with_reducible exact Asa _)|(with_reducible exact Asb _)|omega|exact rfl|assumption|(intro _ hh;cases hh;done)|exact A0 (by rfl)|exact size_map (fun _=>rfl)|exact Aqd rfl|exact take_size (fun _=>rfl)|exact B5 rfl|exact Am8 (fun _=>rfl)|exact Am7 (fun _=>rfl)|(simp only[Ag];omega)|(simp;done)|decide))
    |(intro hfact)
    |((with_reducible apply Drawn.by0);(focus kernel_rfl);intro hfact;(try simp only[dRS]at hfact)))
   all_goals(try(conv=>whnf))
   rw[←hKK]
   clear hKK
   as_aux_lemma=>
    repeat'((conv=>whnf);first
     |(refine aI (fun hb=>?_) (fun hb=>?_)<;>first|(exact absurd hb (by first|assumption|decide))|(with_reducible exact absurd hb Bool.false_ne_true)|(with_reducible exact absurd hb.symm Bool.false_ne_true)|(exfalso;first|(simp only[Ag]at hb<;>omega)|omega)|((try rw[hb]);(try simp only[Aa]at hb);(try subst hb)))
     |(refine eI ?_ ?_;focus (and_intros<;>first|(with_reducible exact sz18 _)|(with_reducible exact Ar9 _)|(with_reducible exact Asa _)|(with_reducible exact Asb _)|omega|exact rfl|assumption|(intro _ hh;cases hh;done)|exact A0 (by rfl)|exact size_map (fun _=>rfl)|exact Aqd rfl|exact take_size (fun _=>rfl)|exact B5 rfl|exact Am8 (fun _=>rfl)|exact Am7 (fun _=>rfl)|(simp only[Ag];omega)|(simp;done)|decide))
     |(intro hfact)
     |((with_reducible apply Drawn.by0);(focus kernel_rfl);intro hfact;(try simp only[dRS]at hfact))
     |(refine CallWp.mk ⟨_,d1,?_⟩;rintro _ _ ⟨rfl,rfl⟩))
    all_goals(try(conv=>whnf))
    refine Round.by (k+1) ?_ hk2 (by omega)
    rw[Ae hk2 (by omega), ←hRn]
    show norm _ _=upd _ _
    kernel_rfl
 have hlt:¬decide ((k:Int)<((l.map Cmd.toI).length:Int))=true:=by simp;omega
 obtain rfl:k=l.length:=by omega
 have hbc:¬bigC c=true:=by rw[hb0 c (List.mem_cons_self ..)];simp
 rw[Aa5]at hbc
 obtain⟨hf,hs⟩:=hRg l.length
 have ho:=hRo l.length
 generalize R l.length=Rl at hf hs ho ⊢
 clear hRg hRo hRs hR0 hb0 g0 g1 g2 hk hk2
 have d2:=Aqe Rl hf hs {c with kind:=12} (by dsimp only;omega)
 have hrv:=L0 Rl {c with kind:=12}
 have hfn:=Arb hf {c with kind:=12}
 have htold:=Ks hs ho {c with kind:=12} rfl
 unfold Told at hrv
 generalize doM Rl {c with kind:=12}=Y at*
 obtain⟨Rn,b⟩:=Y
 dsimp only at hrv hfn htold d2
 have sm:=Amo Rl hf.small
 have q1:=Uj Rl hf.small c.name
 have q2:=Uj Rn hfn.small c.name
 have gn:=T6 c.grant.sp key
 have hxs:∀x∈Rl.rols,x.grants.length≤1000:=fun x hx=>by have:=hf.hG x hx;omega
 have hxn:∀x∈Rn.rols,x.grants.length≤1000:=fun x hx=>by have:=hfn.hG x hx;omega
 by_cases hz:b=0
 case neg=>
  have hRn:Rn=Rl:=by rcases hrv with⟨h,_⟩|⟨_,h⟩<;>first|exact absurd h hz|exact h
  subst hRn
  have hz2:¬(!decide (b=0))=false:=by simp[hz]
  as_aux_lemma=>
   clear htold hrv q1 q2 gn
   repeat'((conv=>whnf);first
    |(refine aI (fun hb=>?_) (fun hb=>?_)<;>first|(exact absurd hb (by first|assumption|decide))|(with_reducible exact absurd hb Bool.false_ne_true)|(with_reducible exact absurd hb.symm Bool.false_ne_true)|(exfalso;first|(simp only[Ag]at hb<;>omega)|omega)|((try rw[hb]);(try simp only[Aa]at hb);(try subst hb)))
    |(refine eI ?_ ?_;focus (and_intros<;>first|(with_reducible exact sz18 _)|(with_reducible exact Ar9 _)|(with_reducible exact Asa _)|(with_reducible exact Asb _)|(with_reducible exact bs18 _)|(with_reducible exact Hm _)|omega|exact rfl|assumption|(intro _ hh;cases hh;done)|exact A0 (by rfl)|exact size_map (fun _=>rfl)|exact Aqd rfl|exact take_size (fun _=>rfl)|exact B5 rfl|exact Am8 (fun _=>rfl)|exact Am7 (fun _=>rfl)|(simp only[Ag];omega)|(simp;done)|decide))
    |(intro hfact)
    |((with_reducible apply Drawn.by0);(focus kernel_rfl);intro hfact;(try simp only[dRS]at hfact))
    |(refine CallWp.mk ⟨_,d2,?_⟩;rintro _ _ ⟨rfl,rfl⟩)
    |(refine CallWp.mk ⟨_,sm,?_⟩;rintro _ _ ⟨rfl,rfl⟩))
   all_goals(try(conv=>whnf))
   all_goals first|contradiction|exact Done.mk ⟨by kernel_rfl,by kernel_rfl⟩ (by kernel_rfl)
 subst hz
 obtain⟨x,x1,x2,x3,x4,x5,x6⟩:=htold rfl
 try dsimp only at x1 x2 x3 x5 x6
 rw[x1]at q1
 rw[x6]at q2
 have a0:=Cv x (hxs x x2) false key
 have a1:=Cv x (hxs x x2) true key
 have b0:=Cv {x with grants:=revM x.grants c.grant.sp} (hxn _ x3) false key
 have b1:=Cv {x with grants:=revM x.grants c.grant.sp} (hxn _ x3) true key
 try dsimp only at b0 b1
 rw[Lv x4 x5]at b0 b1
 clear x1 x2 x3 x4 x5 x6 htold hrv hxs hxn sm hf hs ho hfn
 generalize mayG x.grants false key=v0 at*
 generalize mayG x.grants true key=v1 at*
 generalize decide (SpH c.grant.sp key)=vg at*
 repeat'((conv=>whnf);first
  |(refine aI (fun hb=>?_) (fun hb=>?_)<;>first|(exact absurd hb (by first|assumption|decide))|(with_reducible exact absurd hb Bool.false_ne_true)|(with_reducible exact absurd hb.symm Bool.false_ne_true)|(exfalso;first|(simp only[Ag]at hb<;>omega)|omega)|((try rw[hb]);(try simp only[Aa]at hb);(try subst hb)))
  |(refine eI ?_ ?_;focus (and_intros<;>first|(with_reducible exact sz18 _)|(with_reducible exact Ar9 _)|(with_reducible exact Asa _)|(with_reducible exact Asb _)|(with_reducible exact bs18 _)|(with_reducible exact Hm _)|omega|exact rfl|assumption|(intro _ hh;cases hh;done)|exact A0 (by rfl)|exact size_map (fun _=>rfl)|exact Aqd rfl|exact take_size (fun _=>rfl)|exact B5 rfl|exact Am8 (fun _=>rfl)|exact Am7 (fun _=>rfl)|(simp only[Ag];omega)|(simp;done)|decide))
  |(intro hfact)
  |((with_reducible apply Drawn.by0);(focus kernel_rfl);intro hfact;(try simp only[dRS]at hfact))
  |(refine CallWp.mk ⟨_,d2,?_⟩;rintro _ _ ⟨rfl,rfl⟩)
  |(refine CallWp.mk ⟨_,q1,?_⟩;rintro _ _ ⟨rfl,rfl⟩)
  |(refine CallWp.mk ⟨_,q2,?_⟩;rintro _ _ ⟨rfl,rfl⟩)
  |(refine CallWp.mk ⟨_,gn,?_⟩;rintro _ _ ⟨rfl,rfl⟩))
 all_goals(try(conv=>whnf))
 all_goals
  as_aux_lemma=>
   clear d2 q1 q2 gn
   cases v0<;>cases v1<;>cases vg
   all_goals
    simp only[Bool.not_true,Bool.not_false,Bool.and_true,Bool.and_false]at b0 b1
    repeat'((conv=>whnf);first
     |(refine aI (fun hb=>?_) (fun hb=>?_)<;>first|(exact absurd hb (by first|assumption|decide))|(with_reducible exact absurd hb Bool.false_ne_true)|(with_reducible exact absurd hb.symm Bool.false_ne_true)|(exfalso;first|(simp only[Ag]at hb<;>omega)|omega)|((try rw[hb]);(try simp only[Aa]at hb);(try subst hb)))
     |(refine eI ?_ ?_;focus (and_intros<;>first|omega|exact rfl|assumption|(intro _ hh;cases hh;done)|exact A0 (by rfl)|exact size_map (fun _=>rfl)|exact Aqd rfl|exact take_size (fun _=>rfl)|exact B5 rfl|exact Am8 (fun _=>rfl)|exact Am7 (fun _=>rfl)|(simp only[Ag];omega)|(simp;done)|decide))
     |(intro hfact)
     |((with_reducible apply Drawn.by0);(focus (as_aux_lemma=>kernel_rfl));intro hfact;(try simp only[dRS]at hfact))
     |(refine CallIs.mk ⟨_,_,a0,?_⟩)
     |(refine CallIs.mk ⟨_,_,a1,?_⟩)
     |(refine CallIs.mk ⟨_,_,b0,?_⟩)
     |(refine CallIs.mk ⟨_,_,b1,?_⟩))
    all_goals(try(conv=>whnf))
    all_goals first|contradiction|exact Done.mk ⟨by kernel_rfl,by kernel_rfl⟩ (by kernel_rfl)
end Go.Ab
