/- Lemmas for the last text. -/
import Derived.Test.YtgcccllpegilnaaGreatDoorH1
set_option linter.unusedVariables false
set_option linter.unusedSimpArgs false
set_option maxRecDepth 100000
set_option maxHeartbeats 8000000
namespace Go.Ab
open Go.Proofs
abbrev byD (l:Ad):List D:=(l.map A2).map D.it
def ee (e n:Nat):Nat:=if n=0 then e else if e<1000000 then e+1000000 else e
theorem Ai0 (e n:Nat):(if ee e n<1000000 then ee e n+1000000 else ee e n)=ee e (n+1):=by
 unfold ee;by_cases h:n=0<;>by_cases g:e<1000000<;>simp[h,g]<;>omega
def addN (x y:H8) (j:Nat):H8:=⟨if 0<j then B4 (x.a+y.a)else x.a,if 1<j then B4 (x.b+y.b)else x.b,if 2<j then B4 (x.c+y.c)else x.c,if 3<j then B4 (x.d+y.d)else x.d,
 if 4<j then B4 (x.e+y.e)else x.e,if 5<j then B4 (x.f+y.f)else x.f,if 6<j then B4 (x.g+y.g)else x.g,if 7<j then B4 (x.i+y.i)else x.i⟩
def Strm.write (s:Strm) (t:Ad):Strm:=
 let n:=(s.rest++t).length / 64
 ⟨A4 s.w (s.rest++t) n,ee s.e n,(s.rest++t).drop (64*n),IntKind.u64.wrap (s.size+IntKind.u64.wrap (t.length:Int))⟩
set_option pp.maxSteps 100000 in
set_option pp.deepTerms true in
theorem Amt (s:Strm) (tx:Ad) (he:s.e<1000000→s.e=5) (hl:s.rest.length+tx.length≤100000000):
 Fn Tryz.prog Jn [.own [] (Strm.toD s),.v (.str tx)] (Is (resD []) [.own [] (s.write tx).toD,.no]):=by
 refine Sm ?_ (by simp)
 unfold Strm.write
 obtain⟨w,e,rest,size⟩:=s
 simp only at he hl ⊢
 have e1:((rest.map A2).length+(tx.map A2).length)*1≤140737488355328:=by simp only[List.length_map];omega
 have e2:(rest.map A2).length+(tx.map A2).length≤maxLen:=by simp only[List.length_map,maxLen];omega
 repeat'((conv=>whnf);first|(apply aI<;>intro hb<;>first|exact absurd hb (by decide)|((try rw[hb]);(try simp only[Aa]at hb)))|(refine eI ?_ ?_;focus (and_intros<;>first|omega|exact rfl|exact size_map (fun _=>rfl)|(simp;done)))|(intro hfact)|((try dsimp only);rw[F1]))
 all_goals(try(conv=>whnf))
 have hBl:(rest++tx).length=rest.length+tx.length:=List.length_append
 rw[←hBl]at hl
 rw[show List.map A2 rest++List.map A2 tx=List.map A2 (rest++tx)from List.map_append.symm]
 obtain⟨B,hB⟩:∃B,B=rest++tx:=⟨_,rfl⟩
 rw[←hB]at hBl hl ⊢
 obtain⟨z,hz⟩:∃z,z=IntKind.u64.wrap (size+IntKind.u64.wrap (tx.length:Int)):=⟨_,rfl⟩
 rw[←hz]
 clear e1 e2 hB hz
 refine LoopWq.by (X:=Nat) (fun n=>[(48,.own [] (Strm.toD ⟨A4 w B n,ee e n,B.drop (64*n),z⟩))]) (fun n=>64*n≤B.length) (fun n=>B.length - 64*n)
  0 (by kernel_rfl) (by omega) ?_
 intro n hn
 obtain⟨R,hR⟩:∃R,R=B.drop (64*n):=⟨_,rfl⟩
 have hRl:R.length=B.length - 64*n:=by rw[hR,List.length_drop]
 rw[←hR]
 by_cases hnN:64≤R.length
 case neg=>
  have hlt:¬decide ((64:Int)≤((R.map A2).length:Int))=true:=by simp;omega
  repeat'((conv=>whnf);first|(apply aI<;>intro hb<;>first|(exfalso;simp only[Ag]at hb<;>omega)|((try rw[hb]);(try simp only[Aa]at hb)))|(refine eI ?_ ?_;focus (and_intros<;>first|omega|exact rfl|(simp;done)))|(intro hfact))
  all_goals(try(conv=>whnf))
  have hn':n=B.length / 64:=by omega
  subst hn'
  rw[←hR]
  exact Done.mk ⟨by kernel_rfl,by kernel_rfl⟩ (by kernel_rfl)
 have hlt:¬decide ((64:Int)≤((R.map A2).length:Int))=false:=by simp;omega
 repeat'((conv=>whnf);first|(apply aI<;>intro hb<;>first|(exfalso;simp only[Ag]at hb<;>omega)|((try rw[hb]);(try simp only[Aa]at hb)))|(refine eI ?_ ?_;focus (and_intros<;>first|omega|exact rfl|(simp only[Ag];omega)|(simp;done)))|(intro hfact)|((with_reducible apply Drawn.by0);(focus kernel_rfl);intro hfact;(try simp only[dRS]at hfact)))
 all_goals(try(conv=>whnf))
 refine Jo ?_ (by decide)
 (conv=>whnf)
 all_goals(try(conv=>whnf))
 refine LoopWq.by (X:=Nat) (fun i=>[(4,.box (.one (.i (u32s (padW (sched B (64*n) i)))))),(17,.v (.int .i64 i))]) (fun i=>i≤16) (fun i=>16 - i)
  0 (by kernel_rfl) (by omega) ?_
 intro i hi
 by_cases hi16:i<16
 case pos=>
  have hlt1:¬decide ((i:Int)<16)=false:=by simp;omega
  have w0:IntKind.i64.wrap (4*(i:Int))=((4*i:Nat):Int):=by
   rw[show 4*(i:Int)=((4*i:Nat):Int)by omega];exact A5 (by omega)
  have w1:IntKind.i64.wrap (((4*i:Nat):Int)+1)=((4*i+1:Nat):Int):=by
   rw[show((4*i:Nat):Int)+1=((4*i+1:Nat):Int)by omega];exact A5 (by omega)
  have w2:IntKind.i64.wrap (((4*i:Nat):Int)+2)=((4*i+2:Nat):Int):=by
   rw[show((4*i:Nat):Int)+2=((4*i+2:Nat):Int)by omega];exact A5 (by omega)
  have w3:IntKind.i64.wrap (((4*i:Nat):Int)+3)=((4*i+3:Nat):Int):=by
   rw[show((4*i:Nat):Int)+3=((4*i+3:Nat):Int)by omega];exact A5 (by omega)
  have g:∀k:Nat,k<64→(List.map D.it (List.map A2 R))[Int.toNat 0+Int.toNat (k:Int)]?=some (.it (.int .u8 (Cf B (64*n+k)))):=fun k hk=>by
   obtain⟨b,hb⟩:∃b,R[k]?=some b:=⟨_,List.getElem?_eq_getElem (by omega)⟩
   have hb':B[64*n+k]?=some b:=by rw[←hb,hR,List.getElem?_drop]
   rw[Int.toNat_natCast,show Int.toNat 0+k=k by simp,List.getElem?_map,List.getElem?_map,hb,Cf,List.getD_eq_getElem?_getD,hb']
   rfl
  have gD:∀(k:Nat) (_:k<64) (h8:H8) (e':Nat),D.at [0,1,Int.toNat 0+Int.toNat (k:Int)] (Strm.toD ⟨h8,e',R,z⟩)=some (.it (.int .u8 (Cf B (64*n+k)))):=fun k hk h8 e'=>by
   show(match(List.map D.it (List.map A2 R))[Int.toNat 0+Int.toNat (k:Int)]? with|some y=>D.at [] y|none=>none)=_
   rw[g k hk]
   rfl
  have hsl:=B7 B (64*n) i
  obtain⟨v0,hv0⟩:∃v0,(padW (sched B (64*n) i))[i]?=some v0:=⟨_,List.getElem?_eq_getElem (by rw[Ke (by omega)];omega)⟩
  have hh:=Dm hv0
  have hp:=V2 hv0
  repeat'((conv=>whnf);first|(apply aI<;>intro hb<;>first|exact absurd hb (by assumption)|((try rw[hb]);(try simp only[Aa]at hb)))|(refine eI ?_ ?_;focus (and_intros<;>first|omega|exact rfl|(simp;done)))|((with_reducible apply Drawn.by0);(focus kernel_rfl);intro hfact;(try simp only[dRS]at hfact))|((try dsimp only);rw[w0])|((try dsimp only);rw[w1])|((try dsimp only);rw[w2])|((try dsimp only);rw[w3])|(refine Bm rfl (gD _ (by omega) _ _) rfl ?_)|((try dsimp only);rw[hh]))
  all_goals(try(conv=>whnf))
  have hset:padW (sched B (64*n) (i+1))=(padW (sched B (64*n) i)).set i (Zw B (64*n+4*i)):=by
   rw[sched,if_pos hi16, ←Ag7, ←Tu (by rw[hsl];omega),hsl]
  refine Round.by (i+1) ?_ (by omega) (by omega)
  rw[Ae hi16 (by simp only[maxLen];omega),hset,hp]
  show norm _ _=upd _ _
  kernel_rfl
 have hlt1:¬decide ((i:Int)<16)=true:=by simp;omega
 have hi':i=16:=by omega
 subst hi'
 clear hlt1 hi hi16
 repeat'((conv=>whnf);(apply aI<;>intro hb<;>first|exact absurd hb (by decide)|((try rw[hb]);(try simp only[Aa]at hb))))
 all_goals(try(conv=>whnf))
 refine LoopWq.by (X:=Nat) (fun t=>[(4,.box (.one (.i (u32s (padW (sched B (64*n) t)))))),(6,.v (.int .i64 t))]) (fun t=>16≤t∧t≤64) (fun t=>64 - t)
  16 (by kernel_rfl) (by omega) ?_
 rintro t ⟨ht1,ht2⟩
 by_cases ht64:t<64
 case pos=>
  have hlt1:¬decide ((t:Int)<64)=false:=by simp;omega
  have hsl:=B7 B (64*n) t
  have hset:padW (sched B (64*n) (t+1))=(padW (sched B (64*n) t)).set t (extI (sched B (64*n) t) t):=by
   rw[sched,if_neg (by omega), ←Tu (by rw[hsl];omega),hsl]
  rw[←Ai1]at hset
  obtain⟨w,hw⟩:∃w,w=sched B (64*n) t:=⟨_,rfl⟩
  rw[←hw]at hsl hset ⊢
  have g:∀j,j<t→w[j]?=some (wAt w j):=fun j hj=>by
   rw[wAt,List.getD_eq_getElem?_getD,List.getElem?_eq_getElem (by omega)];rfl
  have hwr:∀j:Nat,j≤t→IntKind.i64.wrap ((t:Int) - (j:Int))=((t - j:Nat):Int):=fun j hj=>by
   rw[show(t:Int) - (j:Int)=((t - j:Nat):Int)by omega];exact A5 (by omega)
  have w2:IntKind.i64.wrap ((t:Int) - 2)=((t - 2:Nat):Int):=hwr 2 (by omega)
  have w7:IntKind.i64.wrap ((t:Int) - 7)=((t - 7:Nat):Int):=hwr 7 (by omega)
  have w15:IntKind.i64.wrap ((t:Int) - 15)=((t - 15:Nat):Int):=hwr 15 (by omega)
  have w16:IntKind.i64.wrap ((t:Int) - 16)=((t - 16:Nat):Int):=hwr 16 (by omega)
  have h2:=Dm (Gf (g (t - 2) (by omega)))
  have h7:=Dm (Gf (g (t - 7) (by omega)))
  have h15:=Dm (Gf (g (t - 15) (by omega)))
  have h16:=Dm (Gf (g (t - 16) (by omega)))
  obtain⟨v0,hv0⟩:∃v0,(padW w)[t]?=some v0:=⟨_,List.getElem?_eq_getElem (by rw[Ke (by omega)];omega)⟩
  have hh:=Dm hv0
  have hp:=V2 hv0
  repeat'((conv=>whnf);first|(apply aI<;>intro hb<;>first|exact absurd hb (by assumption)|((try rw[hb]);(try simp only[Aa]at hb)))|(refine eI ?_ ?_;focus (and_intros<;>first|omega|exact rfl|(intro _ hh;cases hh;done)|(simp;done)|decide))|((with_reducible apply Drawn.by0);(focus kernel_rfl);intro hfact;(try simp only[dRS]at hfact))|((try dsimp only);rw[w2])|((try dsimp only);rw[w7])|((try dsimp only);rw[w15])|((try dsimp only);rw[w16])|((try dsimp only);rw[h2])|((try dsimp only);rw[h7])|((try dsimp only);rw[h15])|((try dsimp only);rw[h16])|((try dsimp only);rw[hh])|(refine CallWp.mk ⟨_,B1 _ (-7) 7,?_⟩;rintro _ _ ⟨rfl,rfl⟩)|(refine CallWp.mk ⟨_,B1 _ (-18) 18,?_⟩;rintro _ _ ⟨rfl,rfl⟩)|(refine CallWp.mk ⟨_,B1 _ (-17) 17,?_⟩;rintro _ _ ⟨rfl,rfl⟩)|(refine CallWp.mk ⟨_,B1 _ (-19) 19,?_⟩;rintro _ _ ⟨rfl,rfl⟩))
  all_goals(try(conv=>whnf))
  refine Round.by (t+1) ?_ ⟨by omega,ht64⟩ (by omega)
  rw[Ae ht64 (by simp only[maxLen];omega),hset,hp]
  show norm _ _=upd _ _
  kernel_rfl
 have hlt1:¬decide ((t:Int)<64)=true:=by simp;omega
 have ht':t=64:=by omega
 subst ht'
 have hsl:=B7 B (64*n) 64
 have hpd:padW (sched B (64*n) 64)=sched B (64*n) 64:=by rw[padW,hsl];exact List.append_nil _
 rw[hpd]
 have hnext:A4 w B (n+1)=addH (A4 w B n) (rnds (sched B (64*n) 64) (A4 w B n) 64):=rfl
 obtain⟨W,hW⟩:∃W,W=sched B (64*n) 64:=⟨_,rfl⟩
 rw[←hW]at hsl hnext ⊢
 obtain⟨H,hH⟩:∃H,H=A4 w B n:=⟨_,rfl⟩
 rw[←hH]at hnext ⊢
 clear hpd hlt1 ht1 ht2 ht64
 repeat'((conv=>whnf);first|(apply aI<;>intro hb<;>first|exact absurd hb (by decide)|((try rw[hb]);(try simp only[Aa]at hb)))|(refine eI ?_ ?_;focus (and_intros<;>first|omega|exact rfl|(intro _ hh;cases hh;done)|(simp;done)|decide))|(refine CallWp.mk ⟨_,Vp,?_⟩;rintro _ _ ⟨rfl,rfl⟩))
 all_goals(try(conv=>whnf))
 refine LoopWq.by (X:=Nat) (fun t=>[(9,.box (.one (.i (u32s (rnds W H t).l)))),(103,.v (.int .i64 t))]) (fun t=>t≤64) (fun t=>64 - t)
  0 (by kernel_rfl) (by omega) ?_
 intro t ht
 by_cases ht64:t<64
 case pos=>
  have hlt1:¬decide ((t:Int)<64)=false:=by simp;omega
  have hgk:kays[t]?=some (wAt kays t):=by
   rw[wAt,List.getD_eq_getElem?_getD,List.getElem?_eq_getElem (show t<kays.length from ht64)];rfl
  have hgw:W[t]?=some (wAt W t):=by
   rw[wAt,List.getD_eq_getElem?_getD,List.getElem?_eq_getElem (by omega)];rfl
  have hh:=Dm hgw
  have hr:rnds W H (t+1)=rnd (rnds W H t) (wAt kays t) (wAt W t):=rfl
  obtain⟨Q,hQ⟩:∃R,R=rnds W H t:=⟨_,rfl⟩
  rw[←hQ]at hr ⊢
  obtain⟨kt,hkt⟩:∃k,k=wAt kays t:=⟨_,rfl⟩
  rw[←hkt]at hr hgk
  obtain⟨wt,hwt⟩:∃k,k=wAt W t:=⟨_,rfl⟩
  rw[←hwt]at hr hh
  clear hQ hkt hwt
  repeat'((conv=>whnf);first|(apply aI<;>intro hb<;>first|exact absurd hb (by assumption)|((try rw[hb]);(try simp only[Aa]at hb)))|(refine eI ?_ ?_;focus (and_intros<;>first|omega|exact rfl|(intro _ hh;cases hh;done)|exact A0 (by rfl)|(simp;done)|decide))|((with_reducible apply Drawn.by0);(focus kernel_rfl);intro hfact;(try simp only[dRS]at hfact))|((try dsimp only);first|rw[Au hgk]|rw[Am hgk]|rw[An hgk])|((try dsimp only);rw[hh])|(refine CallIs.mk ⟨_,_,B1 _ (-6) 6,?_⟩)|(refine CallIs.mk ⟨_,_,B1 _ (-11) 11,?_⟩)|(refine CallIs.mk ⟨_,_,B1 _ (-25) 25,?_⟩)|(refine CallIs.mk ⟨_,_,B1 _ (-2) 2,?_⟩)|(refine CallIs.mk ⟨_,_,B1 _ (-13) 13,?_⟩)|(refine CallIs.mk ⟨_,_,B1 _ (-22) 22,?_⟩))
  all_goals(try(conv=>whnf))
  refine Round.by (t+1) ?_ (by omega) (by omega)
  rw[Ae ht64 (by simp only[maxLen];omega),hr]
  show norm _ _=upd _ _
  kernel_rfl
 have hlt1:¬decide ((t:Int)<64)=true:=by simp;omega
 have ht':t=64:=by omega
 subst ht'
 clear hlt1 ht ht64
 obtain⟨Q,hQ⟩:∃R,R=rnds W H 64:=⟨_,rfl⟩
 rw[←hQ]at hnext ⊢
 repeat'((conv=>whnf);(apply aI<;>intro hb<;>first|exact absurd hb (by decide)|((try rw[hb]);(try simp only[Aa]at hb))))
 all_goals(try(conv=>whnf))
 refine LoopWq.by (X:=Nat) (fun j=>[(245,.own [] (Strm.toD ⟨addN H Q j,ee e n,R,z⟩)),(182,.v (.int .i64 j))]) (fun j=>j≤8) (fun j=>8 - j)
  0 (by kernel_rfl) (by omega) ?_
 intro j hj
 by_cases hj8:j<8
 case pos=>
  have hj':j=0∨j=1∨j=2∨j=3∨j=4∨j=5∨j=6∨j=7:=by omega
  clear hj hj8
  rcases hj' with rfl|rfl|rfl|rfl|rfl|rfl|rfl|rfl
  ·repeat'((conv=>whnf);first|(apply aI<;>intro hb<;>first|exact absurd hb (by decide)|((try rw[hb]);(try simp only[Aa]at hb)))|(refine eI ?_ ?_;focus (and_intros<;>first|omega|exact rfl|(simp;done)))|((with_reducible apply Drawn.by0);(focus kernel_rfl);intro hfact;(try simp only[dRS]at hfact))|((refine Exists.intro ⟨by omega,by omega,(show(_:Nat)<8 from by omega),rfl,by simp⟩ ?_)))
   all_goals(try(conv=>whnf))
   refine Round.by 1 ?_ (by omega) (by omega)
   show norm _ _=upd _ _
   kernel_rfl
  ·repeat'((conv=>whnf);first|(apply aI<;>intro hb<;>first|exact absurd hb (by decide)|((try rw[hb]);(try simp only[Aa]at hb)))|(refine eI ?_ ?_;focus (and_intros<;>first|omega|exact rfl|(simp;done)))|((with_reducible apply Drawn.by0);(focus kernel_rfl);intro hfact;(try simp only[dRS]at hfact))|((refine Exists.intro ⟨by omega,by omega,(show(_:Nat)<8 from by omega),rfl,by simp⟩ ?_)))
   all_goals(try(conv=>whnf))
   refine Round.by 2 ?_ (by omega) (by omega)
   show norm _ _=upd _ _
   kernel_rfl
  ·repeat'((conv=>whnf);first|(apply aI<;>intro hb<;>first|exact absurd hb (by decide)|((try rw[hb]);(try simp only[Aa]at hb)))|(refine eI ?_ ?_;focus (and_intros<;>first|omega|exact rfl|(simp;done)))|((with_reducible apply Drawn.by0);(focus kernel_rfl);intro hfact;(try simp only[dRS]at hfact))|((refine Exists.intro ⟨by omega,by omega,(show(_:Nat)<8 from by omega),rfl,by simp⟩ ?_)))
   all_goals(try(conv=>whnf))
   refine Round.by 3 ?_ (by omega) (by omega)
   show norm _ _=upd _ _
   kernel_rfl
  ·repeat'((conv=>whnf);first|(apply aI<;>intro hb<;>first|exact absurd hb (by decide)|((try rw[hb]);(try simp only[Aa]at hb)))|(refine eI ?_ ?_;focus (and_intros<;>first|omega|exact rfl|(simp;done)))|((with_reducible apply Drawn.by0);(focus kernel_rfl);intro hfact;(try simp only[dRS]at hfact))|((refine Exists.intro ⟨by omega,by omega,(show(_:Nat)<8 from by omega),rfl,by simp⟩ ?_)))
   all_goals(try(conv=>whnf))
   refine Round.by 4 ?_ (by omega) (by omega)
   show norm _ _=upd _ _
   kernel_rfl
  ·repeat'((conv=>whnf);first|(apply aI<;>intro hb<;>first|exact absurd hb (by decide)|((try rw[hb]);(try simp only[Aa]at hb)))|(refine eI ?_ ?_;focus (and_intros<;>first|omega|exact rfl|(simp;done)))|((with_reducible apply Drawn.by0);(focus kernel_rfl);intro hfact;(try simp only[dRS]at hfact))|((refine Exists.intro ⟨by omega,by omega,(show(_:Nat)<8 from by omega),rfl,by simp⟩ ?_)))
   all_goals(try(conv=>whnf))
   refine Round.by 5 ?_ (by omega) (by omega)
   show norm _ _=upd _ _
   kernel_rfl
  ·repeat'((conv=>whnf);first|(apply aI<;>intro hb<;>first|exact absurd hb (by decide)|((try rw[hb]);(try simp only[Aa]at hb)))|(refine eI ?_ ?_;focus (and_intros<;>first|omega|exact rfl|(simp;done)))|((with_reducible apply Drawn.by0);(focus kernel_rfl);intro hfact;(try simp only[dRS]at hfact))|((refine Exists.intro ⟨by omega,by omega,(show(_:Nat)<8 from by omega),rfl,by simp⟩ ?_)))
   all_goals(try(conv=>whnf))
   refine Round.by 6 ?_ (by omega) (by omega)
   show norm _ _=upd _ _
   kernel_rfl
  ·repeat'((conv=>whnf);first|(apply aI<;>intro hb<;>first|exact absurd hb (by decide)|((try rw[hb]);(try simp only[Aa]at hb)))|(refine eI ?_ ?_;focus (and_intros<;>first|omega|exact rfl|(simp;done)))|((with_reducible apply Drawn.by0);(focus kernel_rfl);intro hfact;(try simp only[dRS]at hfact))|((refine Exists.intro ⟨by omega,by omega,(show(_:Nat)<8 from by omega),rfl,by simp⟩ ?_)))
   all_goals(try(conv=>whnf))
   refine Round.by 7 ?_ (by omega) (by omega)
   show norm _ _=upd _ _
   kernel_rfl
  ·repeat'((conv=>whnf);first|(apply aI<;>intro hb<;>first|exact absurd hb (by decide)|((try rw[hb]);(try simp only[Aa]at hb)))|(refine eI ?_ ?_;focus (and_intros<;>first|omega|exact rfl|(simp;done)))|((with_reducible apply Drawn.by0);(focus kernel_rfl);intro hfact;(try simp only[dRS]at hfact))|((refine Exists.intro ⟨by omega,by omega,(show(_:Nat)<8 from by omega),rfl,by simp⟩ ?_)))
   all_goals(try(conv=>whnf))
   refine Round.by 8 ?_ (by omega) (by omega)
   show norm _ _=upd _ _
   kernel_rfl
 have hj':j=8:=by omega
 subst hj'
 clear hj hj8
 have hlt1:¬decide ((8:Int)<8)=true:=by simp
 have hadd:addN H Q 8=addH H Q:=rfl
 rw[hadd, ←hnext]
 have hee:(if ee e n<1000000 then ee e n+1000000 else ee e n)=ee e (n+1):=Ai0 e n
 have hdr:List.drop (Int.toNat 64) (List.map A2 R)=List.map A2 (B.drop (64*(n+1))):=by
  rw[←List.map_drop,hR,List.drop_drop]
  congr 2
 repeat'((conv=>whnf);first|(apply aI<;>intro hb<;>first|exact absurd hb (by assumption)|((try rw[hb]);(try simp only[Aa]at hb)))|(refine eI ?_ ?_;focus (and_intros<;>first|omega|exact rfl|(simp only[Ag];omega)|(simp;done)))|((try dsimp only);rw[F1])|((try dsimp only);rw[hee])|((try dsimp only);rw[hdr]))
 all_goals(try(conv=>whnf))
 refine Round.by (n+1) ?_ (by omega) (by omega)
 show norm _ _=upd _ _
 kernel_rfl

open Go.Proofs
def Strm.tail (s:Strm):Ad:=s.rest++[128]++List.replicate (zeros s.rest.length) 0++numB (8*s.size.toNat) 8
abbrev Strm.toDF (s:Strm):D:=.ptr (.it (.agg [u32s s.w.l,.list (s.rest.map A2),.int .u64 s.size]))
def Strm.digest (s:Strm):Ad:=outB (A4 s.w s.tail (s.tail.length / 64)) 8
theorem Xi:∀(k n j:Nat),j<k→(numB n k)[j]?=some (UInt8.ofNat (n / 256^(k - 1 - j) % 256))
 |0,_,_,h=>by omega
 |k+1,n,j,h=>by
  rw[numB]
  by_cases hj:j<k
  ·rw[List.getElem?_append_left (by rw[Bh];exact hj),Xi k (n / 256) j hj,Nat.div_div_eq_div_mul,show k+1 - 1 - j=(k - 1 - j)+1 by omega,Nat.pow_succ,Nat.mul_comm]
  ·obtain rfl:j=k:=by omega
   rw[List.getElem?_append_right (by rw[Bh];exact Nat.le_refl _),Bh]
   simp
theorem Ai6 (h:H8) (t:Nat):(outB h t).length≤4*t:=by
 unfold outB
 induction t with
 |zero=>simp
 |succ t ih=>
  rw[List.take_add_one,List.flatMap_append,List.length_append]
  cases hx:h.l[t]? with
  |none=>simp only[Option.toList_none,List.flatMap_nil,List.length_nil];omega
  |some x=>simp only[Option.toList_some,List.flatMap_cons,List.flatMap_nil,List.append_nil,Bh];omega
theorem An3 {h:H8} {t:Nat} {x:Int} (hx:h.l[t]?=some x):outB h (t+1)=outB h t++numB x.toNat 4:=by
 unfold outB
 rw[List.take_add_one,List.flatMap_append,hx]
 simp
theorem Ar6 (x:Int) (h:0≤x∧x<4294967296):(numB x.toNat 4).map A2=[I.int .u8 (IntKind.u8.wrap (shrI .u32 x 24)),I.int .u8 (IntKind.u8.wrap (shrI .u32 x 16)),I.int .u8 (IntKind.u8.wrap (shrI .u32 x 8)),I.int .u8 (IntKind.u8.wrap x)]:=by
 obtain⟨m,rfl⟩:∃m:Nat,x=m:=⟨x.toNat,by omega⟩
 rw[Int.toNat_natCast]
 have hs:∀k:Nat,k≤32→shrI .u32 (m:Int) (k:Int)=((m / 2^k:Nat):Int):=fun k hk=>by
  show Int.fdiv (m:Int) (2^(min (Int.toNat (k:Int)) 32))=_
  rw[Int.toNat_natCast,Nat.min_eq_left hk]
  exact(show Int.fdiv (m:Int) ((2^k:Nat):Int)=_ from(Int.ofNat_fdiv _ _).symm)
 have s24:=hs 24 (by omega)
 have s16:=hs 16 (by omega)
 have s8:=hs 8 (by omega)
 rw[show((24:Nat):Int)=24 from rfl]at s24
 rw[show((16:Nat):Int)=16 from rfl]at s16
 rw[show((8:Nat):Int)=8 from rfl]at s8
 rw[s24,s16,s8]
 have hb:∀k:Nat,A2 (UInt8.ofNat (k % 256))=I.int .u8 (IntKind.u8.wrap (k:Int)):=fun k=>by
  unfold A2
  rw[wrap_u8,UInt8.toNat_ofNat']
  congr 1
  omega
 simp only[numB,List.nil_append,List.map_append,List.map_cons,List.map_nil,List.cons_append,hb]
 simp only[Nat.div_div_eq_div_mul]
theorem K1:∀s:Ad,bytesOf (s.map A2)=some s
 | []=>rfl
 |b::s=>by simp[A2,bytesOf,K1 s]
theorem Ao4 (s:Strm) (hl:s.rest.length≤100000) (hz:0≤s.size∧s.size≤1000000000):
 Fn Tryz.prog Lb [.own [] s.toD] (Is (.v (.str s.digest)) [.own [] s.toDF]):=by
 refine Vf ?_ (by simp)
 obtain⟨w,e,rest,size⟩:=s
 simp only at hl hz ⊢
 repeat'((conv=>whnf);first|(apply aI<;>intro hb<;>first|exact absurd hb (by decide)|((try rw[hb]);(try simp only[Aa]at hb)))|(refine eI ?_ ?_;focus (and_intros<;>first|omega|exact rfl|exact A0 (by rfl)|exact size_map (fun _=>rfl)|(simp only[Ag];omega)|(simp;done)))|((simp only[show D.at (0::[].append [1]) (Strm.toD ⟨w,e,rest,size⟩)=some (D.vec e 1 ((rest.map A2).map D.it))from rfl,D.toI,Aj])))
 all_goals(try(conv=>whnf))
 have hE:([]++List.map A2 rest++(List.replicate 1 (I.int IntKind.u8 0)).set 0 (I.int IntKind.u8 128))=List.map A2 (rest++[128]):=by simp[A2]
 rw[hE]
 obtain⟨n,hn⟩:∃n,n=rest.length:=⟨_,rfl⟩
 have hzl:zeros n<64:=by unfold zeros;omega
 refine LoopWq.by (X:=Nat) (fun k=>[(3,.own [] (.vec 5 1 (byD (rest++[128]++List.replicate k 0))))]) (fun k=>k≤zeros n) (fun k=>zeros n - k)
  0 (by rw[List.replicate_zero,List.append_nil];kernel_rfl) (by omega) ?_
 intro k hk
 obtain⟨E,hE2⟩:∃E,E=rest++[128]++List.replicate k 0:=⟨_,rfl⟩
 have hlen:E.length=n+1+k:=by rw[hE2];simp[hn];omega
 have hm:((byD E).length:Int).tmod 64=((n+1+k) % 64:Nat):=by
  rw[show((byD E).length:Int)=((n+1+k:Nat):Int)by simp[hlen]]
  rfl
 rw[←hE2]
 by_cases hk2:k<zeros n
 case pos=>
  have hlt:¬(!decide (((byD E).length:Int).tmod 64=56))=false:=by
   rw[hm];unfold zeros at hk2 hk;simp;omega
  have e1:((E.map A2).length+1)*1≤140737488355328:=by simp[hlen];omega
  have e2:(E.map A2).length+1≤maxLen:=by simp[hlen,maxLen];omega
  repeat'((conv=>whnf);first|(apply aI<;>intro hb<;>first|exact absurd hb (by assumption)|((try rw[hb]);(try simp only[Aa]at hb)))|(refine eI ?_ ?_;focus (and_intros<;>first|omega|exact rfl|assumption|exact A0 (by rfl)|(simp;done)))|(intro hfact)|((try dsimp only);rw[F1]))
  all_goals(try(conv=>whnf))
  have hE3:List.map A2 (rest++[128]++List.replicate (k+1) 0)=List.map A2 E++(List.replicate 1 (I.int IntKind.u8 0)).set 0 (I.int IntKind.u8 0):=by
   rw[hE2,List.replicate_succ'];simp[A2]
  refine Round.by (k+1) ?_ (by omega) (by omega)
  rw[show byD (rest++[128]++List.replicate (k+1) 0)=List.map D.it _ from congrArg (List.map D.it) hE3]
  show norm _ _=upd _ _
  kernel_rfl
 have hlt:¬(!decide (((byD E).length:Int).tmod 64=56))=true:=by
  rw[hm];unfold zeros at hk2 hk;simp;omega
 obtain rfl:k=zeros n:=by omega
 repeat'((conv=>whnf);first|(apply aI<;>intro hb<;>first|exact absurd hb (by assumption)|((try rw[hb]);(try simp only[Aa]at hb)))|(refine eI ?_ ?_;focus (and_intros<;>first|omega|exact rfl|(simp;done)))|(intro hfact))
 all_goals(try(conv=>whnf))
 obtain⟨M,hM⟩:∃M,M=8*size.toNat:=⟨_,rfl⟩
 have hMs:IntKind.u64.wrap (size*8)=(M:Int):=by rw[wrap_u64];omega
 have hbt:∀j:Nat,j<8→IntKind.u8.wrap (shrI .u64 (IntKind.u64.wrap (size*8)) (56 - 8*(j:Int)))=((UInt8.ofNat (M / 256^(7 - j) % 256)).toNat:Int):=fun j hj=>by
  rw[hMs]
  have h1:(56 - 8*(j:Int)).toNat=8*(7 - j):=by omega
  have h2:shrI .u64 (M:Int) (56 - 8*(j:Int))=((M / 256^(7 - j):Nat):Int):=by
   unfold shrI
   rw[h1,Nat.min_eq_left (by show _≤64;omega),show(2:Int)^(8*(7 - j))=((256^(7 - j):Nat):Int)by rw[show(256:Nat)=2^8 from rfl, ←Nat.pow_mul];push_cast;rfl]
   exact(Int.ofNat_fdiv _ _).symm
  rw[h2,wrap_u8]
  have h3:(UInt8.ofNat (M / 256^(7 - j) % 256)).toNat=M / 256^(7 - j) % 256:=by
   rw[UInt8.toNat_ofNat'];omega
  rw[h3]
  omega
 refine LoopWq.by (X:=Nat) (fun j=>[(3,.own [] (.vec 5 1 (byD (E++(numB M 8).take j)))),(4,.v (.int .i64 (56 - 8*(j:Int))))]) (fun j=>j≤8) (fun j=>8 - j)
  0 (by rw[List.take_zero,List.append_nil];kernel_rfl) (by omega) ?_
 intro j hj
 obtain⟨F,hF⟩:∃F,F=E++(numB M 8).take j:=⟨_,rfl⟩
 have hFl:F.length=n+1+zeros n+j:=by rw[hF];simp[hlen,Bh];omega
 rw[←hF]
 by_cases hj8:j<8
 case pos=>
  have e1:((F.map A2).length+1)*1≤140737488355328:=by simp[hFl];omega
  have e2:(F.map A2).length+1≤maxLen:=by simp[hFl,maxLen];omega
  have hge:¬decide (56 - 8*(j:Int)≥0)=false:=by simp;omega
  have hge':¬decide ((0:Int)≤56 - 8*(j:Int))=false:=by simp;omega
  have h0j:(0:Int)≤56 - 8*(j:Int):=by omega
  repeat'((conv=>whnf);first|(apply aI<;>intro hb<;>first|exact absurd hb (by assumption)|((try rw[hb]);(try simp only[Aa]at hb)))|(refine eI ?_ ?_;focus (and_intros<;>first|omega|exact rfl|assumption|exact A0 (by rfl)|(simp;done)))|((try dsimp only);rw[F1]))
  all_goals(try(conv=>whnf))
  have hF3:List.map A2 (E++(numB M 8).take (j+1))=List.map A2 F++(List.replicate 1 (I.int IntKind.u8 0)).set 0 (I.int IntKind.u8 (IntKind.u8.wrap (shrI .u64 (IntKind.u64.wrap (size*8)) (56 - 8*(j:Int))))):=by
   rw[hbt j hj8,List.take_add_one,Xi 8 M j hj8, ←List.append_assoc, ←hF,List.map_append]
   rfl
  have hs4:IntKind.i64.wrap (56 - 8*(j:Int) - 8)=56 - 8*((j+1:Nat):Int):=by rw[IntKind.wrap_i64];omega
  refine Round.by (j+1) ?_ (by omega) (by omega)
  rw[hs4,show byD (E++(numB M 8).take (j+1))=List.map D.it _ from congrArg (List.map D.it) hF3]
  show norm _ _=upd _ _
  kernel_rfl
 have hge:¬decide (56 - 8*(j:Int)≥0)=true:=by simp;omega
 have hge':¬decide ((0:Int)≤56 - 8*(j:Int))=true:=by simp;omega
 obtain rfl:j=8:=by omega
 repeat'((conv=>whnf);first|(apply aI<;>intro hb<;>first|exact absurd hb (by assumption)|((try rw[hb]);(try simp only[Aa]at hb)))|(refine eI ?_ ?_;focus (and_intros<;>first|omega|exact rfl|(simp;done))))
 all_goals(try(conv=>whnf))
 obtain⟨B,hB⟩:∃B,B=F:=⟨_,rfl⟩
 have hBF:B=Strm.tail ⟨w,e,rest,size⟩:=by
  rw[hB,hF,hE2,hM,hn]
  simp only[Strm.tail]
  rw[List.take_of_length_le (by rw[Bh];exact Nat.le_refl _)]
 have hBl:B.length=64*(B.length / 64):=by rw[hB,hFl];unfold zeros;omega
 have hB64:64≤B.length:=by rw[hB,hFl];unfold zeros;omega
 rw[←hB]
 unfold Strm.digest
 rw[←hBF]
 simp only
 clear hF hFl hB hE hn hzl hlt hk hE2 hlen hm hk2 hM hMs hbt hj hj8 hge hge' hz hl
 rw[show(I.arr 1 (List.replicate 8 (I.int IntKind.u32 0))).put [] (u32s w.l)=u32s w.l from rfl]
 obtain⟨ww,hw0⟩:∃ww,ww=w:=⟨_,rfl⟩
 rw[←hw0]
 refine LoopWq.by (X:=Nat) (fun n=>[(3,.own [] (.vec (ee 5 n) 1 (byD (B.drop (64*n))))),(5,.box (.one (.i (u32s (A4 ww B n).l))))]) (fun n=>64*n≤B.length) (fun n=>B.length - 64*n)
  0 (by kernel_rfl) (by omega) ?_
 intro n hn
 obtain⟨R,hR⟩:∃R,R=B.drop (64*n):=⟨_,rfl⟩
 have hRl:R.length=B.length - 64*n:=by rw[hR,List.length_drop]
 rw[←hR]
 by_cases hnN:0<R.length
 case neg=>
  have hRb:((byD R).length:Int)=(R.length:Int):=by simp
  have hlt:¬decide ((0:Int)<((byD R).length:Int))=true:=by rw[hRb,decide_eq_true_eq];omega
  have hlt':¬decide (((byD R).length:Int)>0)=true:=by rw[hRb,decide_eq_true_eq];omega
  repeat'((conv=>whnf);first|(apply aI<;>intro hb<;>first|exact absurd hb (by assumption)|((try rw[hb]);(try simp only[Aa]at hb)))|(refine eI ?_ ?_;focus (and_intros<;>first|omega|exact rfl|(simp;done)))|(intro hfact))
  all_goals(try(conv=>whnf))
  have hn':n=B.length / 64:=by omega
  have hn0:∃m,n=m+1:=⟨n - 1,by rw[hn'];have:=hB64;omega⟩
  obtain⟨H,hH⟩:∃H,H=A4 ww B n:=⟨_,rfl⟩
  rw[←hn', ←hH]
  have hb8:∀x∈H.l,0≤x∧x<4294967296:=by
   obtain⟨m,rfl⟩:=hn0
   rw[hH,A4,H4,addH,H8.l]
   intro x hx
   simp only[List.mem_cons,List.not_mem_nil,or_false]at hx
   rcases hx with rfl|rfl|rfl|rfl|rfl|rfl|rfl|rfl<;>exact X2 _
  clear hH
  refine LoopWq.by (X:=Nat) (fun t=>[(6,.vec 5 1 ((outB H t).map A2)),(54,.v (.int .i64 t))]) (fun t=>t≤8) (fun t=>8 - t)
   0 (by kernel_rfl) (by omega) ?_
  intro t ht
  by_cases ht8:t<8
  case pos=>
   obtain⟨x,hx⟩:∃x,H.l[t]?=some x:=⟨_,List.getElem?_eq_getElem ht8⟩
   have hxi:(H.l.map (I.int .u32))[Int.toNat (t:Int)]?=some (.int .u32 x):=by rw[Int.toNat_natCast,List.getElem?_map,hx];rfl
   have hol:=Ai6 H t
   have e1:((List.map A2 (outB H t)).length+4)*1≤140737488355328:=by simp;omega
   have e2:(List.map A2 (outB H t)).length+4≤maxLen:=by simp[maxLen];omega
   have hlt1:¬decide ((t:Int)<8)=false:=by simp;omega
   repeat'((conv=>whnf);first|(apply aI<;>intro hb<;>first|exact absurd hb (by assumption)|((try rw[hb]);(try simp only[Aa]at hb)))|(refine eI ?_ ?_;focus (and_intros<;>first|omega|exact rfl|assumption|exact A0 (by rfl)|(simp;done)))|((try dsimp only);rw[hxi]))
   all_goals(try(conv=>whnf))
   refine Round.by (t+1) ?_ (by omega) (by omega)
   rw[Ae ht8 (by simp only[maxLen];omega),An3 hx,List.map_append,Ar6 x (hb8 x (List.mem_of_getElem? hx))]
   show norm _ _=upd _ _
   kernel_rfl
  have hlt1:¬decide ((t:Int)<8)=true:=by simp;omega
  obtain rfl:t=8:=by omega
  have hol:=Ai6 H 8
  obtain⟨O,hO⟩:∃O,O=outB H 8:=⟨_,rfl⟩
  rw[←hO]at hol ⊢
  have hom:O.length≤maxLen:=by simp[maxLen];omega
  repeat'((conv=>whnf);first|(apply aI<;>intro hb<;>first|exact absurd hb (by assumption)|((try rw[hb]);(try simp only[Aa]at hb)))|(refine eI ?_ ?_;focus (and_intros<;>first|omega|(simp;done)))|((simp only[SV.vecAt,K1])))
  all_goals(try(conv=>whnf))
  exact Done.mk ⟨by kernel_rfl,by kernel_rfl⟩ (by kernel_rfl)
 have hRb:((byD R).length:Int)=(R.length:Int):=by simp
 have hlt:¬decide ((0:Int)<((byD R).length:Int))=false:=by rw[hRb,decide_eq_false_iff_not];omega
 have hlt':¬decide (((byD R).length:Int)>0)=false:=by rw[hRb,decide_eq_false_iff_not];omega
 have hnN64:64≤R.length:=by omega
 repeat'((conv=>whnf);first|(apply aI<;>intro hb<;>first|exact absurd hb (by assumption)|((try rw[hb]);(try simp only[Aa]at hb)))|(refine eI ?_ ?_;focus (and_intros<;>first|omega|exact rfl|(simp;done)))|(intro hfact))
 all_goals(try(conv=>whnf))
 refine Jo ?_ (by decide)
 (conv=>whnf)
 all_goals(try(conv=>whnf))
 refine LoopWq.by (X:=Nat) (fun i=>[(4,.box (.one (.i (u32s (padW (sched B (64*n) i)))))),(17,.v (.int .i64 i))]) (fun i=>i≤16) (fun i=>16 - i)
  0 (by kernel_rfl) (by omega) ?_
 intro i hi
 by_cases hi16:i<16
 case pos=>
  have hlt1:¬decide ((i:Int)<16)=false:=by simp;omega
  have w0:IntKind.i64.wrap (4*(i:Int))=((4*i:Nat):Int):=by
   rw[show 4*(i:Int)=((4*i:Nat):Int)by omega];exact A5 (by omega)
  have w1:IntKind.i64.wrap (((4*i:Nat):Int)+1)=((4*i+1:Nat):Int):=by
   rw[show((4*i:Nat):Int)+1=((4*i+1:Nat):Int)by omega];exact A5 (by omega)
  have w2:IntKind.i64.wrap (((4*i:Nat):Int)+2)=((4*i+2:Nat):Int):=by
   rw[show((4*i:Nat):Int)+2=((4*i+2:Nat):Int)by omega];exact A5 (by omega)
  have w3:IntKind.i64.wrap (((4*i:Nat):Int)+3)=((4*i+3:Nat):Int):=by
   rw[show((4*i:Nat):Int)+3=((4*i+3:Nat):Int)by omega];exact A5 (by omega)
  have g:∀k:Nat,k<64→(List.map D.it (List.map A2 R))[Int.toNat 0+Int.toNat (k:Int)]?=some (.it (.int .u8 (Cf B (64*n+k)))):=fun k hk=>by
   obtain⟨b,hb⟩:∃b,R[k]?=some b:=⟨_,List.getElem?_eq_getElem (by omega)⟩
   have hb':B[64*n+k]?=some b:=by rw[←hb,hR,List.getElem?_drop]
   rw[Int.toNat_natCast,show Int.toNat 0+k=k by simp,List.getElem?_map,List.getElem?_map,hb,Cf,List.getD_eq_getElem?_getD,hb']
   rfl
  have gD:∀(k:Nat) (_:k<64) (e':Nat),D.at [Int.toNat 0+Int.toNat (k:Int)] (D.vec e' 1 (byD R))=some (.it (.int .u8 (Cf B (64*n+k)))):=fun k hk e'=>by
   show(match(List.map D.it (List.map A2 R))[Int.toNat 0+Int.toNat (k:Int)]? with|some y=>D.at [] y|none=>none)=_
   rw[g k hk]
   rfl
  have hsl:=B7 B (64*n) i
  obtain⟨v0,hv0⟩:∃v0,(padW (sched B (64*n) i))[i]?=some v0:=⟨_,List.getElem?_eq_getElem (by rw[Ke (by omega)];omega)⟩
  have hh:=Dm hv0
  have hp:=V2 hv0
  repeat'((conv=>whnf);first|(apply aI<;>intro hb<;>first|exact absurd hb (by assumption)|((try rw[hb]);(try simp only[Aa]at hb)))|(refine eI ?_ ?_;focus (and_intros<;>first|omega|exact rfl|(simp;done)))|((with_reducible apply Drawn.by0);(focus kernel_rfl);intro hfact;(try simp only[dRS]at hfact))|((try dsimp only);rw[w0])|((try dsimp only);rw[w1])|((try dsimp only);rw[w2])|((try dsimp only);rw[w3])|(refine Bm rfl (gD _ (by omega) _) rfl ?_)|((try dsimp only);rw[hh]))
  all_goals(try(conv=>whnf))
  have hset:padW (sched B (64*n) (i+1))=(padW (sched B (64*n) i)).set i (Zw B (64*n+4*i)):=by
   rw[sched,if_pos hi16, ←Ag7, ←Tu (by rw[hsl];omega),hsl]
  refine Round.by (i+1) ?_ (by omega) (by omega)
  rw[Ae hi16 (by simp only[maxLen];omega),hset,hp]
  show norm _ _=upd _ _
  kernel_rfl
 have hlt1:¬decide ((i:Int)<16)=true:=by simp;omega
 have hi':i=16:=by omega
 subst hi'
 clear hlt1 hi hi16
 repeat'((conv=>whnf);(apply aI<;>intro hb<;>first|exact absurd hb (by decide)|((try rw[hb]);(try simp only[Aa]at hb))))
 all_goals(try(conv=>whnf))
 refine LoopWq.by (X:=Nat) (fun t=>[(4,.box (.one (.i (u32s (padW (sched B (64*n) t)))))),(6,.v (.int .i64 t))]) (fun t=>16≤t∧t≤64) (fun t=>64 - t)
  16 (by kernel_rfl) (by omega) ?_
 rintro t ⟨ht1,ht2⟩
 by_cases ht64:t<64
 case pos=>
  have hlt1:¬decide ((t:Int)<64)=false:=by simp;omega
  have hsl:=B7 B (64*n) t
  have hset:padW (sched B (64*n) (t+1))=(padW (sched B (64*n) t)).set t (extI (sched B (64*n) t) t):=by
   rw[sched,if_neg (by omega), ←Tu (by rw[hsl];omega),hsl]
  rw[←Ai1]at hset
  obtain⟨w,hw⟩:∃w,w=sched B (64*n) t:=⟨_,rfl⟩
  rw[←hw]at hsl hset ⊢
  have g:∀j,j<t→w[j]?=some (wAt w j):=fun j hj=>by
   rw[wAt,List.getD_eq_getElem?_getD,List.getElem?_eq_getElem (by omega)];rfl
  have hwr:∀j:Nat,j≤t→IntKind.i64.wrap ((t:Int) - (j:Int))=((t - j:Nat):Int):=fun j hj=>by
   rw[show(t:Int) - (j:Int)=((t - j:Nat):Int)by omega];exact A5 (by omega)
  have w2:IntKind.i64.wrap ((t:Int) - 2)=((t - 2:Nat):Int):=hwr 2 (by omega)
  have w7:IntKind.i64.wrap ((t:Int) - 7)=((t - 7:Nat):Int):=hwr 7 (by omega)
  have w15:IntKind.i64.wrap ((t:Int) - 15)=((t - 15:Nat):Int):=hwr 15 (by omega)
  have w16:IntKind.i64.wrap ((t:Int) - 16)=((t - 16:Nat):Int):=hwr 16 (by omega)
  have h2:=Dm (Gf (g (t - 2) (by omega)))
  have h7:=Dm (Gf (g (t - 7) (by omega)))
  have h15:=Dm (Gf (g (t - 15) (by omega)))
  have h16:=Dm (Gf (g (t - 16) (by omega)))
  obtain⟨v0,hv0⟩:∃v0,(padW w)[t]?=some v0:=⟨_,List.getElem?_eq_getElem (by rw[Ke (by omega)];omega)⟩
  have hh:=Dm hv0
  have hp:=V2 hv0
  repeat'((conv=>whnf);first|(apply aI<;>intro hb<;>first|exact absurd hb (by assumption)|((try rw[hb]);(try simp only[Aa]at hb)))|(refine eI ?_ ?_;focus (and_intros<;>first|omega|exact rfl|(intro _ hh;cases hh;done)|(simp;done)|decide))|((with_reducible apply Drawn.by0);(focus kernel_rfl);intro hfact;(try simp only[dRS]at hfact))|((try dsimp only);rw[w2])|((try dsimp only);rw[w7])|((try dsimp only);rw[w15])|((try dsimp only);rw[w16])|((try dsimp only);rw[h2])|((try dsimp only);rw[h7])|((try dsimp only);rw[h15])|((try dsimp only);rw[h16])|((try dsimp only);rw[hh])|(refine CallWp.mk ⟨_,B1 _ (-7) 7,?_⟩;rintro _ _ ⟨rfl,rfl⟩)|(refine CallWp.mk ⟨_,B1 _ (-18) 18,?_⟩;rintro _ _ ⟨rfl,rfl⟩)|(refine CallWp.mk ⟨_,B1 _ (-17) 17,?_⟩;rintro _ _ ⟨rfl,rfl⟩)|(refine CallWp.mk ⟨_,B1 _ (-19) 19,?_⟩;rintro _ _ ⟨rfl,rfl⟩))
  all_goals(try(conv=>whnf))
  refine Round.by (t+1) ?_ ⟨by omega,ht64⟩ (by omega)
  rw[Ae ht64 (by simp only[maxLen];omega),hset,hp]
  show norm _ _=upd _ _
  kernel_rfl
 have hlt1:¬decide ((t:Int)<64)=true:=by simp;omega
 have ht':t=64:=by omega
 subst ht'
 have hsl:=B7 B (64*n) 64
 have hpd:padW (sched B (64*n) 64)=sched B (64*n) 64:=by rw[padW,hsl];exact List.append_nil _
 rw[hpd]
 have hnext:A4 ww B (n+1)=addH (A4 ww B n) (rnds (sched B (64*n) 64) (A4 ww B n) 64):=rfl
 obtain⟨W,hW⟩:∃W,W=sched B (64*n) 64:=⟨_,rfl⟩
 rw[←hW]at hsl hnext ⊢
 obtain⟨H,hH⟩:∃H,H=A4 ww B n:=⟨_,rfl⟩
 rw[←hH]at hnext ⊢
 clear hpd hlt1 ht1 ht2 ht64
 repeat'((conv=>whnf);first|(apply aI<;>intro hb<;>first|exact absurd hb (by decide)|((try rw[hb]);(try simp only[Aa]at hb)))|(refine eI ?_ ?_;focus (and_intros<;>first|omega|exact rfl|(intro _ hh;cases hh;done)|(simp;done)|decide))|(refine CallWp.mk ⟨_,Vp,?_⟩;rintro _ _ ⟨rfl,rfl⟩))
 all_goals(try(conv=>whnf))
 refine LoopWq.by (X:=Nat) (fun t=>[(9,.box (.one (.i (u32s (rnds W H t).l)))),(103,.v (.int .i64 t))]) (fun t=>t≤64) (fun t=>64 - t)
  0 (by kernel_rfl) (by omega) ?_
 intro t ht
 by_cases ht64:t<64
 case pos=>
  have hlt1:¬decide ((t:Int)<64)=false:=by simp;omega
  have hgk:kays[t]?=some (wAt kays t):=by
   rw[wAt,List.getD_eq_getElem?_getD,List.getElem?_eq_getElem (show t<kays.length from ht64)];rfl
  have hgw:W[t]?=some (wAt W t):=by
   rw[wAt,List.getD_eq_getElem?_getD,List.getElem?_eq_getElem (by omega)];rfl
  have hh:=Dm hgw
  have hr:rnds W H (t+1)=rnd (rnds W H t) (wAt kays t) (wAt W t):=rfl
  obtain⟨Q,hQ⟩:∃R,R=rnds W H t:=⟨_,rfl⟩
  rw[←hQ]at hr ⊢
  obtain⟨kt,hkt⟩:∃k,k=wAt kays t:=⟨_,rfl⟩
  rw[←hkt]at hr hgk
  obtain⟨wt,hwt⟩:∃k,k=wAt W t:=⟨_,rfl⟩
  rw[←hwt]at hr hh
  clear hQ hkt hwt
  repeat'((conv=>whnf);first|(apply aI<;>intro hb<;>first|exact absurd hb (by assumption)|((try rw[hb]);(try simp only[Aa]at hb)))|(refine eI ?_ ?_;focus (and_intros<;>first|omega|exact rfl|(intro _ hh;cases hh;done)|exact A0 (by rfl)|(simp;done)|decide))|((with_reducible apply Drawn.by0);(focus kernel_rfl);intro hfact;(try simp only[dRS]at hfact))|((try dsimp only);first|rw[Au hgk]|rw[Am hgk]|rw[An hgk])|((try dsimp only);rw[hh])|(refine CallIs.mk ⟨_,_,B1 _ (-6) 6,?_⟩)|(refine CallIs.mk ⟨_,_,B1 _ (-11) 11,?_⟩)|(refine CallIs.mk ⟨_,_,B1 _ (-25) 25,?_⟩)|(refine CallIs.mk ⟨_,_,B1 _ (-2) 2,?_⟩)|(refine CallIs.mk ⟨_,_,B1 _ (-13) 13,?_⟩)|(refine CallIs.mk ⟨_,_,B1 _ (-22) 22,?_⟩))
  all_goals(try(conv=>whnf))
  refine Round.by (t+1) ?_ (by omega) (by omega)
  rw[Ae ht64 (by simp only[maxLen];omega),hr]
  show norm _ _=upd _ _
  kernel_rfl
 have hlt1:¬decide ((t:Int)<64)=true:=by simp;omega
 have ht':t=64:=by omega
 subst ht'
 clear hlt1 ht ht64
 obtain⟨Q,hQ⟩:∃R,R=rnds W H 64:=⟨_,rfl⟩
 rw[←hQ]at hnext ⊢
 repeat'((conv=>whnf);(apply aI<;>intro hb<;>first|exact absurd hb (by decide)|((try rw[hb]);(try simp only[Aa]at hb))))
 all_goals(try(conv=>whnf))
 refine LoopWq.by (X:=Nat) (fun j=>[(202,.box (.one (.i (u32s (addN H Q j).l)))),(182,.v (.int .i64 j))]) (fun j=>j≤8) (fun j=>8 - j)
  0 (by kernel_rfl) (by omega) ?_
 intro j hj
 by_cases hj8:j<8
 case pos=>
  have hj':j=0∨j=1∨j=2∨j=3∨j=4∨j=5∨j=6∨j=7:=by omega
  clear hj hj8
  rcases hj' with rfl|rfl|rfl|rfl|rfl|rfl|rfl|rfl
  ·repeat'((conv=>whnf);first|(apply aI<;>intro hb<;>first|exact absurd hb (by decide)|((try rw[hb]);(try simp only[Aa]at hb)))|(refine eI ?_ ?_;focus (and_intros<;>first|omega|exact rfl|(simp;done)))|((with_reducible apply Drawn.by0);(focus kernel_rfl);intro hfact;(try simp only[dRS]at hfact)))
   all_goals(try(conv=>whnf))
   refine Round.by 1 ?_ (by omega) (by omega)
   show norm _ _=upd _ _
   kernel_rfl
  ·repeat'((conv=>whnf);first|(apply aI<;>intro hb<;>first|exact absurd hb (by decide)|((try rw[hb]);(try simp only[Aa]at hb)))|(refine eI ?_ ?_;focus (and_intros<;>first|omega|exact rfl|(simp;done)))|((with_reducible apply Drawn.by0);(focus kernel_rfl);intro hfact;(try simp only[dRS]at hfact)))
   all_goals(try(conv=>whnf))
   refine Round.by 2 ?_ (by omega) (by omega)
   show norm _ _=upd _ _
   kernel_rfl
  ·repeat'((conv=>whnf);first|(apply aI<;>intro hb<;>first|exact absurd hb (by decide)|((try rw[hb]);(try simp only[Aa]at hb)))|(refine eI ?_ ?_;focus (and_intros<;>first|omega|exact rfl|(simp;done)))|((with_reducible apply Drawn.by0);(focus kernel_rfl);intro hfact;(try simp only[dRS]at hfact)))
   all_goals(try(conv=>whnf))
   refine Round.by 3 ?_ (by omega) (by omega)
   show norm _ _=upd _ _
   kernel_rfl
  ·repeat'((conv=>whnf);first|(apply aI<;>intro hb<;>first|exact absurd hb (by decide)|((try rw[hb]);(try simp only[Aa]at hb)))|(refine eI ?_ ?_;focus (and_intros<;>first|omega|exact rfl|(simp;done)))|((with_reducible apply Drawn.by0);(focus kernel_rfl);intro hfact;(try simp only[dRS]at hfact)))
   all_goals(try(conv=>whnf))
   refine Round.by 4 ?_ (by omega) (by omega)
   show norm _ _=upd _ _
   kernel_rfl
  ·repeat'((conv=>whnf);first|(apply aI<;>intro hb<;>first|exact absurd hb (by decide)|((try rw[hb]);(try simp only[Aa]at hb)))|(refine eI ?_ ?_;focus (and_intros<;>first|omega|exact rfl|(simp;done)))|((with_reducible apply Drawn.by0);(focus kernel_rfl);intro hfact;(try simp only[dRS]at hfact)))
   all_goals(try(conv=>whnf))
   refine Round.by 5 ?_ (by omega) (by omega)
   show norm _ _=upd _ _
   kernel_rfl
  ·repeat'((conv=>whnf);first|(apply aI<;>intro hb<;>first|exact absurd hb (by decide)|((try rw[hb]);(try simp only[Aa]at hb)))|(refine eI ?_ ?_;focus (and_intros<;>first|omega|exact rfl|(simp;done)))|((with_reducible apply Drawn.by0);(focus kernel_rfl);intro hfact;(try simp only[dRS]at hfact)))
   all_goals(try(conv=>whnf))
   refine Round.by 6 ?_ (by omega) (by omega)
   show norm _ _=upd _ _
   kernel_rfl
  ·repeat'((conv=>whnf);first|(apply aI<;>intro hb<;>first|exact absurd hb (by decide)|((try rw[hb]);(try simp only[Aa]at hb)))|(refine eI ?_ ?_;focus (and_intros<;>first|omega|exact rfl|(simp;done)))|((with_reducible apply Drawn.by0);(focus kernel_rfl);intro hfact;(try simp only[dRS]at hfact)))
   all_goals(try(conv=>whnf))
   refine Round.by 7 ?_ (by omega) (by omega)
   show norm _ _=upd _ _
   kernel_rfl
  ·repeat'((conv=>whnf);first|(apply aI<;>intro hb<;>first|exact absurd hb (by decide)|((try rw[hb]);(try simp only[Aa]at hb)))|(refine eI ?_ ?_;focus (and_intros<;>first|omega|exact rfl|(simp;done)))|((with_reducible apply Drawn.by0);(focus kernel_rfl);intro hfact;(try simp only[dRS]at hfact)))
   all_goals(try(conv=>whnf))
   refine Round.by 8 ?_ (by omega) (by omega)
   show norm _ _=upd _ _
   kernel_rfl
 have hj':j=8:=by omega
 subst hj'
 clear hj hj8
 have hlt1:¬decide ((8:Int)<8)=true:=by simp
 have hadd:addN H Q 8=addH H Q:=rfl
 rw[hadd, ←hnext]
 have hee:(if ee 5 n<1000000 then ee 5 n+1000000 else ee 5 n)=ee 5 (n+1):=Ai0 5 n
 have hdr:List.drop (Int.toNat 64) (List.map A2 R)=List.map A2 (B.drop (64*(n+1))):=by
  rw[←List.map_drop,hR,List.drop_drop]
  congr 2
 repeat'((conv=>whnf);first|(apply aI<;>intro hb<;>first|exact absurd hb (by assumption)|((try rw[hb]);(try simp only[Aa]at hb)))|(refine eI ?_ ?_;focus (and_intros<;>first|omega|(simp only[Ag];omega)))|((try dsimp only);rw[F1])|((try dsimp only);rw[hee])|((try dsimp only);rw[hdr]))
 all_goals(try(conv=>whnf))
 refine Round.by (n+1) ?_ (by omega) (by omega)
 show norm _ _=upd _ _
 kernel_rfl
end Go.Ab
