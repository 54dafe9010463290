/- Lemmas -/
import Derived.Test.YtgcccllpegilnaaGreatDoorH1
set_option linter.unusedVariables false
set_option linter.unusedSimpArgs false
set_option maxRecDepth 100000
set_option maxHeartbeats 8000000
namespace Go.Ab
open Go.Proofs
abbrev Wy(l:Ai):List D:=(l.map Cr).map D.it
def ee(e n:Nat):Nat:=if n=0 then e else if e<1000000 then e+1000000 else e
theorem A4i(e n:Nat):(if ee e n<1000000 then ee e n+1000000 else ee e n)=ee e (n+1):=by
 unfold ee;by_cases h:n=0<;>by_cases g:e<1000000<;>simp[h,g]<;>omega
def A58(x y:H8)(j:Nat):H8:=⟨if 0<j then Fk (x.a+y.a)else x.a,if 1<j then Fk (x.b+y.b)else x.b,if 2<j then Fk (x.c+y.c)else x.c,if 3<j then Fk (x.d+y.d)else x.d,
 if 4<j then Fk (x.e+y.e)else x.e,if 5<j then Fk (x.f+y.f)else x.f,if 6<j then Fk (x.g+y.g)else x.g,if 7<j then Fk (x.i+y.i)else x.i⟩
def Hs.write(s:Hs)(t:Ai):Hs:=
 let n:=(s.rest++t).length / 64
 ⟨Ct s.w (s.rest++t) n,ee s.e n,(s.rest++t).drop (64*n),IntKind.u64.wrap (s.size+IntKind.u64.wrap (t.length:Int))⟩
set_option pp.maxSteps 100000 in
set_option pp.deepTerms true in
theorem A81(s:Hs)(tx:Ai)(he:s.e<1000000→s.e=5)(hl:s.rest.length+tx.length≤100000000):
 Fn Tryz.prog T8 [.own [] (Hs.A6 s),.v (.str tx)] (Is (F4 []) [.own [] (s.write tx).A6,.no]):=by
 refine Afn ?_ (by simp)
 unfold Hs.write;obtain⟨w,e,rest,size⟩:=s;simp only at he hl ⊢;have e1:((rest.map Cr).length+(tx.map Cr).length)*1≤140737488355328:=by simp only[List.length_map];omega
 have e2:(rest.map Cr).length+(tx.map Cr).length≤maxLen:=by simp only[List.length_map,maxLen];omega
 repeat'((conv=>whnf);first|(apply aI<;>intro hb<;>first|exact absurd hb (by decide)|((try rw[hb]);(try simp only[Ad]at hb)))|(refine eI ?_ ?_;focus (and_intros<;>first|omega|exact rfl|exact size_map (fun _=>rfl)|(simp;done)))|(intro Aa)|((try dsimp only);rw[Pe]))
 all_goals(try(conv=>whnf))
 have hBl:(rest++tx).length=rest.length+tx.length:=List.length_append;rw[←hBl]at hl;rw[show List.map Cr rest++List.map Cr tx=List.map Cr (rest++tx)from List.map_append.symm];obtain⟨B,hB⟩:∃B,B=rest++tx:=⟨_,rfl⟩;rw[←hB]at hBl hl ⊢;obtain⟨z,hz⟩:∃z,z=IntKind.u64.wrap (size+IntKind.u64.wrap (tx.length:Int)):=⟨_,rfl⟩;rw[←hz];clear e1 e2 hB hz;refine Bq.by (X:=Nat) (fun n=>[(48,.own [] (Hs.A6 ⟨Ct w B n,ee e n,B.drop (64*n),z⟩))]) (fun n=>64*n≤B.length) (fun n=>B.length - 64*n)
  0 (by kernel_rfl) (by omega) ?_
 intro n hn;obtain⟨R,hR⟩:∃R,R=B.drop (64*n):=⟨_,rfl⟩;have hRl:R.length=B.length - 64*n:=by rw[hR,List.length_drop]
 rw[←hR];by_cases hnN:64≤R.length
 case neg=>
  have Bb:¬decide ((64:Int)≤((R.map Cr).length:Int))=true:=by simp;omega
  repeat'((conv=>whnf);first|(apply aI<;>intro hb<;>first|(exfalso;simp only[Az]at hb<;>omega)|((try rw[hb]);(try simp only[Ad]at hb)))|(refine eI ?_ ?_;focus (and_intros<;>first|omega|exact rfl|(simp;done)))|(intro Aa))
  all_goals(try(conv=>whnf))
  have F1:n=B.length / 64:=by omega
  subst F1;rw[←hR]
  (apply dK<;>kernel_rfl)
 have Bb:¬decide ((64:Int)≤((R.map Cr).length:Int))=false:=by simp;omega
 repeat'((conv=>whnf);first|(apply aI<;>intro hb<;>first|(exfalso;simp only[Az]at hb<;>omega)|((try rw[hb]);(try simp only[Ad]at hb)))|(refine eI ?_ ?_;focus (and_intros<;>first|omega|exact rfl|(simp only[Az];omega)|(simp;done)))|(intro Aa)|((with_reducible apply A5.B5);(focus kernel_rfl);intro Aa;(try simp only[dRS]at Aa)))
 all_goals(try(conv=>whnf))
 refine Uf ?_ (by decide)
 (conv=>whnf)
 all_goals(try(conv=>whnf))
 refine Bq.by (X:=Nat) (fun i=>[(4,.box (.one (.i (Ng (Hh (sched B (64*n) i)))))),(17,.v (.int .i64 i))]) (fun i=>i≤16) (fun i=>16 - i)
  0 (by kernel_rfl) (by omega) ?_
 intro i hi;by_cases Anx:i<16
 case pos=>
  have Ga:¬decide ((i:Int)<16)=false:=by simp;omega
  have w0:IntKind.i64.wrap (4*(i:Int))=((4*i:Nat):Int):=by
   rw[show 4*(i:Int)=((4*i:Nat):Int)by omega];exact Cf (by omega)
  have w1:IntKind.i64.wrap (((4*i:Nat):Int)+1)=((4*i+1:Nat):Int):=by
   rw[show((4*i:Nat):Int)+1=((4*i+1:Nat):Int)by omega];exact Cf (by omega)
  have w2:IntKind.i64.wrap (((4*i:Nat):Int)+2)=((4*i+2:Nat):Int):=by
   rw[show((4*i:Nat):Int)+2=((4*i+2:Nat):Int)by omega];exact Cf (by omega)
  have w3:IntKind.i64.wrap (((4*i:Nat):Int)+3)=((4*i+3:Nat):Int):=by
   rw[show((4*i:Nat):Int)+3=((4*i+3:Nat):Int)by omega];exact Cf (by omega)
  have g:∀k:Nat,k<64→(List.map D.it (List.map Cr R))[Int.toNat 0+Int.toNat (k:Int)]?=some (.it (.int .u8 (F9 B (64*n+k)))):=fun k hk=>by
   obtain⟨b,hb⟩:∃b,R[k]?=some b:=⟨_,List.getElem?_eq_getElem (by omega)⟩
   have Br:B[64*n+k]?=some b:=by rw[←hb,hR,List.getElem?_drop]
   rw[Int.toNat_natCast,show Int.toNat 0+k=k by simp,List.getElem?_map,List.getElem?_map,hb,F9,List.getD_eq_getElem?_getD,Br]
   rfl
  have gD:∀(k:Nat) (_:k<64) (h8:H8) (e':Nat),D.at [0,1,Int.toNat 0+Int.toNat (k:Int)] (Hs.A6 ⟨h8,e',R,z⟩)=some (.it (.int .u8 (F9 B (64*n+k)))):=fun k hk h8 e'=>by
   show(match(List.map D.it (List.map Cr R))[Int.toNat 0+Int.toNat (k:Int)]? with|some y=>D.at [] y|none=>none)=_
   rw[g k hk];rfl
  have Ei:=Fo B (64*n) i;obtain⟨v0,hv0⟩:∃v0,(Hh (sched B (64*n) i))[i]?=some v0:=⟨_,List.getElem?_eq_getElem (by rw[Vp (by omega)];omega)⟩
  have hh:=Jt hv0;have hp:=Aku hv0;repeat'((conv=>whnf);first|(apply aI<;>intro hb<;>first|exact absurd hb (by assumption)|((try rw[hb]);(try simp only[Ad]at hb)))|(refine eI ?_ ?_;focus (and_intros<;>first|omega|exact rfl|(simp;done)))|((with_reducible apply A5.B5);(focus kernel_rfl);intro Aa;(try simp only[dRS]at Aa))|((try dsimp only);rw[w0])|((try dsimp only);rw[w1])|((try dsimp only);rw[w2])|((try dsimp only);rw[w3])|(refine D9 rfl (gD _ (by omega) _ _) rfl ?_)|((try dsimp only);rw[hh]))
  all_goals(try(conv=>whnf))
  have Cs:Hh (sched B (64*n) (i+1))=(Hh (sched B (64*n) i)).set i (Arr B (64*n+4*i)):=by
   rw[sched,if_pos Anx, ←A2j, ←Ag9 (by rw[Ei];omega),Ei]
  refine Round.by (i+1) ?_ (by omega) (by omega)
  rw[Ak Anx (by simp only[maxLen];omega),Cs,hp]
  show norm _ _=Bt _ _
  kernel_rfl
 have Ga:¬decide ((i:Int)<16)=true:=by simp;omega
 have Fh:i=16:=by omega
 subst Fh;clear Ga hi Anx;repeat'((conv=>whnf);(apply aI<;>intro hb<;>first|exact absurd hb (by decide)|((try rw[hb]);(try simp only[Ad]at hb))))
 all_goals(try(conv=>whnf))
 refine Bq.by (X:=Nat) (fun t=>[(4,.box (.one (.i (Ng (Hh (sched B (64*n) t)))))),(6,.v (.int .i64 t))]) (fun t=>16≤t∧t≤64) (fun t=>64 - t)
  16 (by kernel_rfl) (by omega) ?_
 rintro t ⟨ht1,ht2⟩;by_cases J8:t<64
 case pos=>
  have Ga:¬decide ((t:Int)<64)=false:=by simp;omega
  have Ei:=Fo B (64*n) t;have Cs:Hh (sched B (64*n) (t+1))=(Hh (sched B (64*n) t)).set t (Ar7 (sched B (64*n) t) t):=by
   rw[sched,if_neg (by omega), ←Ag9 (by rw[Ei];omega),Ei]
  rw[←A4k]at Cs;obtain⟨w,hw⟩:∃w,w=sched B (64*n) t:=⟨_,rfl⟩;rw[←hw]at Ei Cs ⊢;have g:∀j,j<t→w[j]?=some (Gz w j):=fun j hj=>by
   rw[Gz,List.getD_eq_getElem?_getD,List.getElem?_eq_getElem (by omega)];rfl
  have hwr:∀j:Nat,j≤t→IntKind.i64.wrap ((t:Int) - (j:Int))=((t - j:Nat):Int):=fun j hj=>by
   rw[show(t:Int) - (j:Int)=((t - j:Nat):Int)by omega];exact Cf (by omega)
  have w2:IntKind.i64.wrap ((t:Int) - 2)=((t - 2:Nat):Int):=hwr 2 (by omega)
  have w7:IntKind.i64.wrap ((t:Int) - 7)=((t - 7:Nat):Int):=hwr 7 (by omega)
  have w15:IntKind.i64.wrap ((t:Int) - 15)=((t - 15:Nat):Int):=hwr 15 (by omega)
  have w16:IntKind.i64.wrap ((t:Int) - 16)=((t - 16:Nat):Int):=hwr 16 (by omega)
  have h2:=Jt (P9 (g (t - 2) (by omega)))
  have h7:=Jt (P9 (g (t - 7) (by omega)))
  have h15:=Jt (P9 (g (t - 15) (by omega)))
  have h16:=Jt (P9 (g (t - 16) (by omega)))
  obtain⟨v0,hv0⟩:∃v0,(Hh w)[t]?=some v0:=⟨_,List.getElem?_eq_getElem (by rw[Vp (by omega)];omega)⟩
  have hh:=Jt hv0;have hp:=Aku hv0;repeat'((conv=>whnf);first|(apply aI<;>intro hb<;>first|exact absurd hb (by assumption)|((try rw[hb]);(try simp only[Ad]at hb)))|(refine eI ?_ ?_;focus (and_intros<;>first|omega|exact rfl|(intro _ hh;cases hh;done)|(simp;done)|decide))|((with_reducible apply A5.B5);(focus kernel_rfl);intro Aa;(try simp only[dRS]at Aa))|((try dsimp only);rw[w2])|((try dsimp only);rw[w7])|((try dsimp only);rw[w15])|((try dsimp only);rw[w16])|((try dsimp only);rw[h2])|((try dsimp only);rw[h7])|((try dsimp only);rw[h15])|((try dsimp only);rw[h16])|((try dsimp only);rw[hh])|(refine Ac.mk ⟨_,Fj _ (-7) 7,?_⟩;rintro _ _ ⟨rfl,rfl⟩)|(refine Ac.mk ⟨_,Fj _ (-18) 18,?_⟩;rintro _ _ ⟨rfl,rfl⟩)|(refine Ac.mk ⟨_,Fj _ (-17) 17,?_⟩;rintro _ _ ⟨rfl,rfl⟩)|(refine Ac.mk ⟨_,Fj _ (-19) 19,?_⟩;rintro _ _ ⟨rfl,rfl⟩))
  all_goals(try(conv=>whnf))
  refine Round.by (t+1) ?_ ⟨by omega,J8⟩ (by omega)
  rw[Ak J8 (by simp only[maxLen];omega),Cs,hp]
  show norm _ _=Bt _ _
  kernel_rfl
 have Ga:¬decide ((t:Int)<64)=true:=by simp;omega
 have Tn:t=64:=by omega
 subst Tn;have Ei:=Fo B (64*n) 64;have Y8:Hh (sched B (64*n) 64)=sched B (64*n) 64:=by rw[Hh,Ei];exact List.append_nil _
 rw[Y8];have Mk:Ct w B (n+1)=Ang (Ct w B n) (Jh (sched B (64*n) 64) (Ct w B n) 64):=rfl;obtain⟨W,hW⟩:∃W,W=sched B (64*n) 64:=⟨_,rfl⟩;rw[←hW]at Ei Mk ⊢;obtain⟨H,hH⟩:∃H,H=Ct w B n:=⟨_,rfl⟩;rw[←hH]at Mk ⊢;clear Y8 Ga ht1 ht2 J8;repeat'((conv=>whnf);first|(apply aI<;>intro hb<;>first|exact absurd hb (by decide)|((try rw[hb]);(try simp only[Ad]at hb)))|(refine eI ?_ ?_;focus (and_intros<;>first|omega|exact rfl|(intro _ hh;cases hh;done)|(simp;done)|decide))|(refine Ac.mk ⟨_,Akg,?_⟩;rintro _ _ ⟨rfl,rfl⟩))
 all_goals(try(conv=>whnf))
 refine Bq.by (X:=Nat) (fun t=>[(9,.box (.one (.i (Ng (Jh W H t).l)))),(103,.v (.int .i64 t))]) (fun t=>t≤64) (fun t=>64 - t)
  0 (by kernel_rfl) (by omega) ?_
 intro t ht;by_cases J8:t<64
 case pos=>
  have Ga:¬decide ((t:Int)<64)=false:=by simp;omega
  have hgk:L2[t]?=some (Gz L2 t):=by
   rw[Gz,List.getD_eq_getElem?_getD,List.getElem?_eq_getElem (show t<L2.length from J8)];rfl
  have hgw:W[t]?=some (Gz W t):=by
   rw[Gz,List.getD_eq_getElem?_getD,List.getElem?_eq_getElem (by omega)];rfl
  have hh:=Jt hgw;have hr:Jh W H (t+1)=rnd (Jh W H t) (Gz L2 t) (Gz W t):=rfl;obtain⟨Q,hQ⟩:∃R,R=Jh W H t:=⟨_,rfl⟩;rw[←hQ]at hr ⊢;obtain⟨kt,hkt⟩:∃k,k=Gz L2 t:=⟨_,rfl⟩;rw[←hkt]at hr hgk;obtain⟨wt,hwt⟩:∃k,k=Gz W t:=⟨_,rfl⟩;rw[←hwt]at hr hh;clear hQ hkt hwt;repeat'((conv=>whnf);first|(apply aI<;>intro hb<;>first|exact absurd hb (by assumption)|((try rw[hb]);(try simp only[Ad]at hb)))|(refine eI ?_ ?_;focus (and_intros<;>first|omega|exact rfl|(intro _ hh;cases hh;done)|exact B8 (by rfl)|(simp;done)|decide))|((with_reducible apply A5.B5);(focus kernel_rfl);intro Aa;(try simp only[dRS]at Aa))|((try dsimp only);first|rw[Av hgk]|rw[An hgk]|rw[Ap hgk])|((try dsimp only);rw[hh])|(refine Aj.mk ⟨_,_,Fj _ (-6) 6,?_⟩)|(refine Aj.mk ⟨_,_,Fj _ (-11) 11,?_⟩)|(refine Aj.mk ⟨_,_,Fj _ (-25) 25,?_⟩)|(refine Aj.mk ⟨_,_,Fj _ (-2) 2,?_⟩)|(refine Aj.mk ⟨_,_,Fj _ (-13) 13,?_⟩)|(refine Aj.mk ⟨_,_,Fj _ (-22) 22,?_⟩))
  all_goals(try(conv=>whnf))
  refine Round.by (t+1) ?_ (by omega) (by omega)
  rw[Ak J8 (by simp only[maxLen];omega),hr]
  show norm _ _=Bt _ _
  kernel_rfl
 have Ga:¬decide ((t:Int)<64)=true:=by simp;omega
 have Tn:t=64:=by omega
 subst Tn;clear Ga ht J8;obtain⟨Q,hQ⟩:∃R,R=Jh W H 64:=⟨_,rfl⟩;rw[←hQ]at Mk ⊢;repeat'((conv=>whnf);(apply aI<;>intro hb<;>first|exact absurd hb (by decide)|((try rw[hb]);(try simp only[Ad]at hb))))
 all_goals(try(conv=>whnf))
 refine Bq.by (X:=Nat) (fun j=>[(245,.own [] (Hs.A6 ⟨A58 H Q j,ee e n,R,z⟩)),(182,.v (.int .i64 j))]) (fun j=>j≤8) (fun j=>8 - j)
  0 (by kernel_rfl) (by omega) ?_
 intro j hj;by_cases hj8:j<8
 case pos=>
  have Kt:j=0∨j=1∨j=2∨j=3∨j=4∨j=5∨j=6∨j=7:=by omega
  clear hj hj8;rcases Kt with rfl|rfl|rfl|rfl|rfl|rfl|rfl|rfl
  ·repeat'((conv=>whnf);first|(apply aI<;>intro hb<;>first|exact absurd hb (by decide)|((try rw[hb]);(try simp only[Ad]at hb)))|(refine eI ?_ ?_;focus (and_intros<;>first|omega|exact rfl|(simp;done)))|((with_reducible apply A5.B5);(focus kernel_rfl);intro Aa;(try simp only[dRS]at Aa))|((refine Exists.intro ⟨by omega,by omega,(show(_:Nat)<8 from by omega),rfl,by simp⟩ ?_)))
   all_goals(try(conv=>whnf))
   refine Round.by 1 ?_ (by omega) (by omega)
   show norm _ _=Bt _ _
   kernel_rfl
  ·repeat'((conv=>whnf);first|(apply aI<;>intro hb<;>first|exact absurd hb (by decide)|((try rw[hb]);(try simp only[Ad]at hb)))|(refine eI ?_ ?_;focus (and_intros<;>first|omega|exact rfl|(simp;done)))|((with_reducible apply A5.B5);(focus kernel_rfl);intro Aa;(try simp only[dRS]at Aa))|((refine Exists.intro ⟨by omega,by omega,(show(_:Nat)<8 from by omega),rfl,by simp⟩ ?_)))
   all_goals(try(conv=>whnf))
   refine Round.by 2 ?_ (by omega) (by omega)
   show norm _ _=Bt _ _
   kernel_rfl
  ·repeat'((conv=>whnf);first|(apply aI<;>intro hb<;>first|exact absurd hb (by decide)|((try rw[hb]);(try simp only[Ad]at hb)))|(refine eI ?_ ?_;focus (and_intros<;>first|omega|exact rfl|(simp;done)))|((with_reducible apply A5.B5);(focus kernel_rfl);intro Aa;(try simp only[dRS]at Aa))|((refine Exists.intro ⟨by omega,by omega,(show(_:Nat)<8 from by omega),rfl,by simp⟩ ?_)))
   all_goals(try(conv=>whnf))
   refine Round.by 3 ?_ (by omega) (by omega)
   show norm _ _=Bt _ _
   kernel_rfl
  ·repeat'((conv=>whnf);first|(apply aI<;>intro hb<;>first|exact absurd hb (by decide)|((try rw[hb]);(try simp only[Ad]at hb)))|(refine eI ?_ ?_;focus (and_intros<;>first|omega|exact rfl|(simp;done)))|((with_reducible apply A5.B5);(focus kernel_rfl);intro Aa;(try simp only[dRS]at Aa))|((refine Exists.intro ⟨by omega,by omega,(show(_:Nat)<8 from by omega),rfl,by simp⟩ ?_)))
   all_goals(try(conv=>whnf))
   refine Round.by 4 ?_ (by omega) (by omega)
   show norm _ _=Bt _ _
   kernel_rfl
  ·repeat'((conv=>whnf);first|(apply aI<;>intro hb<;>first|exact absurd hb (by decide)|((try rw[hb]);(try simp only[Ad]at hb)))|(refine eI ?_ ?_;focus (and_intros<;>first|omega|exact rfl|(simp;done)))|((with_reducible apply A5.B5);(focus kernel_rfl);intro Aa;(try simp only[dRS]at Aa))|((refine Exists.intro ⟨by omega,by omega,(show(_:Nat)<8 from by omega),rfl,by simp⟩ ?_)))
   all_goals(try(conv=>whnf))
   refine Round.by 5 ?_ (by omega) (by omega)
   show norm _ _=Bt _ _
   kernel_rfl
  ·repeat'((conv=>whnf);first|(apply aI<;>intro hb<;>first|exact absurd hb (by decide)|((try rw[hb]);(try simp only[Ad]at hb)))|(refine eI ?_ ?_;focus (and_intros<;>first|omega|exact rfl|(simp;done)))|((with_reducible apply A5.B5);(focus kernel_rfl);intro Aa;(try simp only[dRS]at Aa))|((refine Exists.intro ⟨by omega,by omega,(show(_:Nat)<8 from by omega),rfl,by simp⟩ ?_)))
   all_goals(try(conv=>whnf))
   refine Round.by 6 ?_ (by omega) (by omega)
   show norm _ _=Bt _ _
   kernel_rfl
  ·repeat'((conv=>whnf);first|(apply aI<;>intro hb<;>first|exact absurd hb (by decide)|((try rw[hb]);(try simp only[Ad]at hb)))|(refine eI ?_ ?_;focus (and_intros<;>first|omega|exact rfl|(simp;done)))|((with_reducible apply A5.B5);(focus kernel_rfl);intro Aa;(try simp only[dRS]at Aa))|((refine Exists.intro ⟨by omega,by omega,(show(_:Nat)<8 from by omega),rfl,by simp⟩ ?_)))
   all_goals(try(conv=>whnf))
   refine Round.by 7 ?_ (by omega) (by omega)
   show norm _ _=Bt _ _
   kernel_rfl
  ·repeat'((conv=>whnf);first|(apply aI<;>intro hb<;>first|exact absurd hb (by decide)|((try rw[hb]);(try simp only[Ad]at hb)))|(refine eI ?_ ?_;focus (and_intros<;>first|omega|exact rfl|(simp;done)))|((with_reducible apply A5.B5);(focus kernel_rfl);intro Aa;(try simp only[dRS]at Aa))|((refine Exists.intro ⟨by omega,by omega,(show(_:Nat)<8 from by omega),rfl,by simp⟩ ?_)))
   all_goals(try(conv=>whnf))
   refine Round.by 8 ?_ (by omega) (by omega)
   show norm _ _=Bt _ _
   kernel_rfl
 have Kt:j=8:=by omega
 subst Kt;clear hj hj8;have Ga:¬decide ((8:Int)<8)=true:=by simp
 have Wm:A58 H Q 8=Ang H Q:=rfl;rw[Wm, ←Mk];have hee:(if ee e n<1000000 then ee e n+1000000 else ee e n)=ee e (n+1):=A4i e n
 have hdr:List.drop (Int.toNat 64) (List.map Cr R)=List.map Cr (B.drop (64*(n+1))):=by
  rw[←List.map_drop,hR,List.drop_drop]
  congr 2
 repeat'((conv=>whnf);first|(apply aI<;>intro hb<;>first|exact absurd hb (by assumption)|((try rw[hb]);(try simp only[Ad]at hb)))|(refine eI ?_ ?_;focus (and_intros<;>first|omega|exact rfl|(simp only[Az];omega)|(simp;done)))|((try dsimp only);rw[Pe])|((try dsimp only);rw[hee])|((try dsimp only);rw[hdr]))
 all_goals(try(conv=>whnf))
 refine Round.by (n+1) ?_ (by omega) (by omega)
 show norm _ _=Bt _ _
 kernel_rfl

open Go.Proofs
def Hs.tail(s:Hs):Ai:=s.rest++[128]++List.replicate (Gf s.rest.length) 0++Ee (8*s.size.toNat) 8
abbrev Hs.Bj9(s:Hs):D:=.ptr (.it (.agg [Ng s.w.l,.list (s.rest.map Cr),.int .u64 s.size]))
def Hs.Ao8(s:Hs):Ai:=Mq (Ct s.w s.tail (s.tail.length / 64)) 8
theorem Aob:∀(k n j:Nat),j<k→(Ee n k)[j]?=some (UInt8.ofNat (n / 256^(k - 1 - j) % 256))
 |0,_,_,h=>by omega
 |k+1,n,j,h=>by
  rw[Ee];by_cases hj:j<k
  ·rw[List.getElem?_append_left (by rw[D4];exact hj),Aob k (n / 256) j hj,Nat.div_div_eq_div_mul,show k+1 - 1 - j=(k - 1 - j)+1 by omega,Nat.pow_succ,Nat.mul_comm]
  ·obtain rfl:j=k:=by omega
   rw[List.getElem?_append_right (by rw[D4];exact Nat.le_refl _),D4]
   simp
theorem A5c(h:H8)(t:Nat):(Mq h t).length≤4*t:=by
 unfold Mq;induction t with
 |zero=>simp
 |succ t ih=>
  rw[List.take_add_one,List.flatMap_append,List.length_append];cases hx:h.l[t]? with
  |none=>simp only[Option.toList_none,List.flatMap_nil,List.length_nil];omega
  |some x=>simp only[Option.toList_some,List.flatMap_cons,List.flatMap_nil,List.append_nil,D4];omega
theorem Bbb{h:H8}{t:Nat}{x:Int}(hx:h.l[t]?=some x):Mq h (t+1)=Mq h t++Ee x.toNat 4:=by
 unfold Mq;rw[List.take_add_one,List.flatMap_append,hx];simp
theorem Bk9(x:Int)(h:0≤x∧x<4294967296):(Ee x.toNat 4).map Cr=[I.int .u8 (IntKind.u8.wrap (L9 .u32 x 24)),I.int .u8 (IntKind.u8.wrap (L9 .u32 x 16)),I.int .u8 (IntKind.u8.wrap (L9 .u32 x 8)),I.int .u8 (IntKind.u8.wrap x)]:=by
 obtain⟨m,rfl⟩:∃m:Nat,x=m:=⟨x.toNat,by omega⟩
 rw[Int.toNat_natCast];have hs:∀k:Nat,k≤32→L9 .u32 (m:Int) (k:Int)=((m / 2^k:Nat):Int):=fun k hk=>by
  show Int.fdiv (m:Int) (2^(min (Int.toNat (k:Int)) 32))=_;rw[Int.toNat_natCast,Nat.min_eq_left hk];exact(show Int.fdiv (m:Int) ((2^k:Nat):Int)=_ from(Int.ofNat_fdiv _ _).symm)
 have s24:=hs 24 (by omega)
 have s16:=hs 16 (by omega)
 have s8:=hs 8 (by omega)
 rw[show((24:Nat):Int)=24 from rfl]at s24;rw[show((16:Nat):Int)=16 from rfl]at s16;rw[show((8:Nat):Int)=8 from rfl]at s8;rw[s24,s16,s8];have hb:∀k:Nat,Cr (UInt8.ofNat (k % 256))=I.int .u8 (IntKind.u8.wrap (k:Int)):=fun k=>by
  unfold Cr;rw[wrap_u8,UInt8.toNat_ofNat']
  congr 1
  omega
 simp only[Ee,List.nil_append,List.map_append,List.map_cons,List.map_nil,List.cons_append,hb];simp only[Nat.div_div_eq_div_mul]
theorem Wi:∀s:Ai,bytesOf (s.map Cr)=some s
 | []=>rfl
 |b::s=>by simp[Cr,bytesOf,Wi s]
theorem Bcg(s:Hs)(hl:s.rest.length≤100000)(hz:0≤s.size∧s.size≤1000000000):
 Fn Tryz.prog Ww [.own [] s.A6] (Is (.v (.str s.Ao8)) [.own [] s.Bj9]):=by
 refine Aj4 ?_ (by simp)
 obtain⟨w,e,rest,size⟩:=s;simp only at hl hz ⊢;repeat'((conv=>whnf);first|(apply aI<;>intro hb<;>first|exact absurd hb (by decide)|((try rw[hb]);(try simp only[Ad]at hb)))|(refine eI ?_ ?_;focus (and_intros<;>first|omega|exact rfl|exact B8 (by rfl)|exact size_map (fun _=>rfl)|(simp only[Az];omega)|(simp;done)))|((simp only[show D.at (0::[].append [1]) (Hs.A6 ⟨w,e,rest,size⟩)=some (D.vec e 1 ((rest.map Cr).map D.it))from rfl,D.Ae,Bn])))
 all_goals(try(conv=>whnf))
 have hE:([]++List.map Cr rest++(List.replicate 1 (I.int IntKind.u8 0)).set 0 (I.int IntKind.u8 128))=List.map Cr (rest++[128]):=by simp[Cr]
 rw[hE];obtain⟨n,hn⟩:∃n,n=rest.length:=⟨_,rfl⟩;have hzl:Gf n<64:=by unfold Gf;omega
 refine Bq.by (X:=Nat) (fun k=>[(3,.own [] (.vec 5 1 (Wy (rest++[128]++List.replicate k 0))))]) (fun k=>k≤Gf n) (fun k=>Gf n - k)
  0 (by rw[List.replicate_zero,List.append_nil];kernel_rfl) (by omega) ?_
 intro k hk;obtain⟨E,hE2⟩:∃E,E=rest++[128]++List.replicate k 0:=⟨_,rfl⟩;have hlen:E.length=n+1+k:=by rw[hE2];simp[hn];omega
 have hm:((Wy E).length:Int).tmod 64=((n+1+k) % 64:Nat):=by
  rw[show((Wy E).length:Int)=((n+1+k:Nat):Int)by simp[hlen]]
  rfl
 rw[←hE2];by_cases Ce:k<Gf n
 case pos=>
  have Bb:¬(!decide (((Wy E).length:Int).tmod 64=56))=false:=by
   rw[hm];unfold Gf at Ce hk;simp;omega
  have e1:((E.map Cr).length+1)*1≤140737488355328:=by simp[hlen];omega
  have e2:(E.map Cr).length+1≤maxLen:=by simp[hlen,maxLen];omega
  repeat'((conv=>whnf);first|(apply aI<;>intro hb<;>first|exact absurd hb (by assumption)|((try rw[hb]);(try simp only[Ad]at hb)))|(refine eI ?_ ?_;focus (and_intros<;>first|omega|exact rfl|assumption|exact B8 (by rfl)|(simp;done)))|(intro Aa)|((try dsimp only);rw[Pe]))
  all_goals(try(conv=>whnf))
  have hE3:List.map Cr (rest++[128]++List.replicate (k+1) 0)=List.map Cr E++(List.replicate 1 (I.int IntKind.u8 0)).set 0 (I.int IntKind.u8 0):=by
   rw[hE2,List.replicate_succ'];simp[Cr]
  refine Round.by (k+1) ?_ (by omega) (by omega)
  rw[show Wy (rest++[128]++List.replicate (k+1) 0)=List.map D.it _ from congrArg (List.map D.it) hE3];show norm _ _=Bt _ _
  kernel_rfl
 have Bb:¬(!decide (((Wy E).length:Int).tmod 64=56))=true:=by
  rw[hm];unfold Gf at Ce hk;simp;omega
 obtain rfl:k=Gf n:=by omega
 repeat'((conv=>whnf);first|(apply aI<;>intro hb<;>first|exact absurd hb (by assumption)|((try rw[hb]);(try simp only[Ad]at hb)))|(refine eI ?_ ?_;focus (and_intros<;>first|omega|exact rfl|(simp;done)))|(intro Aa))
 all_goals(try(conv=>whnf))
 obtain⟨M,hM⟩:∃M,M=8*size.toNat:=⟨_,rfl⟩;have hMs:IntKind.u64.wrap (size*8)=(M:Int):=by rw[wrap_u64];omega
 have hbt:∀j:Nat,j<8→IntKind.u8.wrap (L9 .u64 (IntKind.u64.wrap (size*8)) (56 - 8*(j:Int)))=((UInt8.ofNat (M / 256^(7 - j) % 256)).toNat:Int):=fun j hj=>by
  rw[hMs];have h1:(56 - 8*(j:Int)).toNat=8*(7 - j):=by omega
  have h2:L9 .u64 (M:Int) (56 - 8*(j:Int))=((M / 256^(7 - j):Nat):Int):=by
   unfold L9;rw[h1,Nat.min_eq_left (by show _≤64;omega),show(2:Int)^(8*(7 - j))=((256^(7 - j):Nat):Int)by rw[show(256:Nat)=2^8 from rfl, ←Nat.pow_mul];push_cast;rfl]
   exact(Int.ofNat_fdiv _ _).symm
  rw[h2,wrap_u8];have h3:(UInt8.ofNat (M / 256^(7 - j) % 256)).toNat=M / 256^(7 - j) % 256:=by
   rw[UInt8.toNat_ofNat'];omega
  rw[h3];omega
 refine Bq.by (X:=Nat) (fun j=>[(3,.own [] (.vec 5 1 (Wy (E++(Ee M 8).take j)))),(4,.v (.int .i64 (56 - 8*(j:Int))))]) (fun j=>j≤8) (fun j=>8 - j)
  0 (by rw[List.take_zero,List.append_nil];kernel_rfl) (by omega) ?_
 intro j hj;obtain⟨F,hF⟩:∃F,F=E++(Ee M 8).take j:=⟨_,rfl⟩;have hFl:F.length=n+1+Gf n+j:=by rw[hF];simp[hlen,D4];omega
 rw[←hF];by_cases hj8:j<8
 case pos=>
  have e1:((F.map Cr).length+1)*1≤140737488355328:=by simp[hFl];omega
  have e2:(F.map Cr).length+1≤maxLen:=by simp[hFl,maxLen];omega
  have Uc:¬decide (56 - 8*(j:Int)≥0)=false:=by simp;omega
  have A6w:¬decide ((0:Int)≤56 - 8*(j:Int))=false:=by simp;omega
  have h0j:(0:Int)≤56 - 8*(j:Int):=by omega
  repeat'((conv=>whnf);first|(apply aI<;>intro hb<;>first|exact absurd hb (by assumption)|((try rw[hb]);(try simp only[Ad]at hb)))|(refine eI ?_ ?_;focus (and_intros<;>first|omega|exact rfl|assumption|exact B8 (by rfl)|(simp;done)))|((try dsimp only);rw[Pe]))
  all_goals(try(conv=>whnf))
  have hF3:List.map Cr (E++(Ee M 8).take (j+1))=List.map Cr F++(List.replicate 1 (I.int IntKind.u8 0)).set 0 (I.int IntKind.u8 (IntKind.u8.wrap (L9 .u64 (IntKind.u64.wrap (size*8)) (56 - 8*(j:Int))))):=by
   rw[hbt j hj8,List.take_add_one,Aob 8 M j hj8, ←List.append_assoc, ←hF,List.map_append];rfl
  have hs4:IntKind.i64.wrap (56 - 8*(j:Int) - 8)=56 - 8*((j+1:Nat):Int):=by rw[IntKind.wrap_i64];omega
  refine Round.by (j+1) ?_ (by omega) (by omega)
  rw[hs4,show Wy (E++(Ee M 8).take (j+1))=List.map D.it _ from congrArg (List.map D.it) hF3];show norm _ _=Bt _ _
  kernel_rfl
 have Uc:¬decide (56 - 8*(j:Int)≥0)=true:=by simp;omega
 have A6w:¬decide ((0:Int)≤56 - 8*(j:Int))=true:=by simp;omega
 obtain rfl:j=8:=by omega
 repeat'((conv=>whnf);first|(apply aI<;>intro hb<;>first|exact absurd hb (by assumption)|((try rw[hb]);(try simp only[Ad]at hb)))|(refine eI ?_ ?_;focus (and_intros<;>first|omega|exact rfl|(simp;done))))
 all_goals(try(conv=>whnf))
 obtain⟨B,hB⟩:∃B,B=F:=⟨_,rfl⟩;have hBF:B=Hs.tail ⟨w,e,rest,size⟩:=by
  rw[hB,hF,hE2,hM,hn];simp only[Hs.tail];rw[List.take_of_length_le (by rw[D4];exact Nat.le_refl _)]
 have hBl:B.length=64*(B.length / 64):=by rw[hB,hFl];unfold Gf;omega
 have Bn5:64≤B.length:=by rw[hB,hFl];unfold Gf;omega
 rw[←hB];unfold Hs.Ao8;rw[←hBF];simp only;clear hF hFl hB hE hn hzl Bb hk hE2 hlen hm Ce hM hMs hbt hj hj8 Uc A6w hz hl;rw[show(I.arr 1 (List.replicate 8 (I.int IntKind.u32 0))).put [] (Ng w.l)=Ng w.l from rfl];obtain⟨ww,hw0⟩:∃ww,ww=w:=⟨_,rfl⟩;rw[←hw0];refine Bq.by (X:=Nat) (fun n=>[(3,.own [] (.vec (ee 5 n) 1 (Wy (B.drop (64*n))))),(5,.box (.one (.i (Ng (Ct ww B n).l))))]) (fun n=>64*n≤B.length) (fun n=>B.length - 64*n)
  0 (by kernel_rfl) (by omega) ?_
 intro n hn;obtain⟨R,hR⟩:∃R,R=B.drop (64*n):=⟨_,rfl⟩;have hRl:R.length=B.length - 64*n:=by rw[hR,List.length_drop]
 rw[←hR];by_cases hnN:0<R.length
 case neg=>
  have hRb:((Wy R).length:Int)=(R.length:Int):=by simp
  have Bb:¬decide ((0:Int)<((Wy R).length:Int))=true:=by rw[hRb,decide_eq_true_eq];omega
  have An0:¬decide (((Wy R).length:Int)>0)=true:=by rw[hRb,decide_eq_true_eq];omega
  repeat'((conv=>whnf);first|(apply aI<;>intro hb<;>first|exact absurd hb (by assumption)|((try rw[hb]);(try simp only[Ad]at hb)))|(refine eI ?_ ?_;focus (and_intros<;>first|omega|exact rfl|(simp;done)))|(intro Aa))
  all_goals(try(conv=>whnf))
  have F1:n=B.length / 64:=by omega
  have hn0:∃m,n=m+1:=⟨n - 1,by rw[F1];have:=Bn5;omega⟩
  obtain⟨H,hH⟩:∃H,H=Ct ww B n:=⟨_,rfl⟩;rw[←F1, ←hH];have hb8:∀x∈H.l,0≤x∧x<4294967296:=by
   obtain⟨m,rfl⟩:=hn0;rw[hH,Ct,S8,Ang,H8.l];intro x hx;simp only[List.mem_cons,List.not_mem_nil,or_false]at hx;rcases hx with rfl|rfl|rfl|rfl|rfl|rfl|rfl|rfl<;>exact Aoy _
  clear hH;refine Bq.by (X:=Nat) (fun t=>[(6,.vec 5 1 ((Mq H t).map Cr)),(54,.v (.int .i64 t))]) (fun t=>t≤8) (fun t=>8 - t)
   0 (by kernel_rfl) (by omega) ?_
  intro t ht;by_cases ht8:t<8
  case pos=>
   obtain⟨x,hx⟩:∃x,H.l[t]?=some x:=⟨_,List.getElem?_eq_getElem ht8⟩;have hxi:(H.l.map (I.int .u32))[Int.toNat (t:Int)]?=some (.int .u32 x):=by rw[Int.toNat_natCast,List.getElem?_map,hx];rfl
   have Jx:=A5c H t;have e1:((List.map Cr (Mq H t)).length+4)*1≤140737488355328:=by simp;omega
   have e2:(List.map Cr (Mq H t)).length+4≤maxLen:=by simp[maxLen];omega
   have Ga:¬decide ((t:Int)<8)=false:=by simp;omega
   repeat'((conv=>whnf);first|(apply aI<;>intro hb<;>first|exact absurd hb (by assumption)|((try rw[hb]);(try simp only[Ad]at hb)))|(refine eI ?_ ?_;focus (and_intros<;>first|omega|exact rfl|assumption|exact B8 (by rfl)|(simp;done)))|((try dsimp only);rw[hxi]))
   all_goals(try(conv=>whnf))
   refine Round.by (t+1) ?_ (by omega) (by omega)
   rw[Ak ht8 (by simp only[maxLen];omega),Bbb hx,List.map_append,Bk9 x (hb8 x (List.mem_of_getElem? hx))]
   show norm _ _=Bt _ _
   kernel_rfl
  have Ga:¬decide ((t:Int)<8)=true:=by simp;omega
  obtain rfl:t=8:=by omega
  have Jx:=A5c H 8;obtain⟨O,hO⟩:∃O,O=Mq H 8:=⟨_,rfl⟩;rw[←hO]at Jx ⊢;have hom:O.length≤maxLen:=by simp[maxLen];omega
  repeat'((conv=>whnf);first|(apply aI<;>intro hb<;>first|exact absurd hb (by assumption)|((try rw[hb]);(try simp only[Ad]at hb)))|(refine eI ?_ ?_;focus (and_intros<;>first|omega|(simp;done)))|((simp only[SV.Cx,Wi])))
  all_goals(try(conv=>whnf))
  (apply dK<;>kernel_rfl)
 have hRb:((Wy R).length:Int)=(R.length:Int):=by simp
 have Bb:¬decide ((0:Int)<((Wy R).length:Int))=false:=by rw[hRb,decide_eq_false_iff_not];omega
 have An0:¬decide (((Wy R).length:Int)>0)=false:=by rw[hRb,decide_eq_false_iff_not];omega
 have Bso:64≤R.length:=by omega
 repeat'((conv=>whnf);first|(apply aI<;>intro hb<;>first|exact absurd hb (by assumption)|((try rw[hb]);(try simp only[Ad]at hb)))|(refine eI ?_ ?_;focus (and_intros<;>first|omega|exact rfl|(simp;done)))|(intro Aa))
 all_goals(try(conv=>whnf))
 refine Uf ?_ (by decide)
 (conv=>whnf)
 all_goals(try(conv=>whnf))
 refine Bq.by (X:=Nat) (fun i=>[(4,.box (.one (.i (Ng (Hh (sched B (64*n) i)))))),(17,.v (.int .i64 i))]) (fun i=>i≤16) (fun i=>16 - i)
  0 (by kernel_rfl) (by omega) ?_
 intro i hi;by_cases Anx:i<16
 case pos=>
  have Ga:¬decide ((i:Int)<16)=false:=by simp;omega
  have w0:IntKind.i64.wrap (4*(i:Int))=((4*i:Nat):Int):=by
   rw[show 4*(i:Int)=((4*i:Nat):Int)by omega];exact Cf (by omega)
  have w1:IntKind.i64.wrap (((4*i:Nat):Int)+1)=((4*i+1:Nat):Int):=by
   rw[show((4*i:Nat):Int)+1=((4*i+1:Nat):Int)by omega];exact Cf (by omega)
  have w2:IntKind.i64.wrap (((4*i:Nat):Int)+2)=((4*i+2:Nat):Int):=by
   rw[show((4*i:Nat):Int)+2=((4*i+2:Nat):Int)by omega];exact Cf (by omega)
  have w3:IntKind.i64.wrap (((4*i:Nat):Int)+3)=((4*i+3:Nat):Int):=by
   rw[show((4*i:Nat):Int)+3=((4*i+3:Nat):Int)by omega];exact Cf (by omega)
  have g:∀k:Nat,k<64→(List.map D.it (List.map Cr R))[Int.toNat 0+Int.toNat (k:Int)]?=some (.it (.int .u8 (F9 B (64*n+k)))):=fun k hk=>by
   obtain⟨b,hb⟩:∃b,R[k]?=some b:=⟨_,List.getElem?_eq_getElem (by omega)⟩
   have Br:B[64*n+k]?=some b:=by rw[←hb,hR,List.getElem?_drop]
   rw[Int.toNat_natCast,show Int.toNat 0+k=k by simp,List.getElem?_map,List.getElem?_map,hb,F9,List.getD_eq_getElem?_getD,Br]
   rfl
  have gD:∀(k:Nat) (_:k<64) (e':Nat),D.at [Int.toNat 0+Int.toNat (k:Int)] (D.vec e' 1 (Wy R))=some (.it (.int .u8 (F9 B (64*n+k)))):=fun k hk e'=>by
   show(match(List.map D.it (List.map Cr R))[Int.toNat 0+Int.toNat (k:Int)]? with|some y=>D.at [] y|none=>none)=_
   rw[g k hk];rfl
  have Ei:=Fo B (64*n) i;obtain⟨v0,hv0⟩:∃v0,(Hh (sched B (64*n) i))[i]?=some v0:=⟨_,List.getElem?_eq_getElem (by rw[Vp (by omega)];omega)⟩
  have hh:=Jt hv0;have hp:=Aku hv0;repeat'((conv=>whnf);first|(apply aI<;>intro hb<;>first|exact absurd hb (by assumption)|((try rw[hb]);(try simp only[Ad]at hb)))|(refine eI ?_ ?_;focus (and_intros<;>first|omega|exact rfl|(simp;done)))|((with_reducible apply A5.B5);(focus kernel_rfl);intro Aa;(try simp only[dRS]at Aa))|((try dsimp only);rw[w0])|((try dsimp only);rw[w1])|((try dsimp only);rw[w2])|((try dsimp only);rw[w3])|(refine D9 rfl (gD _ (by omega) _) rfl ?_)|((try dsimp only);rw[hh]))
  all_goals(try(conv=>whnf))
  have Cs:Hh (sched B (64*n) (i+1))=(Hh (sched B (64*n) i)).set i (Arr B (64*n+4*i)):=by
   rw[sched,if_pos Anx, ←A2j, ←Ag9 (by rw[Ei];omega),Ei]
  refine Round.by (i+1) ?_ (by omega) (by omega)
  rw[Ak Anx (by simp only[maxLen];omega),Cs,hp]
  show norm _ _=Bt _ _
  kernel_rfl
 have Ga:¬decide ((i:Int)<16)=true:=by simp;omega
 have Fh:i=16:=by omega
 subst Fh;clear Ga hi Anx;repeat'((conv=>whnf);(apply aI<;>intro hb<;>first|exact absurd hb (by decide)|((try rw[hb]);(try simp only[Ad]at hb))))
 all_goals(try(conv=>whnf))
 refine Bq.by (X:=Nat) (fun t=>[(4,.box (.one (.i (Ng (Hh (sched B (64*n) t)))))),(6,.v (.int .i64 t))]) (fun t=>16≤t∧t≤64) (fun t=>64 - t)
  16 (by kernel_rfl) (by omega) ?_
 rintro t ⟨ht1,ht2⟩;by_cases J8:t<64
 case pos=>
  have Ga:¬decide ((t:Int)<64)=false:=by simp;omega
  have Ei:=Fo B (64*n) t;have Cs:Hh (sched B (64*n) (t+1))=(Hh (sched B (64*n) t)).set t (Ar7 (sched B (64*n) t) t):=by
   rw[sched,if_neg (by omega), ←Ag9 (by rw[Ei];omega),Ei]
  rw[←A4k]at Cs;obtain⟨w,hw⟩:∃w,w=sched B (64*n) t:=⟨_,rfl⟩;rw[←hw]at Ei Cs ⊢;have g:∀j,j<t→w[j]?=some (Gz w j):=fun j hj=>by
   rw[Gz,List.getD_eq_getElem?_getD,List.getElem?_eq_getElem (by omega)];rfl
  have hwr:∀j:Nat,j≤t→IntKind.i64.wrap ((t:Int) - (j:Int))=((t - j:Nat):Int):=fun j hj=>by
   rw[show(t:Int) - (j:Int)=((t - j:Nat):Int)by omega];exact Cf (by omega)
  have w2:IntKind.i64.wrap ((t:Int) - 2)=((t - 2:Nat):Int):=hwr 2 (by omega)
  have w7:IntKind.i64.wrap ((t:Int) - 7)=((t - 7:Nat):Int):=hwr 7 (by omega)
  have w15:IntKind.i64.wrap ((t:Int) - 15)=((t - 15:Nat):Int):=hwr 15 (by omega)
  have w16:IntKind.i64.wrap ((t:Int) - 16)=((t - 16:Nat):Int):=hwr 16 (by omega)
  have h2:=Jt (P9 (g (t - 2) (by omega)))
  have h7:=Jt (P9 (g (t - 7) (by omega)))
  have h15:=Jt (P9 (g (t - 15) (by omega)))
  have h16:=Jt (P9 (g (t - 16) (by omega)))
  obtain⟨v0,hv0⟩:∃v0,(Hh w)[t]?=some v0:=⟨_,List.getElem?_eq_getElem (by rw[Vp (by omega)];omega)⟩
  have hh:=Jt hv0;have hp:=Aku hv0;repeat'((conv=>whnf);first|(apply aI<;>intro hb<;>first|exact absurd hb (by assumption)|((try rw[hb]);(try simp only[Ad]at hb)))|(refine eI ?_ ?_;focus (and_intros<;>first|omega|exact rfl|(intro _ hh;cases hh;done)|(simp;done)|decide))|((with_reducible apply A5.B5);(focus kernel_rfl);intro Aa;(try simp only[dRS]at Aa))|((try dsimp only);rw[w2])|((try dsimp only);rw[w7])|((try dsimp only);rw[w15])|((try dsimp only);rw[w16])|((try dsimp only);rw[h2])|((try dsimp only);rw[h7])|((try dsimp only);rw[h15])|((try dsimp only);rw[h16])|((try dsimp only);rw[hh])|(refine Ac.mk ⟨_,Fj _ (-7) 7,?_⟩;rintro _ _ ⟨rfl,rfl⟩)|(refine Ac.mk ⟨_,Fj _ (-18) 18,?_⟩;rintro _ _ ⟨rfl,rfl⟩)|(refine Ac.mk ⟨_,Fj _ (-17) 17,?_⟩;rintro _ _ ⟨rfl,rfl⟩)|(refine Ac.mk ⟨_,Fj _ (-19) 19,?_⟩;rintro _ _ ⟨rfl,rfl⟩))
  all_goals(try(conv=>whnf))
  refine Round.by (t+1) ?_ ⟨by omega,J8⟩ (by omega)
  rw[Ak J8 (by simp only[maxLen];omega),Cs,hp]
  show norm _ _=Bt _ _
  kernel_rfl
 have Ga:¬decide ((t:Int)<64)=true:=by simp;omega
 have Tn:t=64:=by omega
 subst Tn;have Ei:=Fo B (64*n) 64;have Y8:Hh (sched B (64*n) 64)=sched B (64*n) 64:=by rw[Hh,Ei];exact List.append_nil _
 rw[Y8];have Mk:Ct ww B (n+1)=Ang (Ct ww B n) (Jh (sched B (64*n) 64) (Ct ww B n) 64):=rfl;obtain⟨W,hW⟩:∃W,W=sched B (64*n) 64:=⟨_,rfl⟩;rw[←hW]at Ei Mk ⊢;obtain⟨H,hH⟩:∃H,H=Ct ww B n:=⟨_,rfl⟩;rw[←hH]at Mk ⊢;clear Y8 Ga ht1 ht2 J8;repeat'((conv=>whnf);first|(apply aI<;>intro hb<;>first|exact absurd hb (by decide)|((try rw[hb]);(try simp only[Ad]at hb)))|(refine eI ?_ ?_;focus (and_intros<;>first|omega|exact rfl|(intro _ hh;cases hh;done)|(simp;done)|decide))|(refine Ac.mk ⟨_,Akg,?_⟩;rintro _ _ ⟨rfl,rfl⟩))
 all_goals(try(conv=>whnf))
 refine Bq.by (X:=Nat) (fun t=>[(9,.box (.one (.i (Ng (Jh W H t).l)))),(103,.v (.int .i64 t))]) (fun t=>t≤64) (fun t=>64 - t)
  0 (by kernel_rfl) (by omega) ?_
 intro t ht;by_cases J8:t<64
 case pos=>
  have Ga:¬decide ((t:Int)<64)=false:=by simp;omega
  have hgk:L2[t]?=some (Gz L2 t):=by
   rw[Gz,List.getD_eq_getElem?_getD,List.getElem?_eq_getElem (show t<L2.length from J8)];rfl
  have hgw:W[t]?=some (Gz W t):=by
   rw[Gz,List.getD_eq_getElem?_getD,List.getElem?_eq_getElem (by omega)];rfl
  have hh:=Jt hgw;have hr:Jh W H (t+1)=rnd (Jh W H t) (Gz L2 t) (Gz W t):=rfl;obtain⟨Q,hQ⟩:∃R,R=Jh W H t:=⟨_,rfl⟩;rw[←hQ]at hr ⊢;obtain⟨kt,hkt⟩:∃k,k=Gz L2 t:=⟨_,rfl⟩;rw[←hkt]at hr hgk;obtain⟨wt,hwt⟩:∃k,k=Gz W t:=⟨_,rfl⟩;rw[←hwt]at hr hh;clear hQ hkt hwt;repeat'((conv=>whnf);first|(apply aI<;>intro hb<;>first|exact absurd hb (by assumption)|((try rw[hb]);(try simp only[Ad]at hb)))|(refine eI ?_ ?_;focus (and_intros<;>first|omega|exact rfl|(intro _ hh;cases hh;done)|exact B8 (by rfl)|(simp;done)|decide))|((with_reducible apply A5.B5);(focus kernel_rfl);intro Aa;(try simp only[dRS]at Aa))|((try dsimp only);first|rw[Av hgk]|rw[An hgk]|rw[Ap hgk])|((try dsimp only);rw[hh])|(refine Aj.mk ⟨_,_,Fj _ (-6) 6,?_⟩)|(refine Aj.mk ⟨_,_,Fj _ (-11) 11,?_⟩)|(refine Aj.mk ⟨_,_,Fj _ (-25) 25,?_⟩)|(refine Aj.mk ⟨_,_,Fj _ (-2) 2,?_⟩)|(refine Aj.mk ⟨_,_,Fj _ (-13) 13,?_⟩)|(refine Aj.mk ⟨_,_,Fj _ (-22) 22,?_⟩))
  all_goals(try(conv=>whnf))
  refine Round.by (t+1) ?_ (by omega) (by omega)
  rw[Ak J8 (by simp only[maxLen];omega),hr]
  show norm _ _=Bt _ _
  kernel_rfl
 have Ga:¬decide ((t:Int)<64)=true:=by simp;omega
 have Tn:t=64:=by omega
 subst Tn;clear Ga ht J8;obtain⟨Q,hQ⟩:∃R,R=Jh W H 64:=⟨_,rfl⟩;rw[←hQ]at Mk ⊢;repeat'((conv=>whnf);(apply aI<;>intro hb<;>first|exact absurd hb (by decide)|((try rw[hb]);(try simp only[Ad]at hb))))
 all_goals(try(conv=>whnf))
 refine Bq.by (X:=Nat) (fun j=>[(202,.box (.one (.i (Ng (A58 H Q j).l)))),(182,.v (.int .i64 j))]) (fun j=>j≤8) (fun j=>8 - j)
  0 (by kernel_rfl) (by omega) ?_
 intro j hj;by_cases hj8:j<8
 case pos=>
  have Kt:j=0∨j=1∨j=2∨j=3∨j=4∨j=5∨j=6∨j=7:=by omega
  clear hj hj8;rcases Kt with rfl|rfl|rfl|rfl|rfl|rfl|rfl|rfl
  ·repeat'((conv=>whnf);first|(apply aI<;>intro hb<;>first|exact absurd hb (by decide)|((try rw[hb]);(try simp only[Ad]at hb)))|(refine eI ?_ ?_;focus (and_intros<;>first|omega|exact rfl|(simp;done)))|((with_reducible apply A5.B5);(focus kernel_rfl);intro Aa;(try simp only[dRS]at Aa)))
   all_goals(try(conv=>whnf))
   refine Round.by 1 ?_ (by omega) (by omega)
   show norm _ _=Bt _ _
   kernel_rfl
  ·repeat'((conv=>whnf);first|(apply aI<;>intro hb<;>first|exact absurd hb (by decide)|((try rw[hb]);(try simp only[Ad]at hb)))|(refine eI ?_ ?_;focus (and_intros<;>first|omega|exact rfl|(simp;done)))|((with_reducible apply A5.B5);(focus kernel_rfl);intro Aa;(try simp only[dRS]at Aa)))
   all_goals(try(conv=>whnf))
   refine Round.by 2 ?_ (by omega) (by omega)
   show norm _ _=Bt _ _
   kernel_rfl
  ·repeat'((conv=>whnf);first|(apply aI<;>intro hb<;>first|exact absurd hb (by decide)|((try rw[hb]);(try simp only[Ad]at hb)))|(refine eI ?_ ?_;focus (and_intros<;>first|omega|exact rfl|(simp;done)))|((with_reducible apply A5.B5);(focus kernel_rfl);intro Aa;(try simp only[dRS]at Aa)))
   all_goals(try(conv=>whnf))
   refine Round.by 3 ?_ (by omega) (by omega)
   show norm _ _=Bt _ _
   kernel_rfl
  ·repeat'((conv=>whnf);first|(apply aI<;>intro hb<;>first|exact absurd hb (by decide)|((try rw[hb]);(try simp only[Ad]at hb)))|(refine eI ?_ ?_;focus (and_intros<;>first|omega|exact rfl|(simp;done)))|((with_reducible apply A5.B5);(focus kernel_rfl);intro Aa;(try simp only[dRS]at Aa)))
   all_goals(try(conv=>whnf))
   refine Round.by 4 ?_ (by omega) (by omega)
   show norm _ _=Bt _ _
   kernel_rfl
  ·repeat'((conv=>whnf);first|(apply aI<;>intro hb<;>first|exact absurd hb (by decide)|((try rw[hb]);(try simp only[Ad]at hb)))|(refine eI ?_ ?_;focus (and_intros<;>first|omega|exact rfl|(simp;done)))|((with_reducible apply A5.B5);(focus kernel_rfl);intro Aa;(try simp only[dRS]at Aa)))
   all_goals(try(conv=>whnf))
   refine Round.by 5 ?_ (by omega) (by omega)
   show norm _ _=Bt _ _
   kernel_rfl
  ·repeat'((conv=>whnf);first|(apply aI<;>intro hb<;>first|exact absurd hb (by decide)|((try rw[hb]);(try simp only[Ad]at hb)))|(refine eI ?_ ?_;focus (and_intros<;>first|omega|exact rfl|(simp;done)))|((with_reducible apply A5.B5);(focus kernel_rfl);intro Aa;(try simp only[dRS]at Aa)))
   all_goals(try(conv=>whnf))
   refine Round.by 6 ?_ (by omega) (by omega)
   show norm _ _=Bt _ _
   kernel_rfl
  ·repeat'((conv=>whnf);first|(apply aI<;>intro hb<;>first|exact absurd hb (by decide)|((try rw[hb]);(try simp only[Ad]at hb)))|(refine eI ?_ ?_;focus (and_intros<;>first|omega|exact rfl|(simp;done)))|((with_reducible apply A5.B5);(focus kernel_rfl);intro Aa;(try simp only[dRS]at Aa)))
   all_goals(try(conv=>whnf))
   refine Round.by 7 ?_ (by omega) (by omega)
   show norm _ _=Bt _ _
   kernel_rfl
  ·repeat'((conv=>whnf);first|(apply aI<;>intro hb<;>first|exact absurd hb (by decide)|((try rw[hb]);(try simp only[Ad]at hb)))|(refine eI ?_ ?_;focus (and_intros<;>first|omega|exact rfl|(simp;done)))|((with_reducible apply A5.B5);(focus kernel_rfl);intro Aa;(try simp only[dRS]at Aa)))
   all_goals(try(conv=>whnf))
   refine Round.by 8 ?_ (by omega) (by omega)
   show norm _ _=Bt _ _
   kernel_rfl
 have Kt:j=8:=by omega
 subst Kt;clear hj hj8;have Ga:¬decide ((8:Int)<8)=true:=by simp
 have Wm:A58 H Q 8=Ang H Q:=rfl;rw[Wm, ←Mk];have hee:(if ee 5 n<1000000 then ee 5 n+1000000 else ee 5 n)=ee 5 (n+1):=A4i 5 n
 have hdr:List.drop (Int.toNat 64) (List.map Cr R)=List.map Cr (B.drop (64*(n+1))):=by
  rw[←List.map_drop,hR,List.drop_drop]
  congr 2
 repeat'((conv=>whnf);first|(apply aI<;>intro hb<;>first|exact absurd hb (by assumption)|((try rw[hb]);(try simp only[Ad]at hb)))|(refine eI ?_ ?_;focus (and_intros<;>first|omega|(simp only[Az];omega)))|((try dsimp only);rw[Pe])|((try dsimp only);rw[hee])|((try dsimp only);rw[hdr]))
 all_goals(try(conv=>whnf))
 refine Round.by (n+1) ?_ (by omega) (by omega)
 show norm _ _=Bt _ _
 kernel_rfl
end Go.Ab
