/- Lemmas -/
import Derived.Test.YtgcccllpegilnaaGreatDoorM3
set_option linter.unusedVariables false
set_option linter.unusedSimpArgs false
set_option maxRecDepth 100000
set_option maxHeartbeats 4000000
namespace Go.Ab
open Go.Proofs
theorem Zv{α:Type}{nm:α→Ai}{y:α}{n:Ai}(hy:nm y=n):∀{l:List α},H5 nm l→(∀x∈l,nm x≠n)→H5 nm (E8 (fun e=>decide (n<nm e)) y l)
 | [],_,_=>by simp[E8]
 |a::r,h,hn=>by
  obtain⟨h1,h2⟩:=List.pairwise_cons.1 h;unfold E8;by_cases Bb:n<nm a
  ·rw[if_pos (by simpa using Bb)]
   refine List.pairwise_cons.2 ⟨fun x hx=>?_,h⟩
   rw[hy];rcases List.mem_cons.1 hx with rfl|hx
   ·exact Bb
   ·exact List.lt_trans Bb (h1 x hx)
  ·rw[if_neg (by simpa using Bb)]
   have ha:nm a<n:=by
    rcases A7q (nm a) n with h|h|h
    ·exact h
    ·exact absurd h (hn a (List.mem_cons_self ..))
    ·exact absurd h Bb
   refine List.pairwise_cons.2 ⟨fun x hx=>?_,Zv hy h2 fun x hx=>hn x (List.mem_cons_of_mem _ hx)⟩
   rcases Gn.1 hx with rfl|hx
   ·rw[hy];exact ha
   ·exact h1 x hx
theorem Qa{α:Type}{nm:α→Ai}{l:List α}:H5 nm l↔(l.map nm).Pairwise (· < ·):=List.pairwise_map.symm
theorem Vd{α:Type}{nm:α→Ai}{l:List α}{j:Nat}{x y:α}(hr:H5 nm l)(h:l[j]?=some x)(hn:nm y=nm x):H5 nm (l.set j y):=by
 rw[Qa]at hr ⊢;have:(l.set j y).map nm=l.map nm:=by
  rw[List.map_set,hn];obtain⟨hj,hx⟩:=List.getElem?_eq_some_iff.1 h;apply List.ext_getElem?;intro i;rw[List.getElem?_set];split
  ·rename_i e;subst e;simp[hj,hx]
  ·rfl
 rw[this];exact hr
theorem A0p{α:Type}{nm:α→Ai}{l:List α}(hr:H5 nm l)(j:Nat):H5 nm (l.take j++l.drop (j+1)):=by
 rw[←List.eraseIdx_eq_take_drop_succ];exact hr.sublist (List.eraseIdx_sublist ..)
theorem A4f{α:Type}{p:α→Bool}{l:List α}(h:findAt p 0 l<0):∀x∈l,p x=false:=by
 rcases Qp p 0 l with⟨h1,_⟩|⟨j,x,h1,_⟩
 ·intro x hx;have:=List.find?_eq_none.1 h1 x hx;simpa using this
 ·omega
theorem Um{α:Type}{p:α→Bool}{l:List α}(h:¬findAt p 0 l<0):∃x,l[(findAt p 0 l).toNat]?=some x∧p x=true:=by
 rcases Qp p 0 l with⟨_,h1⟩|⟨j,x,h1,h2,h3⟩
 ·omega
 ·refine⟨x,?_,List.find?_some h3⟩;rw[h1];simpa using h2
theorem A6f{r:A8}(h:r.Aeg)(c:Ds):(doM r c).1.Aeg:=by
 obtain⟨hT,hU,hX,hR⟩:=h;have h0:r.Aeg:=⟨hT,hU,hX,hR⟩;have nn:∀{α:Type} {nm:α→Ai} {l:List α} {n:Ai},findAt (fun t=>decide (nm t=n)) 0 l<0→∀x∈l,nm x≠n:=fun h x hx=>by simpa using A4f h x hx
 unfold doM;split
 ·exact h0
 split
 ·exact h0
 split
 ·unfold Mb;repeat' split
  all_goals try exact h0
  exact⟨Zv (nm:=B7.name) (n:=c.name) rfl hT (nn (show r.Hn c.name<0 by omega)),hU,hX,hR⟩
 split
 ·unfold L8;repeat' split
  all_goals try exact h0
  rename_i hn;obtain⟨x,hx,hp⟩:=Um hn;exact⟨Vd hT hx (by simpa using(of_decide_eq_true hp).symm),hU,hX,hR⟩
 split
 ·unfold T7;repeat' split
  all_goals try exact h0
  refine⟨hT,Zv (nm:=Bc.name) (n:=c.name) rfl hU (nn (show r.Fa c.name<0 by omega)),hX,fun u hu=>?_⟩
  rcases Gn.1 hu with rfl|hu
  ·exact List.Pairwise.nil
  ·exact hR u hu
 split
 ·unfold Q6;repeat' split
  all_goals try exact h0
  rename_i hn _ u hu;refine⟨hT,Vd hU hu rfl,hX,fun v hv=>?_⟩
  rcases Jy hv with rfl|hv
  ·exact hR u (List.mem_of_getElem? hu)
  ·exact hR v hv
 split
 ·unfold L3;repeat' split
  all_goals try exact h0
  refine⟨hT,A0p hU _,hX,fun v hv=>?_⟩
  rcases List.mem_append.1 hv with hv|hv
  ·exact hR v (List.mem_of_mem_take hv)
  ·exact hR v (List.mem_of_mem_drop hv)
 split
 ·unfold Tz;repeat' split
  all_goals try exact h0
  exact⟨hT,hU,Zv (nm:=Bh.name) (n:=c.name) rfl hX (nn (show r.Ex c.name<0 by omega)),hR⟩
 split
 ·unfold Qo;repeat' split
  all_goals try exact h0
  refine⟨hT,List.pairwise_map.2 hU,A0p hX _,fun v hv=>?_⟩
  obtain⟨u,hu,rfl⟩:=List.mem_map.1 hv;exact(hR u hu).filter _
 split
 ·unfold Lx;repeat' split
  all_goals try exact h0
  rename_i x hx _ _;exact⟨hT,hU,Vd hX hx rfl,hR⟩
 split
 ·unfold Hu;repeat' split
  all_goals try exact h0
  rename_i x hx _;exact⟨hT,hU,Vd hX hx rfl,hR⟩
 ·unfold Jv;repeat' split
  all_goals try exact h0
  ·rename_i u hu _ _;refine⟨hT,Vd hU hu rfl,hX,fun v hv=>?_⟩
   rcases Jy hv with rfl|hv
   ·exact(hR u (List.mem_of_getElem? hu)).filter _
   ·exact hR v hv
  ·rename_i u hu _ _ _ x hx _ ha _;refine⟨hT,Vd hU hu rfl,hX,fun v hv=>?_⟩
   rcases Jy hv with rfl|hv
   ·exact Zv (nm:=Gi) rfl (hR u (List.mem_of_getElem? hu)) fun y hy=>by
     intro e;apply ha;exact List.any_eq_true.2 ⟨y,hy,by simpa using e⟩
   ·exact hR v hv

open Go.Proofs
abbrev Aqx:Ai:=[114,111,111,116]
def Wg(l:List Dg):Prop:=(∀g∈l,Dk g.sp∧(g.r||g.w)=true)∧l.Nodup
structure A8.Ok(r:A8):Prop where
 tn:∀t∈r.Be,D2 t.name=true∧Dq t.mb=true∧Dq t.ks=true
 un:∀u∈r.Ag,D2 u.name=true∧u.Bp.length≤64∧u.hash.length=32
 xn:∀x∈r.Am,D2 x.name=true∧(∃t∈r.Be,t.name=x.Du)∧Wg x.A4
 ur:∀u∈r.Ag,u.name=Aqx→u.Du=[]∧u.A2=[]
 ut:∀u∈r.Ag,u.name≠Aqx→∃t∈r.Be,t.name=u.Du
 uo:∀u∈r.Ag,∀n∈u.A2,∃x∈r.Am,x.name=n∧x.Du=u.Du
 rt:∃u∈r.Ag,u.name=Aqx
theorem Bgm{g:Dg}{out:List Dg}{sp:Sp}(h:Wg out)(hs:Dk sp)(hg:(g.r||g.w)=true):Wg (Lf g out sp):=by
 unfold Lf;split
 ·exact h
 ·rename_i hn;refine⟨fun x hx=>?_,?_⟩
  ·rcases List.mem_append.1 hx with hx|hx
   ·exact h.1 x hx
   ·simp at hx;subst hx;exact⟨hs,hg⟩
  ·rw[List.nodup_append];refine⟨h.2,by simp,fun a ha b hb=>?_⟩
   simp at hb;subst hb;intro e;exact hn (List.any_eq_true.2 ⟨a,ha,by simpa using e⟩)
theorem Axk{g:Dg}(hg:(g.r||g.w)=true):∀{l:List Sp} {out:List Dg},Wg out→(∀s∈l,Dk s)→Wg (l.foldl (Lf g) out)
 | [],_,h,_=>h
 |s::l,out,h,hl=>Axk hg (l:=l) (Bgm h (hl s (List.mem_cons_self ..)) hg) fun x hx=>hl x (List.mem_cons_of_mem _ hx)
theorem A5g{s:Sp}:∀{l out:List Dg},Wg out→(∀g∈l,Dk g.sp∧(g.r||g.w)=true)→Wg (l.foldl (Hb s) out)
 | [],_,h,_=>h
 |g::l,out,h,hl=>A5g (l:=l) (by
   unfold Hb;exact Axk (hl g (List.mem_cons_self ..)).2 h (by rw[Aut];exact A3a _ _)) fun x hx=>hl x (List.mem_cons_of_mem _ hx)
theorem Bhi{l:List Dg}{s:Sp}(h:Wg l):Wg (Wr l s):=A5g ⟨by simp,by simp⟩ h.1
theorem Apd{α:Type}{gt:α→Bool}{y:α}{p:α→Prop}{l:List α}(h:∃x∈l,p x):∃x∈E8 gt y l,p x:=by
 obtain⟨x,hx,hp⟩:=h;exact⟨x,Gn.2 (.inr hx),hp⟩
theorem Aek{α:Type}{p:α→Prop}{l:List α}{j:Nat}{x y:α}(hj:l[j]?=some x)(hxy:p x→p y)(h:∃z∈l,p z):∃z∈l.set j y,p z:=by
 obtain⟨z,hz,hp⟩:=h;obtain⟨i,hi⟩:=List.getElem?_of_mem hz;by_cases e:j=i
 ·subst e;rw[hj]at hi;cases hi;exact⟨y,List.mem_of_getElem? (i:=j) (by rw[List.getElem?_set_self (List.getElem?_eq_some_iff.1 hj).1]),hxy hp⟩
 ·exact⟨z,List.mem_of_getElem? (i:=i) (by rw[List.getElem?_set_ne e];exact hi),hp⟩
theorem A9n{α:Type}{p:α→Prop}{l:List α}{j:Nat}{x:α}(hj:l[j]?=some x)(hx:¬p x)(h:∃z∈l,p z):∃z∈l.take j++l.drop (j+1),p z:=by
 obtain⟨z,hz,hp⟩:=h;obtain⟨i,hi⟩:=List.getElem?_of_mem hz;refine⟨z,?_,hp⟩;rcases Nat.lt_trichotomy i j with h|h|h
 ·exact List.mem_append_left _ (List.mem_of_getElem? (i:=i) (by rw[List.getElem?_take,if_pos h];exact hi))
 ·subst h;rw[hj]at hi;cases hi;exact absurd hp hx
 ·exact List.mem_append_right _ (List.mem_of_getElem? (i:=i - (j+1)) (by rw[List.getElem?_drop,show j+1+(i - (j+1))=i by omega];exact hi))
theorem Afb{α:Type}{l:List α}{j:Nat}{x:α}(h:x∈l.take j++l.drop (j+1)):x∈l:=by
 rcases List.mem_append.1 h with h|h
 ·exact List.mem_of_mem_take h
 ·exact List.mem_of_mem_drop h
theorem Ba6:D2 []=false:=by decide
theorem Bh2{r:A8}(h:r.Ok)(c:Ds):(doM r c).1.Ok:=by
 obtain⟨tn,un,xn,ur,ut,uo,rt⟩:=h;have h0:r.Ok:=⟨tn,un,xn,ur,ut,uo,rt⟩;have nn:∀{α:Type} {nm:α→Ai} {l:List α} {n:Ai},findAt (fun t=>decide (nm t=n)) 0 l<0→∀x∈l,nm x≠n:=fun h x hx=>by simpa using A4f h x hx
 unfold doM;split
 ·exact h0
 split
 ·exact h0
 split
 ·unfold Mb;repeat' split
  all_goals try exact h0
  rename_i g1 g2 g3 g4 g5;refine⟨fun t ht=>?_,un,fun x hx=>⟨(xn x hx).1,Apd (xn x hx).2.1,(xn x hx).2.2⟩,ur,fun u hu hn=>Apd (ut u hu hn),uo,rt⟩
  rcases Gn.1 ht with rfl|ht
  ·exact⟨by simpa using g1,by simpa using g2,by simpa using g3⟩
  ·exact tn t ht
 split
 ·unfold L8;repeat' split
  all_goals try exact h0
  rename_i g1 g2 hn;obtain⟨x,hx,hp⟩:=Um hn;have hp:x.name=c.name:=of_decide_eq_true hp;have es:∀{n:Ai},(∃t∈r.Be,t.name=n)→∃t∈r.Be.set (r.Hn c.name).toNat ⟨c.name,c.bytes,c.keys⟩,t.name=n:=fun h=>Aek hx (fun e=>by dsimp only;rw[←e,hp]) h
  refine⟨fun t ht=>?_,un,fun x hx=>⟨(xn x hx).1,es (xn x hx).2.1,(xn x hx).2.2⟩,ur,fun u hu hn=>es (ut u hu hn),uo,rt⟩
  rcases Jy ht with rfl|ht
  ·exact⟨by rw[←hp];exact(tn x (List.mem_of_getElem? hx)).1,by simpa using g1,by simpa using g2⟩
  ·exact tn t ht
 split
 ·unfold T7;repeat' split
  all_goals try exact h0
  rename_i g1 g2 g3 g4 g5 g6;have Aw:c.name≠Aqx:=by
   obtain⟨u,hu,hr⟩:=rt;intro e;exact nn (show r.Fa c.name<0 by omega) u hu (by rw[hr,e])
  obtain⟨x,hx,hp⟩:=Um (show ¬r.Hn c.other<0 from g5);have hp:x.name=c.other:=of_decide_eq_true hp;refine⟨tn,fun u hu=>?_,xn,fun u hu hn=>?_,fun u hu hn=>?_,fun u hu=>?_,Apd rt⟩
  ·rcases Gn.1 hu with rfl|hu
   ·exact⟨by simpa using g1,by dsimp only;omega,Tg _ _ _⟩
   ·exact un u hu
  ·rcases Gn.1 hu with rfl|hu
   ·exact absurd hn Aw
   ·exact ur u hu hn
  ·rcases Gn.1 hu with rfl|hu
   ·exact⟨x,List.mem_of_getElem? hx,hp⟩
   ·exact ut u hu hn
  ·rcases Gn.1 hu with rfl|hu
   ·intro n hn;simp at hn
   ·exact uo u hu
 split
 ·unfold Q6;repeat' split
  all_goals try exact h0
  rename_i g1 g2 hn _ u hu;have hm:=List.mem_of_getElem? hu;refine⟨tn,fun v hv=>?_,xn,fun v hv=>?_,fun v hv=>?_,fun v hv=>?_,Aek hu (fun e=>e) rt⟩
  all_goals rcases Jy hv with rfl|hv
  ·exact⟨(un u hm).1,by dsimp only;omega,Tg _ _ _⟩
  ·exact un v hv
  ·exact ur u hm
  ·exact ur v hv
  ·exact ut u hm
  ·exact ut v hv
  ·exact uo u hm
  ·exact uo v hv
 split
 ·unfold L3;repeat' split
  all_goals try exact h0
  rename_i hn Dp;obtain⟨x,hx,hp⟩:=Um hn;have hp:x.name=c.name:=of_decide_eq_true hp;exact⟨tn,fun u hu=>un u (Afb hu),xn,fun u hu=>ur u (Afb hu),fun u hu=>ut u (Afb hu),fun u hu=>uo u (Afb hu),A9n hx (fun e=>Dp (by rw[←hp,e])) rt⟩
 split
 ·unfold Tz;repeat' split
  all_goals try exact h0
  rename_i g1 g2 g3 g4;obtain⟨x,hx,hp⟩:=Um (show ¬r.Hn c.other<0 from g3);have hp:x.name=c.other:=of_decide_eq_true hp;refine⟨tn,un,fun y hy=>?_,ur,ut,fun u hu n hn=>Apd (uo u hu n hn),rt⟩
  rcases Gn.1 hy with rfl|hy
  ·exact⟨by simpa using g1,⟨x,List.mem_of_getElem? hx,hp⟩,by simp[Wg]⟩
  ·exact xn y hy
 split
 ·unfold Qo;repeat' split
  all_goals try exact h0
  rename_i hn;obtain⟨x,hx,hp⟩:=Um hn;have hp:x.name=c.name:=of_decide_eq_true hp;refine⟨tn,fun v hv=>?_,fun y hy=>xn y (Afb hy),fun v hv=>?_,fun v hv=>?_,fun v hv=>?_,?_⟩
  ·obtain⟨u,hu,rfl⟩:=List.mem_map.1 hv;exact un u hu
  ·obtain⟨u,hu,rfl⟩:=List.mem_map.1 hv;intro e;obtain⟨e1,e2⟩:=ur u hu e;exact⟨e1,by simp[T6,e2]⟩
  ·obtain⟨u,hu,rfl⟩:=List.mem_map.1 hv;exact ut u hu
  ·obtain⟨u,hu,rfl⟩:=List.mem_map.1 hv;intro n hn;simp only[T6,List.mem_filter,Bool.not_eq_true',decide_eq_false_iff_not]at hn;exact A9n hx (fun e=>hn.2 (by rw[←e.1,hp])) (uo u hu n hn.1)
  ·obtain⟨u,hu,e⟩:=rt;exact⟨_,List.mem_map_of_mem hu,e⟩
 split
 ·unfold Lx;repeat' split
  all_goals try exact h0
  rename_i g1 hn _ x hx g2 g3;have hm:=List.mem_of_getElem? hx;refine⟨tn,un,fun y hy=>?_,ur,ut,fun u hu n hn=>Aek hx (fun e=>e) (uo u hu n hn),rt⟩
  rcases Jy hy with rfl|hy
  ·refine⟨(xn x hm).1,(xn x hm).2.1,fun g hg=>?_,?_⟩
   ·rcases List.mem_append.1 hg with hg|hg
    ·exact(xn x hm).2.2.1 g hg
    ·simp at hg;subst hg;have g4:(decide (Dk c.Bz.sp)&&(c.Bz.r||c.Bz.w))=true:=by
      revert g1;cases (decide (Dk c.Bz.sp)&&(c.Bz.r||c.Bz.w))<;>simp
     rw[Bool.and_eq_true]at g4;exact⟨of_decide_eq_true g4.1,g4.2⟩
   ·dsimp only;rw[List.nodup_append];refine⟨(xn x hm).2.2.2,by simp,fun a ha b hb=>?_⟩
    simp at hb;subst hb;intro e;exact g2 (List.any_eq_true.2 ⟨a,ha,by simpa using e⟩)
  ·exact xn y hy
 split
 ·unfold Hu;repeat' split
  all_goals try exact h0
  rename_i g1 hn _ x hx g2;have hm:=List.mem_of_getElem? hx;refine⟨tn,un,fun y hy=>?_,ur,ut,fun u hu n hn=>Aek hx (fun e=>e) (uo u hu n hn),rt⟩
  rcases Jy hy with rfl|hy
  ·exact⟨(xn x hm).1,(xn x hm).2.1,Bhi (xn x hm).2.2⟩
  ·exact xn y hy
 ·unfold Jv;repeat' split
  all_goals try exact h0
  ·rename_i u hu _ _;have hm:=List.mem_of_getElem? hu;refine⟨tn,fun v hv=>?_,xn,fun v hv=>?_,fun v hv=>?_,fun v hv=>?_,Aek hu (fun e=>e) rt⟩
   all_goals rcases Jy hv with rfl|hv
   ·exact un u hm
   ·exact un v hv
   ·intro e;obtain⟨e1,e2⟩:=ur u hm e;exact⟨e1,by simp[e2]⟩
   ·exact ur v hv
   ·exact ut u hm
   ·exact ut v hv
   ·intro n hn;exact uo u hm n (List.mem_filter.1 hn).1
   ·exact uo v hv
  ·rename_i u hu _ hxn _ x hx ht ha hl;have hm:=List.mem_of_getElem? hu;have ht:x.Du=u.Du:=by simpa using ht
   have hxm:=List.mem_of_getElem? hx;have hxo:x.name=c.other:=by
    obtain⟨y,hy,hp⟩:=Um hxn;rw[hx]at hy;cases hy;exact of_decide_eq_true hp
   refine⟨tn,fun v hv=>?_,xn,fun v hv=>?_,fun v hv=>?_,fun v hv=>?_,Aek hu (fun e=>e) rt⟩
   all_goals rcases Jy hv with rfl|hv
   ·exact un u hm
   ·exact un v hv
   ·intro e;obtain⟨e1,e2⟩:=ur u hm e;obtain⟨t,htm,htn⟩:=(xn x hxm).2.1;have:=(tn t htm).1;rw[htn,ht,e1,Ba6]at this;cases this
   ·exact ur v hv
   ·exact ut u hm
   ·exact ut v hv
   ·intro n hn;rcases Gn.1 hn with rfl|hn
    ·exact⟨x,hxm,hxo,ht⟩
    ·exact uo u hm n hn
   ·exact uo v hv
set_option maxHeartbeats 40000000

open Go.Proofs
theorem Bbi(a b:Ai):a<b∨a=b∨b<a:=by
 by_cases h:a<b
 ·exact .inl h
 ·by_cases h2:b<a
  ·exact .inr (.inr h2)
  ·exact .inr (.inl (List.le_antisymm (List.not_lt.1 h2) (List.not_lt.1 h)))
def Eu(l:List Ai)(i:Nat):Prop:=∀x,l[i]?=some x→D2 x=true∧∀y,0<i→l[i - 1]?=some y→y<x
def J3(l:List Ai):Prop:=∀i,Eu l i
theorem Kj(l:List Ai)(hl:l.length≤1000000)(b:Bool)(hB:b=true↔J3 l):Fn Tryz.prog Avn [.v (.list (strs l))] (Is (.v (.bool b)) [.no]):=by
 refine Asv ?_ (by simp)
 repeat'((conv=>whnf);first|(refine eI ?_ ?_;focus (and_intros<;>exact rfl))|(intro Aa))
 all_goals(try(conv=>whnf))
 refine Bq.by (X:=Nat) (fun k=>[(7,.v (.int .i64 k))]) (fun k=>k≤l.length∧∀i<k,Eu l i) (fun k=>l.length - k)
  0 (by kernel_rfl) ⟨Nat.zero_le _,by intro i hi;omega⟩ ?_
 rintro k ⟨hk,hA⟩;have bad:¬Eu l k→b=false:=fun h=>by
  cases b with
  |false=>rfl
  |true=>exact absurd (hB.1 rfl k) h
 by_cases Ce:k<l.length
 ·obtain⟨e,he⟩:∃e,l[k]?=some e:=⟨_,List.getElem?_eq_getElem Ce⟩;have Bb:¬decide ((k:Int)<((strs l).length:Int))=false:=by simp[Ce]
  have nm:=X0 e;have Mh:Eu l k→∀i<k+1,Eu l i:=fun h i hi=>by
   rcases Nat.lt_succ_iff_lt_or_eq.1 hi with h'|rfl
   ·exact hA i h'
   ·exact h
  cases hn:D2 e with
  |false=>
   rw[hn]at nm;obtain rfl:=bad fun h=>by rw[(h e he).1]at hn;cases hn
   repeat'((conv=>whnf);first|(apply aI<;>intro hb<;>first|exact absurd hb (by first|assumption|decide)|((try rw[hb]);(try simp only[Ad]at hb)))|(refine eI ?_ ?_;focus (and_intros<;>first|omega|exact rfl|(intro _ hh;cases hh;done)|(simp;done)|decide))|((try dsimp only);first|rw[Av he]|rw[An he]|rw[Ap he])|(refine Ac.mk ⟨_,nm,?_⟩;rintro _ _ ⟨rfl,rfl⟩))
   all_goals(try(conv=>whnf))
   all_goals first|contradiction|(apply dK<;>kernel_rfl)
  |true=>
   rw[hn]at nm;by_cases h0:k=0
   ·have h1:=Mh fun x hx=>by rw[he]at hx;cases hx;exact⟨hn,fun y hy=>by omega⟩
    subst h0;repeat'((conv=>whnf);first|(apply aI<;>intro hb<;>first|exact absurd hb (by first|assumption|decide)|((try rw[hb]);(try simp only[Ad]at hb)))|(refine eI ?_ ?_;focus (and_intros<;>first|omega|exact rfl|(intro _ hh;cases hh;done)|(simp;done)|decide))|((try dsimp only);first|rw[Av he]|rw[An he]|rw[Ap he])|(refine Ac.mk ⟨_,nm,?_⟩;rintro _ _ ⟨rfl,rfl⟩))
    all_goals(try(conv=>whnf))
    all_goals first|contradiction|skip
    refine Round.by 1 ?_ ⟨Ce,h1⟩ (by omega)
    show norm _ _=Bt _ _
    kernel_rfl
   ·obtain⟨y,hy⟩:∃y,l[k - 1]?=some y:=⟨_,List.getElem?_eq_getElem (by omega)⟩
    have hw:IntKind.i64.wrap ((k:Int) - 1)=((k - 1:Nat):Int):=by rw[Cf (by omega)];omega
    by_cases hle:y<e
    ·have h1:=Mh fun x hx=>by
      rw[he]at hx;cases hx;exact⟨hn,fun z _ hz=>by rw[hy]at hz;cases hz;exact hle⟩
     have hq:¬(decide (e<y)||decide (e=y))=true:=by
      simp only[Bool.or_eq_true,decide_eq_true_eq];rintro(h|h)
      ·exact List.lt_irrefl _ (List.lt_trans h hle)
      ·rw[h]at hle;exact List.lt_irrefl _ hle
     repeat'((conv=>whnf);first|(apply aI<;>intro hb<;>first|exact absurd hb (by first|assumption|decide)|(exfalso;simp only[Az]at hb<;>omega)|((try rw[hb]);(try simp only[Ad]at hb)))|(refine eI ?_ ?_;focus (and_intros<;>first|omega|exact rfl|(intro _ hh;cases hh;done)|(simp;done)|decide))|((try dsimp only);first|rw[Av he]|rw[An he]|rw[Ap he])|(refine Ac.mk ⟨_,nm,?_⟩;rintro _ _ ⟨rfl,rfl⟩)|((try dsimp only);rw[hw])|((try dsimp only);first|rw[Av hy]|rw[An hy]|rw[Ap hy]))
     all_goals(try(conv=>whnf))
     all_goals first|contradiction|skip
     refine Round.by (k+1) ?_ ⟨Ce,h1⟩ (by omega)
     rw[Ak (n:=l.length) Ce (by simp only[maxLen];omega)]
     show norm _ _=Bt _ _
     kernel_rfl
    ·obtain rfl:=bad fun h=>hle ((h e he).2 y (by omega) hy)
     have hq:¬(decide (e<y)||decide (e=y))=false:=by
      simp only[Bool.or_eq_false_iff,decide_eq_false_iff_not,not_and];rcases Bbi y e with h|h|h
      ·exact absurd h hle
      ·exact fun _ h'=>h' h.symm
      ·exact fun h'=>absurd h h'
     repeat'((conv=>whnf);first|(apply aI<;>intro hb<;>first|exact absurd hb (by first|assumption|decide)|(exfalso;simp only[Az]at hb<;>omega)|((try rw[hb]);(try simp only[Ad]at hb)))|(refine eI ?_ ?_;focus (and_intros<;>first|omega|exact rfl|(intro _ hh;cases hh;done)|(simp;done)|decide))|((try dsimp only);first|rw[Av he]|rw[An he]|rw[Ap he])|(refine Ac.mk ⟨_,nm,?_⟩;rintro _ _ ⟨rfl,rfl⟩)|((try dsimp only);rw[hw])|((try dsimp only);first|rw[Av hy]|rw[An hy]|rw[Ap hy]))
     all_goals(try(conv=>whnf))
     all_goals first|contradiction|(apply dK<;>kernel_rfl)
 ·have Bb:¬decide ((k:Int)<((strs l).length:Int))=true:=by simp;omega
  obtain rfl:b=true:=hB.2 fun i x hx=>by
   have:=(List.getElem?_eq_some_iff.1 hx).1;exact hA i (by omega) x hx
  repeat'((conv=>whnf);(apply aI<;>intro hb<;>first|exact absurd hb (by assumption)|((try rw[hb]);(try simp only[Ad]at hb))))
  all_goals(try(conv=>whnf))
  (apply dK<;>kernel_rfl)

open Go.Proofs
theorem Awj(l:List B7)(hl:l.length≤1000000):Fn Tryz.prog Aab [.v (.list (l.map B7.Ae)),.v (.fn He)] (Is (.v (.list (strs (l.map B7.name)))) [.no,.no]):=by
 refine Zr ?_ (by simp)
 repeat'((conv=>whnf);first|(refine eI ?_ ?_;focus (and_intros<;>exact rfl))|(intro Aa))
 all_goals(try(conv=>whnf))
 refine Bq.by (X:=Nat × List I) (fun x=>[(5,.vec Em 1 x.2),(10,.v (.int .i64 x.1))]) (fun x=>x.1≤l.length∧x.2=strs ((l.take x.1).map B7.name)∧x.2.length=x.1) (fun x=>l.length - x.1)
  (0,[]) (by kernel_rfl) ⟨Nat.zero_le _,rfl,rfl⟩ ?_
 rintro⟨k,o⟩ ⟨hk,ho,Jx⟩;dsimp only at hk ho Jx ⊢;by_cases Ce:k<l.length
 ·obtain⟨e,he⟩:∃e,l[k]?=some e:=⟨_,List.getElem?_eq_getElem Ce⟩;have Bb:¬decide ((k:Int)<((l.map B7.Ae).length:Int))=false:=by simp[Ce]
  have hs:strs ((l.take (k+1)).map B7.name)=o++[I.str e.name]:=by rw[ho];simp[List.take_add_one,he]
  have nm:=Nw e;have hm:(1:Nat)≤maxLen:=by simp only[maxLen];omega
  have Ay8:o.length+1≤1000001:=by omega
  repeat'((conv=>whnf);first|(apply aI<;>intro hb<;>first|exact absurd hb (by assumption)|((try rw[hb]);(try simp only[Ad]at hb)))|(refine eI ?_ ?_;focus (and_intros<;>first|omega|exact rfl|(intro _ hh;cases hh;done)|exact B8 (by rfl)|(simp only[Az];omega)|(simp;done)|decide))|((try dsimp only);first|rw[Av he]|rw[An he]|rw[Ap he])|(refine Ac.mk ⟨_,nm,?_⟩;rintro _ _ ⟨rfl,rfl⟩))
  all_goals(try(conv=>whnf))
  all_goals first|contradiction|skip
  refine Round.by (k+1,o++[I.str e.name]) ?_ ⟨Ce,hs.symm,by simp[Jx]⟩ (by dsimp only;omega)
  rw[Ak (n:=l.length) Ce (by simp only[maxLen];omega)]
  show norm _ _=Bt _ _
  kernel_rfl
 ·have Bb:¬decide ((k:Int)<((l.map B7.Ae).length:Int))=true:=by simp;omega
  obtain rfl:k=l.length:=by omega
  rw[List.take_length]at ho;subst ho;repeat'((conv=>whnf);first|(apply aI<;>intro hb<;>first|exact absurd hb (by assumption)|((try rw[hb]);(try simp only[Ad]at hb)))|(refine eI ?_ ?_;focus (and_intros<;>first|omega|exact rfl|(simp;done))))
  all_goals(try(conv=>whnf))
  (apply dK<;>kernel_rfl)
theorem Awk(l:List Bc)(hl:l.length≤1000000):Fn Tryz.prog Aee [.v (.list (l.map Bc.Ae)),.v (.fn Js)] (Is (.v (.list (strs (l.map Bc.name)))) [.no,.no]):=by
 refine Adq ?_ (by simp)
 repeat'((conv=>whnf);first|(refine eI ?_ ?_;focus (and_intros<;>exact rfl))|(intro Aa))
 all_goals(try(conv=>whnf))
 refine Bq.by (X:=Nat × List I) (fun x=>[(5,.vec Em 1 x.2),(10,.v (.int .i64 x.1))]) (fun x=>x.1≤l.length∧x.2=strs ((l.take x.1).map Bc.name)∧x.2.length=x.1) (fun x=>l.length - x.1)
  (0,[]) (by kernel_rfl) ⟨Nat.zero_le _,rfl,rfl⟩ ?_
 rintro⟨k,o⟩ ⟨hk,ho,Jx⟩;dsimp only at hk ho Jx ⊢;by_cases Ce:k<l.length
 ·obtain⟨e,he⟩:∃e,l[k]?=some e:=⟨_,List.getElem?_eq_getElem Ce⟩;have Bb:¬decide ((k:Int)<((l.map Bc.Ae).length:Int))=false:=by simp[Ce]
  have hs:strs ((l.take (k+1)).map Bc.name)=o++[I.str e.name]:=by rw[ho];simp[List.take_add_one,he]
  have nm:=R8 e;have hm:(1:Nat)≤maxLen:=by simp only[maxLen];omega
  have Ay8:o.length+1≤1000001:=by omega
  repeat'((conv=>whnf);first|(apply aI<;>intro hb<;>first|exact absurd hb (by assumption)|((try rw[hb]);(try simp only[Ad]at hb)))|(refine eI ?_ ?_;focus (and_intros<;>first|omega|exact rfl|(intro _ hh;cases hh;done)|exact B8 (by rfl)|(simp only[Az];omega)|(simp;done)|decide))|((try dsimp only);first|rw[Av he]|rw[An he]|rw[Ap he])|(refine Ac.mk ⟨_,nm,?_⟩;rintro _ _ ⟨rfl,rfl⟩))
  all_goals(try(conv=>whnf))
  all_goals first|contradiction|skip
  refine Round.by (k+1,o++[I.str e.name]) ?_ ⟨Ce,hs.symm,by simp[Jx]⟩ (by dsimp only;omega)
  rw[Ak (n:=l.length) Ce (by simp only[maxLen];omega)]
  show norm _ _=Bt _ _
  kernel_rfl
 ·have Bb:¬decide ((k:Int)<((l.map Bc.Ae).length:Int))=true:=by simp;omega
  obtain rfl:k=l.length:=by omega
  rw[List.take_length]at ho;subst ho;repeat'((conv=>whnf);first|(apply aI<;>intro hb<;>first|exact absurd hb (by assumption)|((try rw[hb]);(try simp only[Ad]at hb)))|(refine eI ?_ ?_;focus (and_intros<;>first|omega|exact rfl|(simp;done))))
  all_goals(try(conv=>whnf))
  (apply dK<;>kernel_rfl)
theorem Awi(l:List Bh)(hl:l.length≤1000000):Fn Tryz.prog Aed [.v (.list (l.map Bh.Ae)),.v (.fn Jr)] (Is (.v (.list (strs (l.map Bh.name)))) [.no,.no]):=by
 refine Adp ?_ (by simp)
 repeat'((conv=>whnf);first|(refine eI ?_ ?_;focus (and_intros<;>exact rfl))|(intro Aa))
 all_goals(try(conv=>whnf))
 refine Bq.by (X:=Nat × List I) (fun x=>[(5,.vec Em 1 x.2),(10,.v (.int .i64 x.1))]) (fun x=>x.1≤l.length∧x.2=strs ((l.take x.1).map Bh.name)∧x.2.length=x.1) (fun x=>l.length - x.1)
  (0,[]) (by kernel_rfl) ⟨Nat.zero_le _,rfl,rfl⟩ ?_
 rintro⟨k,o⟩ ⟨hk,ho,Jx⟩;dsimp only at hk ho Jx ⊢;by_cases Ce:k<l.length
 ·obtain⟨e,he⟩:∃e,l[k]?=some e:=⟨_,List.getElem?_eq_getElem Ce⟩;have Bb:¬decide ((k:Int)<((l.map Bh.Ae).length:Int))=false:=by simp[Ce]
  have hs:strs ((l.take (k+1)).map Bh.name)=o++[I.str e.name]:=by rw[ho];simp[List.take_add_one,he]
  have nm:=R7 e;have hm:(1:Nat)≤maxLen:=by simp only[maxLen];omega
  have Ay8:o.length+1≤1000001:=by omega
  repeat'((conv=>whnf);first|(apply aI<;>intro hb<;>first|exact absurd hb (by assumption)|((try rw[hb]);(try simp only[Ad]at hb)))|(refine eI ?_ ?_;focus (and_intros<;>first|omega|exact rfl|(intro _ hh;cases hh;done)|exact B8 (by rfl)|(simp only[Az];omega)|(simp;done)|decide))|((try dsimp only);first|rw[Av he]|rw[An he]|rw[Ap he])|(refine Ac.mk ⟨_,nm,?_⟩;rintro _ _ ⟨rfl,rfl⟩))
  all_goals(try(conv=>whnf))
  all_goals first|contradiction|skip
  refine Round.by (k+1,o++[I.str e.name]) ?_ ⟨Ce,hs.symm,by simp[Jx]⟩ (by dsimp only;omega)
  rw[Ak (n:=l.length) Ce (by simp only[maxLen];omega)]
  show norm _ _=Bt _ _
  kernel_rfl
 ·have Bb:¬decide ((k:Int)<((l.map Bh.Ae).length:Int))=true:=by simp;omega
  obtain rfl:k=l.length:=by omega
  rw[List.take_length]at ho;subst ho;repeat'((conv=>whnf);first|(apply aI<;>intro hb<;>first|exact absurd hb (by assumption)|((try rw[hb]);(try simp only[Ad]at hb)))|(refine eI ?_ ?_;focus (and_intros<;>first|omega|exact rfl|(simp;done))))
  all_goals(try(conv=>whnf))
  (apply dK<;>kernel_rfl)

open Go.Proofs
def Lt(l:List Dg)(i:Nat):Prop:=∀x,l[i]?=some x→(Dk x.sp∧(x.r||x.w)=true)∧x ∉ l.take i
theorem Zz(l:List Dg)(hl:l.length≤1000000)(b:Bool)(hB:b=true↔l.length≤8∧∀i,Lt l i):Fn Tryz.prog Aiv [.v (.list (l.map Dg.Ae))] (Is (.v (.bool b)) [.no]):=by
 refine Ait ?_ (by simp)
 by_cases h8:l.length≤8
 case neg=>
  obtain rfl:b=false:=by
   cases b with
   |false=>rfl
   |true=>exact absurd (hB.1 rfl).1 h8
  repeat'((conv=>whnf);first|(apply aI<;>intro hb<;>first|(exfalso;simp only[Az]at hb<;>omega)|((try rw[hb]);(try simp only[Ad]at hb)))|(refine eI ?_ ?_;focus (and_intros<;>exact rfl))|(intro Aa))
  all_goals(try(conv=>whnf))
  all_goals first|(exfalso;simp at hb;omega)|(apply dK<;>kernel_rfl)
 repeat'((conv=>whnf);first|(apply aI<;>intro hb<;>first|(exfalso;simp only[Az]at hb<;>omega)|((try rw[hb]);(try simp only[Ad]at hb)))|(refine eI ?_ ?_;focus (and_intros<;>exact rfl))|(intro Aa))
 all_goals(try(conv=>whnf))
 all_goals first|(exfalso;simp at hb;omega)|skip
 refine Bq.by (X:=Nat) (fun k=>[(10,.v (.int .i64 k))]) (fun k=>k≤l.length∧∀i<k,Lt l i) (fun k=>l.length - k)
  0 (by kernel_rfl) ⟨Nat.zero_le _,by intro i hi;omega⟩ ?_
 rintro k ⟨hk,hA⟩;have bad:¬Lt l k→b=false:=fun h=>by
  cases b with
  |false=>rfl
  |true=>exact absurd ((hB.1 rfl).2 k) h
 by_cases Ce:k<l.length
 ·obtain⟨e,he⟩:∃e,l[k]?=some e:=⟨_,List.getElem?_eq_getElem Ce⟩;have Bb:¬decide ((k:Int)<((l.map Dg.Ae).length:Int))=false:=by simp[Ce]
  have rg:=Ab5 e;have cg:=Q2 (l.take k) e (by rw[List.length_take];omega)
  rw[List.map_take]at cg;have Mh:Lt l k→∀i<k+1,Lt l i:=fun h i hi=>by
   rcases Nat.lt_succ_iff_lt_or_eq.1 hi with h'|rfl
   ·exact hA i h'
   ·exact h
  cases hn:(decide (Dk e.sp)&&(e.r||e.w))with
  |false=>
   rw[hn]at rg;obtain rfl:=bad fun h=>by
    have:=(h e he).1;rw[this.2,decide_eq_true this.1]at hn;cases hn
   repeat'((conv=>whnf);first|(apply aI<;>intro hb<;>first|exact absurd hb (by first|assumption|decide)|((try rw[hb]);(try simp only[Ad]at hb)))|(refine eI ?_ ?_;focus (and_intros<;>first|omega|exact rfl|(intro _ hh;cases hh;done)|(simp;done)|decide))|((with_reducible apply A5.B5);(focus kernel_rfl);intro Aa;(try simp only[dRS]at Aa))|((try dsimp only);first|rw[Av he]|rw[An he]|rw[Ap he])|(refine Aj.mk ⟨_,_,rg,?_⟩))
   all_goals(try(conv=>whnf))
   all_goals first|contradiction|(apply dK<;>kernel_rfl)
  |true=>
   rw[hn]at rg;simp only[Bool.and_eq_true,decide_eq_true_eq]at hn;cases hc:(l.take k).any (fun x=>decide (x=e))with
   |true=>
    rw[hc]at cg;obtain rfl:=bad fun h=>by
     obtain⟨x,hx,hxe⟩:=List.any_eq_true.1 hc;have:=of_decide_eq_true hxe;subst this;exact(h x he).2 hx
    repeat'((conv=>whnf);first|(apply aI<;>intro hb<;>first|exact absurd hb (by first|assumption|decide)|((try rw[hb]);(try simp only[Ad]at hb)))|(refine eI ?_ ?_;focus (and_intros<;>first|omega|exact rfl|(intro _ hh;cases hh;done)|exact size_map (fun _=>rfl)|(simp only[Az];omega)|(simp;done)|decide))|((with_reducible apply A5.B5);(focus kernel_rfl);intro Aa;(try simp only[dRS]at Aa))|((try dsimp only);first|rw[Av he]|rw[An he]|rw[Ap he])|(refine Aj.mk ⟨_,_,rg,?_⟩)|(refine Aj.mk ⟨_,_,cg,?_⟩)|((simp only[List.headD,Int.toNat_natCast,List.drop_zero])))
    all_goals(try(conv=>whnf))
    all_goals first|contradiction|(apply dK<;>kernel_rfl)
   |false=>
    rw[hc]at cg;have h1:=Mh fun x hx=>by
     rw[he]at hx;cases hx;refine⟨hn,fun hm=>?_⟩
     have:=List.any_eq_false.1 hc e hm;simp at this
    repeat'((conv=>whnf);first|(apply aI<;>intro hb<;>first|exact absurd hb (by first|assumption|decide)|((try rw[hb]);(try simp only[Ad]at hb)))|(refine eI ?_ ?_;focus (and_intros<;>first|omega|exact rfl|(intro _ hh;cases hh;done)|exact size_map (fun _=>rfl)|(simp only[Az];omega)|(simp;done)|decide))|((with_reducible apply A5.B5);(focus kernel_rfl);intro Aa;(try simp only[dRS]at Aa))|((try dsimp only);first|rw[Av he]|rw[An he]|rw[Ap he])|(refine Aj.mk ⟨_,_,rg,?_⟩)|(refine Aj.mk ⟨_,_,cg,?_⟩)|((simp only[List.headD,Int.toNat_natCast,List.drop_zero])))
    all_goals(try(conv=>whnf))
    all_goals first|contradiction|skip
    refine Round.by (k+1) ?_ ⟨Ce,h1⟩ (by omega)
    rw[Ak (n:=l.length) Ce (by simp only[maxLen];omega)]
    show norm _ _=Bt _ _
    kernel_rfl
 ·have Bb:¬decide ((k:Int)<((l.map Dg.Ae).length:Int))=true:=by simp;omega
  obtain rfl:b=true:=hB.2 ⟨h8,fun i x hx=>by
   have:=(List.getElem?_eq_some_iff.1 hx).1;exact hA i (by omega) x hx⟩
  repeat'((conv=>whnf);(apply aI<;>intro hb<;>first|exact absurd hb (by assumption)|((try rw[hb]);(try simp only[Ad]at hb))))
  all_goals(try(conv=>whnf))
  (apply dK<;>kernel_rfl)
end Go.Ab
