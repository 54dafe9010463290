/- Lemmas -/
import Derived.Test.YtgcccllpegilnaaGreatDoorAb19c
import Derived.Shelf.Unicode.DecodeAny
set_option linter.unusedVariables false
set_option linter.unusedSimpArgs false
namespace Go.Ab
mutual
def Frz:D→D→Prop
 |d,.it y=>d.toI=some y
 | .st l,.st l'=>Frzs l l'
 | .vec e sz l,.vec e' sz' l'=>e=e'∧sz=sz'∧Frzs l l'
 | .ptr d,.ptr d'=>Frz d d'
 |_,_=>False
def Frzs:List D→List D→Prop
 | [],[]=>True
 |d::l,d'::l'=>Frz d d'∧Frzs l l'
 |_,_=>False
end
theorem Anu {α:Type} {f g:α→D} (h:∀x,Frz (f x) (g x)):∀l:List α,Frzs (l.map f) (l.map g)
 | []=>by simp[Frzs]
 |a::l=>by simp only[List.map_cons,Frzs];exact⟨h a,Anu h l⟩
theorem Yw:∀l:List I,Frzs (l.map D.it) (l.map D.it)
 | []=>by simp[Frzs]
 |a::l=>by simp only[List.map_cons,Frzs,Frz,D.toI,true_and];exact Yw l
theorem Ant:∀{l l':List D},Frzs l l'→l'.length=l.length
 | [],[],_=>rfl
 |d::l,d'::l',h=>by simp only[Frzs]at h;simp[Ant h.2]
 | [],_::_,h=>by simp[Frzs]at h
 |_::_,[],h=>by simp[Frzs]at h
mutual
theorem frz_shape:∀{d d':D},Frz d d'→d'.size=d.size∧d'.isAgg=d.isAgg
 |d,.it y,h=>by simp only[Frz]at h;exact toI_shape h
 | .st l,.st l',h=>by simp only[Frz]at h;exact⟨frzs_shape h,rfl⟩
 | .vec e sz l,.vec e' sz' l',h=>⟨rfl,rfl⟩
 | .ptr d,.ptr d',h=>⟨rfl,rfl⟩
 | .it _,.st _,h=>by simp[Frz]at h
 | .it _,.vec _ _ _,h=>by simp[Frz]at h
 | .it _,.ptr _,h=>by simp[Frz]at h
 | .it _,.map _ _,h=>by simp[Frz]at h
 | .st _,.vec _ _ _,h=>by simp[Frz]at h
 | .st _,.ptr _,h=>by simp[Frz]at h
 | .st _,.map _ _,h=>by simp[Frz]at h
 | .vec _ _ _,.st _,h=>by simp[Frz]at h
 | .vec _ _ _,.ptr _,h=>by simp[Frz]at h
 | .vec _ _ _,.map _ _,h=>by simp[Frz]at h
 | .ptr _,.st _,h=>by simp[Frz]at h
 | .ptr _,.vec _ _ _,h=>by simp[Frz]at h
 | .ptr _,.map _ _,h=>by simp[Frz]at h
 | .map _ _,.st _,h=>by simp[Frz]at h
 | .map _ _,.vec _ _ _,h=>by simp[Frz]at h
 | .map _ _,.ptr _,h=>by simp[Frz]at h
 | .map _ _,.map _ _,h=>by simp[Frz]at h
theorem frzs_shape:∀{l l':List D},Frzs l l'→dsizes l'=dsizes l
 | [],[],_=>rfl
 |d::l,d'::l',h=>by simp only[Frzs]at h;simp[dsizes,(frz_shape h.1).1,frzs_shape h.2]
 | [],_::_,h=>by simp[Frzs]at h
 |_::_,[],h=>by simp[Frzs]at h
end
theorem At0 {sz:Nat}:∀{l l':List D},Frzs l l'→(∀x∈l,x.size=sz)→∀x∈l',x.size=sz
 | [],[],_,_=>by simp
 |d::l,d'::l',h,hs=>by
  simp only[Frzs]at h
  intro x hx
  rcases List.mem_cons.1 hx with rfl|hx
  ·rw[(frz_shape h.1).1];exact hs d (List.mem_cons_self ..)
  ·exact At0 h.2 (fun y hy=>hs y (List.mem_cons_of_mem _ hy)) x hx
 | [],_::_,h,_=>by simp[Frzs]at h
 |_::_,[],h,_=>by simp[Frzs]at h
mutual
theorem Frz.rep {G:Mem} {w:World}:∀{d d':D} {cs:List Value} {bs:List Nat},Frz d d'→RepD G w d cs bs→bs.Nodup→
 ∃bs':List Nat,bs'.Sublist bs∧∀G':Mem,G.le G'→(∀b∈bs,b ∉ bs'→G' b=w.heap[b]?)→RepD G' w d' cs bs'
 |d,.it y,cs,bs,h,hr,hn=>by
  simp only[Frz]at h
  refine⟨[],by simp,fun G' hG hb=>?_⟩
  simp only[RepD]
  exact⟨RepD.toI hG hr h fun b hb1=>hb b hb1 (by simp),trivial⟩
 | .st l,.st l',cs,bs,h,hr,hn=>by
   simp only[Frz]at h
   simp only[RepD]at hr
   obtain⟨bs',h1,h2⟩:=Frzs.rep h hr hn
   exact⟨bs',h1,fun G' hG hb=>by simp only[RepD];exact h2 G' hG hb⟩
 | .vec e sz l,.vec e' sz' l',cs,bs,h,hr,hn=>by
   simp only[Frz]at h
   obtain⟨rfl,rfl,h⟩:=h
   simp only[RepD]at hr
   rcases hr with⟨rfl,rfl,rfl⟩|⟨g,off,cap,cur,xs,b0,rfl,h1,h1',h2,h3,h4,h5,h6,h7,rfl⟩
   ·have:l'=[]:=by have:=Ant h;simpa using this
    subst this
    exact⟨[],by simp,fun G' hG hb=>by simp[RepD]⟩
   ·obtain⟨bs',k1,k2⟩:=Frzs.rep h h6 (List.nodup_cons.1 hn).2
    have hlen:=Ant h
    refine⟨g::bs',by simpa using k1,fun G' hG hb=>?_⟩
    simp only[RepD]
    refine .inr ⟨g,off,cap,cur,xs,bs',by rw[hlen],h1,h1',by omega,h3,h4,by rw[hlen];exact h5,k2 G' hG fun b hb1 hb2=>?_,At0 h h7,rfl⟩
    refine hb b (by simp[hb1]) fun hb3=>?_
    rcases List.mem_cons.1 hb3 with rfl|hb3
    ·exact(List.nodup_cons.1 hn).1 hb1
    ·exact hb2 hb3
 | .ptr d,.ptr d',cs,bs,h,hr,hn=>by
   simp only[Frz]at h
   simp only[RepD]at hr
   obtain⟨g,cells,ty,b0,rfl,h1,h2,rfl⟩:=hr
   obtain⟨bs',k1,k2⟩:=Frz.rep h h2 (List.nodup_cons.1 hn).2
   refine⟨g::bs',by simpa using k1,fun G' hG hb=>?_⟩
   simp only[RepD]
   refine⟨g,cells,ty,bs',rfl,h1,k2 G' hG fun b hb1 hb2=>?_,rfl⟩
   refine hb b (by simp[hb1]) fun hb3=>?_
   rcases List.mem_cons.1 hb3 with rfl|hb3
   ·exact(List.nodup_cons.1 hn).1 hb1
   ·exact hb2 hb3
 | .it _,.st _,_,_,h,_,_=>by simp[Frz]at h
 | .it _,.vec _ _ _,_,_,h,_,_=>by simp[Frz]at h
 | .it _,.ptr _,_,_,h,_,_=>by simp[Frz]at h
 | .it _,.map _ _,_,_,h,_,_=>by simp[Frz]at h
 | .st _,.vec _ _ _,_,_,h,_,_=>by simp[Frz]at h
 | .st _,.ptr _,_,_,h,_,_=>by simp[Frz]at h
 | .st _,.map _ _,_,_,h,_,_=>by simp[Frz]at h
 | .vec _ _ _,.st _,_,_,h,_,_=>by simp[Frz]at h
 | .vec _ _ _,.ptr _,_,_,h,_,_=>by simp[Frz]at h
 | .vec _ _ _,.map _ _,_,_,h,_,_=>by simp[Frz]at h
 | .ptr _,.st _,_,_,h,_,_=>by simp[Frz]at h
 | .ptr _,.vec _ _ _,_,_,h,_,_=>by simp[Frz]at h
 | .ptr _,.map _ _,_,_,h,_,_=>by simp[Frz]at h
 | .map _ _,.st _,_,_,h,_,_=>by simp[Frz]at h
 | .map _ _,.vec _ _ _,_,_,h,_,_=>by simp[Frz]at h
 | .map _ _,.ptr _,_,_,h,_,_=>by simp[Frz]at h
 | .map _ _,.map _ _,_,_,h,_,_=>by simp[Frz]at h
theorem Frzs.rep {G:Mem} {w:World}:∀{l l':List D} {cs:List Value} {bs:List Nat},Frzs l l'→RepDs G w l cs bs→bs.Nodup→
 ∃bs':List Nat,bs'.Sublist bs∧∀G':Mem,G.le G'→(∀b∈bs,b ∉ bs'→G' b=w.heap[b]?)→RepDs G' w l' cs bs'
 | [],[],cs,bs,_,hr,_=>by
   simp only[RepDs]at hr
   obtain⟨rfl,rfl⟩:=hr
   exact⟨[],by simp,fun G' hG hb=>by simp[RepDs]⟩
 |d::l,d'::l',cs,bs,h,hr,hn=>by
  simp only[Frzs]at h
  simp only[RepDs]at hr
  obtain⟨c,c',b,b',rfl,rfl,h1,h2⟩:=hr
  rw[List.nodup_append]at hn
  obtain⟨n1,n2,n3⟩:=hn
  obtain⟨bs1,k1,k2⟩:=Frz.rep h.1 h1 n1
  obtain⟨bs2,k3,k4⟩:=Frzs.rep h.2 h2 n2
  refine⟨bs1++bs2,List.Sublist.append k1 k3,fun G' hG hb=>?_⟩
  simp only[RepDs]
  refine⟨c,c',bs1,bs2,rfl,rfl,k2 G' hG fun x hx1 hx2=>?_,k4 G' hG fun x hx1 hx2=>?_⟩
  ·refine hb x (by simp[hx1]) fun hx3=>?_
   rcases List.mem_append.1 hx3 with hx3|hx3
   ·exact hx2 hx3
   ·exact n3 x hx1 x (k3.subset hx3) rfl
  ·refine hb x (by simp[hx1]) fun hx3=>?_
   rcases List.mem_append.1 hx3 with hx3|hx3
   ·exact n3 x (k1.subset hx3) x hx1 rfl
   ·exact hx2 hx3
 | [],_::_,_,_,h,_,_=>by simp[Frzs]at h
 |_::_,[],_,_,h,_,_=>by simp[Frzs]at h
end
theorem Fn.part {P:Program} {f:FuncId} {args:List SV} {Post Post':SV→List SV→Prop} (h:Fn P f args Post) (hP:∀r az,Post r az→∃inv d d',r= .own inv d∧Frz d d'∧Post' (.own [] d') az):Fn P f args Post':=by
 intro G σ Fr w cargs hok hsz hin
 refine(h G σ Fr w cargs hok hsz hin).mono ?_
 rintro e w' ⟨r,az,c,G1,σ1,rfl,hp,hG,hok1,hroot,hrep,hlen,has⟩
 obtain⟨inv,d,d',rfl,hfr,hp'⟩:=hP r az hp
 obtain⟨bs,h1,h2,h3,h4⟩:=(show OwnD G1 σ1 w' args.length d c from hrep)
 obtain⟨bs',k1,k2⟩:=hfr.rep h1 h3
 let G2:Mem:=fun b=>if b∈bs∧b ∉ bs' then w'.heap[b]? else G1 b
 let σ2:Lab:=fun b=>if b∈bs∧b ∉ bs' then none else σ1 b
 have hle:G1.le G2:=by
  intro b o hb
  simp only[G2]
  split
  ·rename_i hc
   obtain⟨k,hk⟩:=h4 b hc.1
   rw[(hok1.own b _ hk).1]at hb
   cases hb
  ·exact hb
 have hσ2:∀b lab,σ2 b=some lab→σ1 b=some lab∧¬(b∈bs∧b ∉ bs'):=by
  intro b lab hb
  simp only[σ2]at hb
  split at hb
  ·cases hb
  ·rename_i hc;exact⟨hb,hc⟩
 have hok2:WOk G2 σ2 Fr ⟨w,0, #[]⟩ w':=by
  refine⟨?_,?_,?_,hok1.frame,hok1.os,hok1.tape,hok1.output,hok1.size,?_,Amb.mono hle hok1.amb⟩
  ·intro b o hb
   simp only[G2]at hb
   split at hb
   ·exact hb
   ·exact hok1.fixed b o hb
  ·intro b lab hb
   obtain⟨q1,q2⟩:=hσ2 b lab hb
   obtain⟨q3,q4,q5⟩:=hok1.own b lab q1
   refine⟨?_,q4,q5⟩
   simp only[G2]
   rw[if_neg q2]
   exact q3
  ·intro b b' lab hb hb'
   exact hok1.inj b b' lab (hσ2 b lab hb).1 (hσ2 b' lab hb').1
  ·intro b o hb
   simp only[G2]
   split
   ·rename_i hc
    obtain⟨k,hk⟩:=h4 b hc.1
    rw[(hok1.own b _ hk).2.1]at hb
    cases hb
   ·exact hok1.apart b o hb
 refine⟨.own [] d',az,c,G2,σ2,rfl,hp',hG.trans hle,hok2,rfl,?_,hlen,?_⟩
 ·refine⟨bs',k2 G2 hle fun b q1 q2=>?_,by rw[(frz_shape hfr).2];exact h2,h3.sublist k1,fun b hb=>?_⟩
  ·simp only[G2]
   rw[if_pos ⟨q1,q2⟩]
  ·obtain⟨k,hk⟩:=h4 b (k1.subset hb)
   refine⟨k,?_⟩
   simp only[σ2]
   rw[if_neg (fun hc=>hc.2 hb)]
   exact hk
 ·intro i sv hi
  obtain⟨q1,q2⟩:=has i sv hi
  refine⟨q1,RepOwn.tr q2 hle fun b k hb=>⟨?_,rfl⟩⟩
  have hil:i<args.length:=by
   have:=(List.getElem?_eq_some_iff.1 hi).1
   omega
  simp only[σ2]
  rw[if_neg]
  ·exact hb
  ·rintro⟨hc,_⟩
   obtain⟨k',hk'⟩:=h4 b hc
   rw[hb]at hk'
   cases hk'
   exact Nat.lt_irrefl _ hil
set_option maxRecDepth 100000
set_option maxHeartbeats 40000000

open Go.Proofs
structure Cmd where
 (client seq:Int) (token:Ai) (kind:Int) (name other word salt:Ai) (bytes keys:Int) (grant:Gra) (rev:Int) (ifs thn els:List I)
abbrev Cmd.toI (c:Cmd):I:=.agg [.int .i64 c.client,.int .i64 c.seq,.str c.token,.int .i64 c.kind,.str c.name,.str c.other,.str c.word,.str c.salt,.int .i64 c.bytes,.int .i64 c.keys,c.grant.toI,.int .i64 c.rev,.list c.ifs,.list c.thn,.list c.els]
def IsF (x:List I) (outs:List SV) (r:SV) (as1:List SV):Prop:=Es r=some (.tup (x.map F.i))∧as1=outs
theorem Fn.isF {P:Program} {f:FuncId} {args:List SV} {x:List I} {outs:List SV} (h:Fn P f args (IsF x outs)):Fn P f args (Is (.tup (x.map F.i)) outs):=
 Fn.frz h fun _ _ ⟨h1,h2⟩=>⟨_,h1,rfl,h2⟩
theorem Qg (l:List Usr):toIs (l.map Usr.toD)=some (l.map Usr.toI):=Aoo (fun x=>by simp[D.toI,toIs,Bn, -List.map_map]) l
theorem Fm (l:List Rol):toIs (l.map Rol.toD)=some (l.map Rol.toI):=Aoo (fun x=>by simp[D.toI,toIs,Bn, -List.map_map]) l
def Jv (r:Roll) (c:Cmd):Roll × Int:=
 if r.usrAt c.name<0 then(r,16)
 else match r.usrs[(r.usrAt c.name).toNat]? with
 |none=>(r,16)
 |some u=>
  if c.kind=14 then
   if u.roles.any (fun e=>decide (e=c.other))then({r with rev:=r.rev+1,usrs:=r.usrs.set (r.usrAt c.name).toNat {u with roles:=u.roles.filter fun e=> !decide (e=c.other)}},0)
   else(r,16)
  else if r.rolAt c.other<0 then(r,16)
  else match r.rols[(r.rolAt c.other).toNat]? with
   |none=>(r,16)
   |some x=>
    if x.ten≠u.ten then(r,18)
    else if u.roles.any (fun e=>decide (e=c.other))then(r,15)
    else if 4≤(u.roles.length:Int)then(r,17)
    else({r with rev:=r.rev+1,usrs:=r.usrs.set (r.usrAt c.name).toNat {u with roles:=E8 (fun e=>decide (c.other<e)) c.other u.roles}},0)
abbrev Roll.toN (r:Roll):D:=.st [.it (.int .i64 r.rev),.vec Cc 3 ((r.tens.map Ten.toI).map D.it),.vec B3 5 ((r.usrs.map Usr.toI).map D.it),.vec B2 3 (r.rols.map Rol.toD)]
theorem Bgx (u:Usr):Frz u.toD (.it u.toI):=by simp[Frz,D.toI,toIs,Bn, -List.map_map]
theorem Bdm (x:Rol):Frz x.toD x.toD:=by
 simp only[Frz,Frzs,D.toI,true_and,and_true]
 exact Yw _
theorem Ka (r:Roll) (hs:r.Small):Fn Tryz.prog Jq [.v r.toI] (Is (.own [] r.toN) [.no]):=by
 refine(Bcb r hs).part ?_
 rintro _ _ ⟨rfl,rfl⟩
 refine⟨[],_,r.toN,rfl,?_,rfl,rfl⟩
 simp only[Frz,Frzs,D.toI,true_and,and_true]
 refine⟨Yw _,?_,Anu Bdm _⟩
 rw[List.map_map]
 exact Anu Bgx _
theorem Dy {l:List I} {j:Nat} {y:I}:toIs ((l.map D.it).set j (D.it y))=some (l.set j y):=by
 rw[←List.map_set]
 exact Bn _

open Go.Proofs
def Ln {α:Type} (d:α→D) (i:α→I) (l:List α) (k:Nat):List D:=(l.take k).map d++(l.drop k).map fun x=>.it (i x)
theorem Aqu {α:Type} (d:α→D) (i:α→I) (l:List α):Ln d i l 0=(l.map i).map D.it:=by simp[Ln]
theorem Auj {α:Type} (d:α→D) (i:α→I) (l:List α):Ln d i l l.length=l.map d:=by simp[Ln]
theorem Aj8 {α:Type} (d:α→D) (i:α→I) (l:List α) (k:Nat):(Ln d i l k).length=l.length:=by simp[Ln];omega
theorem Auk {α:Type} {d:α→D} {i:α→I} {l:List α} {k:Nat} {x:α} (h:l[k]?=some x):(Ln d i l k)[k]?=some (.it (i x)):=by
 have hk:=(List.getElem?_eq_some_iff.1 h).1
 have:k - min k l.length=0:=by omega
 rw[Ln,List.getElem?_append_right (by simp;omega)]
 simp[h,this]
theorem Aum {α:Type} {d:α→D} {i:α→I} {l:List α} {k:Nat} {x:α} (h:l[k]?=some x):(Ln d i l k).set k (d x)=Ln d i l (k+1):=by
 have hk:=(List.getElem?_eq_some_iff.1 h).1
 have hx:=(List.getElem?_eq_some_iff.1 h).2
 have h0:k - min k l.length=0:=by omega
 rw[Ln,Ln,List.set_append_right _ _ (by simp;omega),List.take_add_one,h,List.drop_eq_getElem_cons hk,hx]
 simp[h0]
theorem A1t (r:Roll) (hs:r.Small):Fn Tryz.prog Axc [.v r.toI] (Is (.own [] r.toD) [.no]):=by
 refine Asz ?_ (by simp)
 obtain⟨b1,b2,b3,b4,b5⟩:=hs
 repeat'((conv=>whnf);first|(refine eI ?_ ?_;focus (and_intros<;>first|omega|exact rfl|(intro _ hh;cases hh;done)|(simp;done)|decide))|(intro hfact)|(refine CallWp.mk ⟨_,(Aok _ (size_map (fun _=>rfl)) (by simp;omega)),?_⟩;rintro _ _ ⟨rfl,rfl⟩)|(refine CallWp.mk ⟨_,(Ate _ (size_map (fun _=>rfl)) (by simp;omega)),?_⟩;rintro _ _ ⟨rfl,rfl⟩))
 all_goals(try(conv=>whnf))
 refine LoopWq.by (X:=Nat) (fun k=>[(1,.own [] (.ptr (.st [.it (.int .i64 r.rev),.vec Cc 3 ((r.tens.map Ten.toI).map D.it),.vec B3 5 (Ln Usr.toD Usr.toI r.usrs k),.it (.list (r.rols.map Rol.toI))]))),(16,.v (.int .i64 k))]) (fun k=>k≤r.usrs.length) (fun k=>r.usrs.length - k)
  0 (by rw[Aqu];kernel_rfl) (by omega) ?_
 intro k hk
 by_cases hk2:k<r.usrs.length
 case pos=>
  obtain⟨u,hu⟩:∃u,r.usrs[k]?=some u:=⟨_,List.getElem?_eq_getElem hk2⟩
  have hpg:=Auk (d:=Usr.toD) (i:=Usr.toI) hu
  have hps:=Aum (d:=Usr.toD) (i:=Usr.toI) hu
  have hpl:=Aj8 Usr.toD Usr.toI r.usrs k
  obtain⟨L,hL⟩:∃L,L=Ln Usr.toD Usr.toI r.usrs k:=⟨_,rfl⟩
  rw[←hL]at hpg hps hpl ⊢
  have hlt:¬decide ((k:Int)<((List.map D.it (List.map Usr.toI r.usrs)).length:Int))=false:=by simp[hk2]
  repeat'((conv=>whnf);first|(apply aI<;>intro hb<;>first|exact absurd hb (by assumption)|((try rw[hb]);(try simp only[Ad]at hb)))|(refine eI ?_ ?_;focus (and_intros<;>first|omega|exact rfl|(intro _ hh;cases hh;done)|(simp;done)|decide))|((with_reducible apply Drawn.by0);(focus kernel_rfl);intro hfact;(try simp only[dRS]at hfact))|(refine CallIs.mk ⟨_,_,Aif u.roles (by have:=b4 u (List.mem_of_getElem? hu);omega),?_⟩)|((first|with_reducible apply Lr|((with_reducible apply D9);(focus rfl)));(focus (simp only[D.at,D.put,D.kid,D.setKid,List.cons_append,List.nil_append,List.append,List.getElem?_cons_zero,List.getElem?_cons_succ,Int.toNat_natCast,List.getElem?_set_self',Option.map_eq_map,Option.map_some,List.set_cons_zero,List.set_cons_succ,List.set_set,Function.const_apply,List.map_cons,List.map_nil,mkSt,Cn,D.toI,toIs,Bn,List.getElem?_map,List.length_map,List.length_set,hpg]<;>exact rfl));(try(focus exact rfl))))
  all_goals(try(conv=>whnf))
  refine Round.by (k+1) ?_ (by omega) (by omega)
  rw[Ak hk2 (by simp only[maxLen];omega), ←hps]
  show norm _ _=upd _ _
  kernel_rfl
 have hlt:¬decide ((k:Int)<((List.map D.it (List.map Usr.toI r.usrs)).length:Int))=true:=by simp;omega
 obtain rfl:k=r.usrs.length:=by omega
 rw[Auj]
 clear hlt hk hk2
 have hcr:=Atd (r.rols.map Rol.toI) (size_map (fun _=>rfl)) (by simp;omega)
 repeat'((conv=>whnf);first|(apply aI<;>intro hb<;>first|(exfalso;simp only[Az]at hb<;>omega)|((try rw[hb]);(try simp only[Ad]at hb)))|(refine eI ?_ ?_;focus (and_intros<;>first|omega|exact rfl|(intro _ hh;cases hh;done)|(simp;done)|decide))|(intro hfact)|(refine CallWp.mk ⟨_,hcr,?_⟩;rintro _ _ ⟨rfl,rfl⟩))
 all_goals(try(conv=>whnf))
 refine LoopWq.by (X:=Nat) (fun k=>[(1,.own [] (.ptr (.st [.it (.int .i64 r.rev),.vec Cc 3 ((r.tens.map Ten.toI).map D.it),.vec B3 5 (r.usrs.map Usr.toD),.vec B2 3 (Ln Rol.toD Rol.toI r.rols k)]))),(39,.v (.int .i64 k))]) (fun k=>k≤r.rols.length) (fun k=>r.rols.length - k)
  0 (by rw[Aqu];kernel_rfl) (by omega) ?_
 intro k hk
 by_cases hk2:k<r.rols.length
 case pos=>
  obtain⟨u,hu⟩:∃u,r.rols[k]?=some u:=⟨_,List.getElem?_eq_getElem hk2⟩
  have hpg:=Auk (d:=Rol.toD) (i:=Rol.toI) hu
  have hps:=Aum (d:=Rol.toD) (i:=Rol.toI) hu
  have hpl:=Aj8 Rol.toD Rol.toI r.rols k
  obtain⟨L,hL⟩:∃L,L=Ln Rol.toD Rol.toI r.rols k:=⟨_,rfl⟩
  rw[←hL]at hpg hps hpl ⊢
  have hlt:¬decide ((k:Int)<((List.map D.it (List.map Rol.toI r.rols)).length:Int))=false:=by simp[hk2]
  repeat'((conv=>whnf);first|(apply aI<;>intro hb<;>first|exact absurd hb (by assumption)|((try rw[hb]);(try simp only[Ad]at hb)))|(refine eI ?_ ?_;focus (and_intros<;>first|omega|exact rfl|(intro _ hh;cases hh;done)|(simp;done)|decide))|((with_reducible apply Drawn.by0);(focus kernel_rfl);intro hfact;(try simp only[dRS]at hfact))|(refine CallIs.mk ⟨_,_,Aie u.grants (by have:=b5 u (List.mem_of_getElem? hu);omega),?_⟩)|((first|with_reducible apply Lr|((with_reducible apply D9);(focus rfl)));(focus (simp only[D.at,D.put,D.kid,D.setKid,List.cons_append,List.nil_append,List.append,List.getElem?_cons_zero,List.getElem?_cons_succ,Int.toNat_natCast,List.getElem?_set_self',Option.map_eq_map,Option.map_some,List.set_cons_zero,List.set_cons_succ,List.set_set,Function.const_apply,List.map_cons,List.map_nil,mkSt,Cn,D.toI,toIs,Bn,List.getElem?_map,List.length_map,List.length_set,hpg]<;>exact rfl));(try(focus exact rfl))))
  all_goals(try(conv=>whnf))
  refine Round.by (k+1) ?_ (by omega) (by omega)
  rw[Ak hk2 (by simp only[maxLen];omega), ←hps]
  show norm _ _=upd _ _
  kernel_rfl
 have hlt:¬decide ((k:Int)<((List.map D.it (List.map Rol.toI r.rols)).length:Int))=true:=by simp;omega
 obtain rfl:k=r.rols.length:=by omega
 rw[Auj]
 repeat'((conv=>whnf);first|(apply aI<;>intro hb<;>first|exact absurd hb (by assumption)|((try rw[hb]);(try simp only[Ad]at hb)))|(refine eI ?_ ?_;focus (and_intros<;>first|omega|exact rfl)))
 all_goals(try(conv=>whnf))
 (apply dK<;>kernel_rfl)

open Go.Proofs
theorem T2 (r:Roll) (hs:r.Small):Fn Tryz.prog Jq [.v r.toI] (Is (.v r.toI) [.no]):=by
 refine(Ka r hs).frz ?_
 rintro _ _ ⟨rfl,rfl⟩
 exact⟨_,by simp only[Es,D.toI,toIs,Bn,Fm],rfl,rfl⟩
theorem take_size {α:Type} {f:α→I} {l:List α} {n i j:Nat} (h:∀a,(f a).size=n):∀u∈((l.map f).take j).drop i,u.size=n:=fun u hu=>
 size_map h u (List.mem_of_mem_take (List.mem_of_mem_drop hu))
def L3 (r:Roll) (c:Cmd):Roll × Int:=
 if r.usrAt c.name<0 then(r,16)
 else if c.name=[114,111,111,116]then(r,1)
 else({r with rev:=r.rev+1,usrs:=r.usrs.take (r.usrAt c.name).toNat++r.usrs.drop ((r.usrAt c.name).toNat+1)},0)

open Go.Proofs
def Dq (n:Int):Bool:=decide (0≤n)&&decide (n≤1099511627776)
def L8 (r:Roll) (c:Cmd):Roll × Int:=
 if Dq c.bytes=false then(r,1)
 else if Dq c.keys=false then(r,1)
 else if r.tenAt c.name<0 then(r,16)
 else({r with rev:=r.rev+1,tens:=r.tens.set (r.tenAt c.name).toNat ⟨c.name,c.bytes,c.keys⟩},0)
def Lx (r:Roll) (c:Cmd):Roll × Int:=
 if !(decide (Dk c.grant.sp)&&(c.grant.r||c.grant.w))then(r,1)
 else if r.rolAt c.name<0 then(r,16)
 else match r.rols[(r.rolAt c.name).toNat]? with
 |none=>(r,16)
 |some x=>
  if x.grants.any (fun e=>decide (e=c.grant))then(r,15)
  else if 8≤(x.grants.length:Int)then(r,17)
  else({r with rev:=r.rev+1,rols:=r.rols.set (r.rolAt c.name).toNat {x with grants:=x.grants++[c.grant]}},0)
set_option maxHeartbeats 4000000

open Go.Proofs
def Cz (s:Ai) (k lo hi:Int):Bool:=match s[k.toNat]? with
 |some c=>decide (lo≤(c.toNat:Int)∧(c.toNat:Int)≤hi)
 |none=>false
def Ld (s:Ai) (k n:Nat):Bool:=(List.range n).all fun i=>Cz s ((k+i:Nat):Int) 128 191
def Lq (s:Ai):Int:=
 if Cz s 0 0 127 then 1
 else if(Cz s 0 194 223&&Ld s 1 1)then 2
 else if(Ld s 1 2&&((Cz s 0 224 224&&Cz s 1 160 191)||Cz s 0 225 236||(Cz s 0 237 237&&Cz s 1 128 159)||Cz s 0 238 239))then 3
 else if(Ld s 1 3&&((Cz s 0 240 240&&Cz s 1 144 191)||Cz s 0 241 243||(Cz s 0 244 244&&Cz s 1 128 143)))then 4
 else 0

open Go.Proofs
def Ko (s:Ai):Bool:=match s with
 | []=>false
 | [c]=>decide (32≤(c.toNat:Int))&&decide ((c.toNat:Int)≤126)&& !decide ((c.toNat:Int)=92)
 | [c,d]=>if(c.toNat:Int)=194 then decide (161≤(d.toNat:Int))else true
 |_=>true

open Go.Proofs
def badR (k:Nat) (c:Int) (at':Nat) (piece:Ai):Bool:=
 (decide (k=1)&& !((decide (97≤c)&&decide (c≤122))||(decide (48≤c)&&decide (c≤57))||decide (c=95)||(decide (c=45)&&decide (0<at'))))
 ||(decide (1<k)&& !Ko piece)
def L5:Nat→Ai→Nat→Nat→Bool
 |0,_,_,_=>false
 |f+1,s,at',n=>match s[at']? with
  |none=>decide (0<n)
  |some c=>
   let k:=(Lq (s.drop at')).toNat
   if k=0 then false
   else if badR k c.toNat at' ((s.drop at').take k)=true then false
   else if 24<n+1 then false
   else L5 f s (at'+k) (n+1)
def D2 (s:Ai):Bool:=L5 (s.length+1) s 0 0

open Go.Proofs Go.Shelf
theorem decL:Lays.n197 Tryz.prog ⟨fun n=>if n=197 then 126 else if n=260 then 142 else n,fun n=>if n=46 then 145 else if n=105 then 167 else if n=119 then 186 else if n=138 then 188 else if n=139 then 189 else n,fun n=>if n=3 then 0 else 1⟩ where
 mixed:=by kernel_rfl
 f197:=by kernel_rfl
 f260:=by kernel_rfl
 t0:=by kernel_rfl
 a0:=fun _=>by kernel_rfl
 z0:=fun _=>by kernel_rfl
 v0:=fun _=>by kernel_rfl
 t3:=by kernel_rfl
 a3:=fun _=>by kernel_rfl
 z3:=fun _=>by kernel_rfl
 v3:=fun _=>by kernel_rfl
 t4:=by kernel_rfl
 a4:=fun _=>by kernel_rfl
 z4:=fun _=>by kernel_rfl
 v4:=fun _=>by kernel_rfl
 t5:=by kernel_rfl
 a5:=fun _=>by kernel_rfl
 z5:=fun _=>by kernel_rfl
 v5:=fun _=>by kernel_rfl
 t9:=by kernel_rfl
 a9:=fun _=>by kernel_rfl
 z9:=fun _=>by kernel_rfl
 v9:=fun _=>by kernel_rfl
 t21:=by kernel_rfl
 a21:=fun _=>by kernel_rfl
 z21:=fun _=>by kernel_rfl
 v21:=fun _=>by kernel_rfl
 t46:=by kernel_rfl
 a46:=fun _=>by kernel_rfl
 z46:=fun _=>by kernel_rfl
 v46:=fun _=>by kernel_rfl
 t105:=by kernel_rfl
 a105:=fun _=>by kernel_rfl
 z105:=fun _=>by kernel_rfl
 v105:=fun _=>by kernel_rfl
 t119:=by kernel_rfl
 a119:=fun _=>by kernel_rfl
 z119:=fun _=>by kernel_rfl
 t138:=by kernel_rfl
 a138:=fun _=>by kernel_rfl
 z138:=fun _=>by kernel_rfl
 v138:=fun _=>by kernel_rfl
 t139:=by kernel_rfl
 a139:=fun _=>by kernel_rfl
 z139:=fun _=>by kernel_rfl
 v139:=fun _=>by kernel_rfl
 g3:=by kernel_rfl
 g4:=by kernel_rfl
theorem A3u (s:Ai):Fn Tryz.prog Rq [.v (.str s)] (Is (.tup [.i (.int .i32 (Lib.decodeGo ⟨⟨s⟩⟩).1),.i (.int .i64 (Lib.decodeGo ⟨⟨s⟩⟩).2)]) [.no]):=by
 intro G σ Fr w cargs hok hcl hargs
 have hc0:RepV G (.str s) (cargs.getD 0 undef):=(hargs 0 _ rfl).2
 obtain⟨hc0,_⟩:=RepV.str.1 hc0
 have hca:cargs= #[.string ⟨⟨s⟩⟩]:=by
  rw[←hc0]
  apply Array.ext
  ·simpa using hcl
  ·intro j h1 h2
   have:j=0:=by simp at h2;omega
   subst this
   simp[Array.getD,h1]
 have hcall:=Any.utf8_DecodeRuneInString decL ⟨⟨s⟩⟩ w (hok.amb w hok.fixed)
 rw[hca]
 refine Calls.mono hcall ?_
 rintro e w' ⟨rfl,hb⟩
 have keep:∀(M:Mem),(∀b o,M b=some o→w.heap[b]?=some o)→∀b o,M b=some o→w'.heap[b]?=some o:=by
  intro M hM b o hm
  have h1:=hM b o hm
  rw[hb.block b (Array.getElem?_eq_some_iff.1 h1).1]
  exact h1
 refine⟨_,_,_,G,fun _=>none,rfl,⟨rfl,rfl⟩,Mem.le.refl G,⟨keep G hok.fixed,fun b lab h=>by(cases h),fun b b' lab h=>by(cases h),keep Fr hok.frame,hb.os,hb.tape,hb.output,hb.size,hok.apart,hok.amb⟩,rfl,⟨_,rfl,?_⟩,rfl,?_⟩
 ·exact⟨_,_,rfl,RepV.int.2 rfl,_,_,rfl,RepV.int.2 rfl,rfl⟩
 intro i sv hi
 have:sv= .no:=by
  have:=List.mem_of_getElem? hi
  simpa using this
 subst this
 exact⟨rfl,trivial⟩

open Go
theorem Sn (l:Ai) (k:Nat):(⟨⟨l⟩⟩:ByteArray).get! k=(l[k]?).getD 0:=by
 show(l.toArray)[k]! =_
 rw[List.getElem!_toArray,List.getElem!_eq_getElem?_getD]
 rfl
theorem Vr (s:Ai) (p:Nat):Gq s p=Gq (s.drop p) 0:=by
 have hg:∀k,(⟨⟨s⟩⟩:ByteArray).get! (p+k)=(⟨⟨s.drop p⟩⟩:ByteArray).get! (0+k):=fun k=>by
  rw[Sn,Sn,List.getElem?_drop,Nat.zero_add]
 have hs:∀k,decide (p+k<(⟨⟨s⟩⟩:ByteArray).size)=decide (0+k<(⟨⟨s.drop p⟩⟩:ByteArray).size):=fun k=>by
  show decide (p+k<s.length)=decide (0+k<(s.drop p).length)
  rw[List.length_drop]
  congr 1
  rw[eq_iff_iff]
  omega
 unfold Gq Utf8.decode
 simp only[hg,hs]
set_option maxHeartbeats 40000000

open Go.Proofs
def decN (n:Nat) (b0 b1 b2 b3:Nat):Nat × Nat:=
 if b0<128 then(b0,1)
 else if b0 / 32=6∧1<n∧b1 / 64=2 then
  if b0 % 32*64+b1 % 64≥128 then(b0 % 32*64+b1 % 64,2)else(65533,1)
 else if b0 / 16=14∧1<n∧b1 / 64=2∧2<n∧b2 / 64=2 then
  if b0 % 16*4096+b1 % 64*64+b2 % 64≥2048∧Utf8.valid ((b0 % 16*4096+b1 % 64*64+b2 % 64:Nat):Int)=true then(b0 % 16*4096+b1 % 64*64+b2 % 64,3)else(65533,1)
 else if b0 / 8=30∧1<n∧b1 / 64=2∧2<n∧b2 / 64=2∧3<n∧b3 / 64=2 then
  if b0 % 8*262144+b1 % 64*4096+b2 % 64*64+b3 % 64≥65536∧Utf8.valid ((b0 % 8*262144+b1 % 64*4096+b2 % 64*64+b3 % 64:Nat):Int)=true then(b0 % 8*262144+b1 % 64*4096+b2 % 64*64+b3 % 64,4)else(65533,1)
 else(65533,1)
def Gu (l:Ai) (k:Nat):Nat:=((l[k]?).getD 0).toNat
theorem Bev (l:Ai):Gq l 0=decN l.length (Gu l 0) (Gu l 1) (Gu l 2) (Gu l 3):=by
 have hs:(⟨⟨l⟩⟩:ByteArray).size=l.length:=rfl
 have h0:((⟨⟨l⟩⟩:ByteArray).get! 0).toNat=Gu l 0:=by rw[Sn];rfl
 have h1:((⟨⟨l⟩⟩:ByteArray).get! 1).toNat=Gu l 1:=by rw[Sn];rfl
 have h2:((⟨⟨l⟩⟩:ByteArray).get! 2).toNat=Gu l 2:=by rw[Sn];rfl
 have h3:((⟨⟨l⟩⟩:ByteArray).get! 3).toNat=Gu l 3:=by rw[Sn];rfl
 unfold Gq Utf8.decode
 simp only[Nat.zero_add,hs,h0,h1,h2,h3]
 generalize Gu l 0=b0
 generalize Gu l 1=b1
 generalize Gu l 2=b2
 generalize Gu l 3=b3
 generalize l.length=n
 unfold decN
 simp only[Bool.and_eq_true,decide_eq_true_eq,beq_iff_eq,and_assoc,ge_iff_le,Utf8.runeError]
def szN (n:Nat) (b0 b1 b2 b3:Nat):Nat:=
 if b0≤127 then 1
 else if(194≤b0∧b0≤223)∧1<n∧128≤b1∧b1≤191 then 2
 else if(1<n∧128≤b1∧b1≤191∧2<n∧128≤b2∧b2≤191)∧((b0=224∧160≤b1)∨(225≤b0∧b0≤236)∨(b0=237∧b1≤159)∨(238≤b0∧b0≤239))then 3
 else if(1<n∧128≤b1∧b1≤191∧2<n∧128≤b2∧b2≤191∧3<n∧128≤b3∧b3≤191)∧((b0=240∧144≤b1)∨(241≤b0∧b0≤243)∨(b0=244∧b1≤143))then 4
 else 0
theorem Ec (l:Ai) (k:Nat) (lo hi:Nat):Cz l (k:Int) (lo:Int) (hi:Int)=decide (k<l.length∧lo≤Gu l k∧Gu l k≤hi):=by
 unfold Cz Gu
 rw[Int.toNat_natCast]
 cases h:l[k]? with
 |none=>
  have:=List.getElem?_eq_none_iff.1 h
  symm
  simp only[decide_eq_false_iff_not]
  omega
 |some c=>
  have:=(List.getElem?_eq_some_iff.1 h).1
  simp only[Option.getD_some]
  congr 1
  rw[eq_iff_iff]
  omega
theorem Be9 (l:Ai):Ld l 1 1=decide (1<l.length∧128≤Gu l 1∧Gu l 1≤191):=by
 have h1:=Ec l 1 128 191
 simp only[Ld,List.range_succ,List.range_zero,List.nil_append,List.all_cons,List.all_nil,Bool.and_true]
 exact h1
theorem Bfa (l:Ai):Ld l 1 2=decide (1<l.length∧128≤Gu l 1∧Gu l 1≤191∧2<l.length∧128≤Gu l 2∧Gu l 2≤191):=by
 have h1:=Ec l 1 128 191
 have h2:=Ec l 2 128 191
 have:Ld l 1 2=(Cz l ((1:Nat):Int) ((128:Nat):Int) ((191:Nat):Int)&&Cz l ((2:Nat):Int) ((128:Nat):Int) ((191:Nat):Int)):=by simp[Ld,List.range_succ]
 rw[this,h1,h2, ←Bool.decide_and]
 congr 1
 rw[eq_iff_iff]
 omega
theorem Bfb (l:Ai):Ld l 1 3=decide (1<l.length∧128≤Gu l 1∧Gu l 1≤191∧2<l.length∧128≤Gu l 2∧Gu l 2≤191∧3<l.length∧128≤Gu l 3∧Gu l 3≤191):=by
 have h1:=Ec l 1 128 191
 have h2:=Ec l 2 128 191
 have h3:=Ec l 3 128 191
 have:Ld l 1 3=(Cz l ((1:Nat):Int) ((128:Nat):Int) ((191:Nat):Int)&&(Cz l ((2:Nat):Int) ((128:Nat):Int) ((191:Nat):Int)&&Cz l ((3:Nat):Int) ((128:Nat):Int) ((191:Nat):Int))):=by simp[Ld,List.range_succ]
 rw[this,h1,h2,h3, ←Bool.decide_and, ←Bool.decide_and]
 congr 1
 rw[eq_iff_iff]
 omega
theorem Bhj (l:Ai) (hl:0<l.length):Lq l=(szN l.length (Gu l 0) (Gu l 1) (Gu l 2) (Gu l 3):Nat):=by
 have e1:Cz l 0 0 127=_:=Ec l 0 0 127
 have e2:Cz l 0 194 223=_:=Ec l 0 194 223
 have e3:Cz l 0 224 224=_:=Ec l 0 224 224
 have e4:Cz l 1 160 191=_:=Ec l 1 160 191
 have e5:Cz l 0 225 236=_:=Ec l 0 225 236
 have e6:Cz l 0 237 237=_:=Ec l 0 237 237
 have e7:Cz l 1 128 159=_:=Ec l 1 128 159
 have e8:Cz l 0 238 239=_:=Ec l 0 238 239
 have e9:Cz l 0 240 240=_:=Ec l 0 240 240
 have e10:Cz l 1 144 191=_:=Ec l 1 144 191
 have e11:Cz l 0 241 243=_:=Ec l 0 241 243
 have e12:Cz l 0 244 244=_:=Ec l 0 244 244
 have e13:Cz l 1 128 143=_:=Ec l 1 128 143
 unfold Lq szN
 rw[Be9,Bfa,Bfb,e1,e2,e3,e4,e5,e6,e7,e8,e9,e10,e11,e12,e13]
 generalize Gu l 0=b0
 generalize Gu l 1=b1
 generalize Gu l 2=b2
 generalize Gu l 3=b3
 generalize l.length=n at hl ⊢
 simp only[Bool.and_eq_true,Bool.or_eq_true,decide_eq_true_eq]
 repeat' split
 all_goals first|rfl|(exfalso;omega)
theorem Bhx (l:Ai) (k:Nat):Gu l k<256:=UInt8.toNat_lt _
theorem Bcp (n b0 b1 b2 b3:Nat) (h0:b0<256) (hn:0<n):
 (szN n b0 b1 b2 b3=0∧decN n b0 b1 b2 b3=(65533,1))∨
 (szN n b0 b1 b2 b3=1∧decN n b0 b1 b2 b3=(b0,1)∧b0<128)∨
 (szN n b0 b1 b2 b3=2∧2≤n∧∃r,decN n b0 b1 b2 b3=(r,2)∧128≤r∧r≤1114111∧(161≤r↔(b0=194→161≤b1)))∨
 (szN n b0 b1 b2 b3=3∧3≤n∧∃r,decN n b0 b1 b2 b3=(r,3)∧161≤r∧r≤1114111)∨
 (szN n b0 b1 b2 b3=4∧4≤n∧∃r,decN n b0 b1 b2 b3=(r,4)∧161≤r∧r≤1114111):=by
 unfold szN
 split
 ·rename_i hb
  refine .inr (.inl ⟨rfl,?_,by omega⟩)
  unfold decN
  rw[if_pos (show b0<128 by omega)]
 split
 ·refine .inr (.inr (.inl ⟨rfl,by omega,b0 % 32*64+b1 % 64,?_,by omega,by omega,by omega⟩))
  unfold decN
  rw[if_neg (by omega),if_pos (by omega),if_pos (by omega)]
 split
 ·refine .inr (.inr (.inr (.inl ⟨rfl,by omega,b0 % 16*4096+b1 % 64*64+b2 % 64,?_,by omega,by omega⟩)))
  unfold decN
  rw[if_neg (by omega),if_neg (by omega),if_pos (by omega),if_pos ⟨by omega,by simp only[Utf8.valid,Bool.or_eq_true,Bool.and_eq_true,decide_eq_true_eq];omega⟩]
 split
 ·refine .inr (.inr (.inr (.inr ⟨rfl,by omega,b0 % 8*262144+b1 % 64*4096+b2 % 64*64+b3 % 64,?_,by omega,by omega⟩)))
  unfold decN
  rw[if_neg (by omega),if_neg (by omega),if_neg (by omega),if_pos (by omega),if_pos ⟨by omega,by simp only[Utf8.valid,Bool.or_eq_true,Bool.and_eq_true,decide_eq_true_eq];omega⟩]
 ·refine .inl ⟨rfl,?_⟩
  unfold decN
  rw[if_neg (by omega)]
  split
  ·rw[if_neg (by omega)]
  split
  ·rw[if_neg]
   rintro⟨hv1,hv2⟩
   simp only[Utf8.valid,Bool.or_eq_true,Bool.and_eq_true,decide_eq_true_eq]at hv2
   omega
  split
  ·rw[if_neg]
   rintro⟨hv1,hv2⟩
   simp only[Utf8.valid,Bool.or_eq_true,Bool.and_eq_true,decide_eq_true_eq]at hv2
   omega
  rfl
theorem Bhe (c d:UInt8):Ko [c,d]=decide (c.toNat=194→161≤d.toNat):=by
 simp only[Ko]
 split
 ·congr 1
  rw[eq_iff_iff]
  omega
 ·symm
  simp only[decide_eq_true_eq]
  omega
theorem A49 (c d e:UInt8) (r:Ai):Ko (c::d::e::r)=true:=rfl
theorem A7o (l:Ai) (hl:0<l.length):
 (Lq l=0∧Gq l 0=(65533,1))∨
 (∃c r,l=c::r∧Lq l=1∧Gq l 0=(c.toNat,1)∧c.toNat<128)∨
 (∃k r:Nat,2≤k∧Lq l=(k:Int)∧k≤l.length∧Gq l 0=(r,k)∧128≤r∧r≤1114111∧Ko (l.take k)=decide (161≤r)):=by
 rw[Bhj l hl,Bev]
 rcases Bcp l.length (Gu l 0) (Gu l 1) (Gu l 2) (Gu l 3) (Bhx l 0) hl with⟨h1,h2⟩|⟨h1,h2,h3⟩|⟨h1,h2,r,h3,h4,h5,h6⟩|⟨h1,h2,r,h3,h4,h5⟩|⟨h1,h2,r,h3,h4,h5⟩
 ·rw[h1,h2];exact .inl ⟨rfl,rfl⟩
 ·rw[h1,h2]
  cases l with
  |nil=>simp at hl
  |cons c r=>exact .inr (.inl ⟨c,r,rfl,rfl,rfl,h3⟩)
 ·rw[h1,h3]
  rcases l with _|⟨c,_|⟨d,t⟩⟩
  ·simp at hl
  ·simp at h2
  ·refine .inr (.inr ⟨2,r,by omega,rfl,h2,rfl,h4,h5,?_⟩)
   show Ko [c,d]=_
   rw[Bhe]
   congr 1
   rw[eq_iff_iff]
   exact h6.symm
 ·rw[h1,h3]
  rcases l with _|⟨c,_|⟨d,_|⟨e,t⟩⟩⟩
  ·simp at hl
  ·simp at h2
  ·simp at h2
  ·exact .inr (.inr ⟨3,r,by omega,rfl,h2,rfl,by omega,h5,by show Ko [c,d,e]=_;rw[A49];simp[h4]⟩)
 ·rw[h1,h3]
  rcases l with _|⟨c,_|⟨d,_|⟨e,_|⟨f,t⟩⟩⟩⟩
  ·simp at hl
  ·simp at h2
  ·simp at h2
  ·simp at h2
  ·exact .inr (.inr ⟨4,r,by omega,rfl,h2,rfl,by omega,h5,by show Ko [c,d,e,f]=_;rw[A49];simp[h4]⟩)

open Go.Proofs
theorem Fn.strLen {P:Program} {f:FuncId} {s:Ai} {rest:List SV} {Post:SV→List SV→Prop} (h:s.length≤maxLen→Fn P f (.v (.str s)::rest) Post):Fn P f (.v (.str s)::rest) Post:=by
 intro G σ Fr w cargs hok hsz hargs
 have h0:=(hargs 0 _ rfl).2
 exact h (RepV.str.1 h0).2 G σ Fr w cargs hok hsz hargs
theorem Avp (s:Ai) (p:Nat) (hp:p<s.length):Lib.decodeGo ⟨⟨s.drop p⟩⟩=Gq s p:=by
 rw[Vr s p]
 unfold Lib.decodeGo
 rw[if_neg]
 ·rfl
 ·show ¬(s.drop p).length=0
  rw[List.length_drop]
  omega
theorem Ahk (s:Ai) (p:Nat) (hp:p<s.length) (r:Int):Fn Tryz.prog Aw9 [.v (.str s),.v (.int .i64 p),.v (.int .i32 r)] (Is (.v (.bool (decide (r=65533)&&decide ((Gq s p).2=1)))) [.no,.no,.no]):=by
 refine Av6 ?_ (by simp)
 have hd:=A3u (s.drop p)
 rw[Avp s p hp]at hd
 by_cases hr:r=65533
 ·have hb0:¬(!decide (r=65533))=true:=by simp[hr]
  repeat'((conv=>whnf);first|(apply aI<;>intro hb<;>first|exact absurd hb (by assumption)|((try rw[hb]);(try simp only[Ad]at hb);(try subst hb)))|(refine eI ?_ ?_;focus (and_intros<;>first|omega|exact rfl|(intro _ hh;cases hh;done)|(simp;done)|decide))|((simp only[List.headD,Int.toNat_natCast,List.take_length]))|(refine CallWp.mk ⟨_,hd,?_⟩;rintro _ _ ⟨rfl,rfl⟩))
  all_goals(try(conv=>whnf))
  refine Done.mk ⟨SV.bool_congr ?_,by kernel_rfl⟩ (by kernel_rfl)
  rw[eq_comm,Bool.eq_iff_iff]
  simp
  omega
 ·repeat'((conv=>whnf);(apply aI<;>intro hb<;>first|(exfalso;simp only[Az]at hb<;>omega)|((try rw[hb]);(try simp only[Ad]at hb))))
  all_goals(try(conv=>whnf))
  all_goals first|contradiction|skip
  refine Done.mk ⟨SV.bool_congr (by simp[hr]),by kernel_rfl⟩ (by kernel_rfl)
theorem Avb (r:Int):Fn Tryz.prog A2t [.v (.int .i32 r)] (Is (.v (.bool (decide (161≤r)))) [.no]):=by
 refine Az5 ?_ (by simp)
 (conv=>whnf)
 all_goals(try(conv=>whnf))
 exact Done.mk ⟨SV.bool_congr (by simp),by kernel_rfl⟩ (by kernel_rfl)
theorem Adc {f:Nat} {s:Ai} {p n:Nat} {c:UInt8} (hc:s[p]?=some c) {k:Nat} (hk:Lq (s.drop p)=(k:Int)):
 L5 (f+1) s p n=(if k=0 then false else if badR k c.toNat p ((s.drop p).take k)=true then false else if 24<n+1 then false else L5 f s (p+k) (n+1)):=by
 rw[L5,hc]
 dsimp only
 rw[hk,Int.toNat_natCast]
theorem Aug {f:Nat} {s:Ai} {p n:Nat} {c:UInt8} (hc:s[p]?=some c) {k:Nat} (hk:Lq (s.drop p)=(k:Int)) (hk0:0<k) (hkl:k≤s.length - p) (hp:p<s.length)
 (hb:badR k c.toNat p ((s.drop p).take k)=false) (h2:s.length<f+1+p) (h3:n≤p) (h4:n≤24→L5 (f+1) s p n=D2 s) (h5:24<n→D2 s=false):
 p+k≤s.length∧s.length<f+(p+k)∧n+1≤p+k∧(n+1≤24→L5 f s (p+k) (n+1)=D2 s)∧(24<n+1→D2 s=false):=by
 refine⟨by omega,by omega,by omega,fun h=>?_,fun h=>?_⟩
 ·rw[←h4 (by omega),Adc hc hk,if_neg (by omega),hb,if_neg (by simp),if_neg (by omega)]
 ·by_cases h24:24<n
  ·exact h5 h24
  ·rw[←h4 (by omega),Adc hc hk,if_neg (by omega),hb,if_neg (by simp),if_pos h]
theorem Aoa {f:Nat} {s:Ai} {p n:Nat} {c:UInt8} (hc:s[p]?=some c) {k:Nat} (hk:Lq (s.drop p)=(k:Int))
 (hb:k=0∨badR k c.toNat p ((s.drop p).take k)=true) (h4:n≤24→L5 (f+1) s p n=D2 s) (h5:24<n→D2 s=false):D2 s=false:=by
 by_cases h24:24<n
 ·exact h5 h24
 ·rw[←h4 (by omega),Adc hc hk]
  rcases hb with hb|hb
  ·rw[if_pos hb]
  ·rw[hb];split<;>simp
theorem X0 (s:Ai):Fn Tryz.prog Aw8 [.v (.str s)] (Is (.v (.bool (D2 s))) [.no]):=Fn.strLen fun hl=>by
 refine Av5 ?_ (by simp)
 (conv=>whnf)
 all_goals(try(conv=>whnf))
 refine LoopWq.by (X:=Nat × Nat × Nat) (fun x=>[(3,.v (.int .i64 x.2.2)),(7,.sit s x.2.1)]) (fun x=>x.2.1≤s.length∧s.length<x.1+x.2.1∧x.2.2≤x.2.1∧(x.2.2≤24→L5 x.1 s x.2.1 x.2.2=D2 s)∧(24<x.2.2→D2 s=false)) (fun x=>s.length - x.2.1)
  (s.length+1,0,0) (by kernel_rfl) ⟨Nat.zero_le _,by dsimp only;omega,Nat.le_refl _,fun _=>rfl,fun h=>by simp at h⟩ ?_
 rintro⟨f,p,n⟩ ⟨h1,h2,h3,h4,h5⟩
 dsimp only at h1 h2 h3 h4 h5 ⊢
 obtain⟨f,rfl⟩:∃g,f=g+1:=⟨f - 1,by omega⟩
 by_cases hp:p<s.length
 case neg=>
  have hlt:¬decide (p<s.length)=true:=by simp;omega
  have hv:D2 s=(decide (0<n)&&decide (n≤24)):=by
   by_cases h24:n≤24
   ·rw[←h4 h24,L5,List.getElem?_eq_none (by omega)]
    simp[h24]
   ·rw[h5 (by omega)]
    simp[h24]
  rw[hv]
  repeat'((conv=>whnf);(apply aI<;>intro hb<;>first|exact absurd hb (by first|assumption|decide)|((try rw[hb]);(try simp only[Ad]at hb))))
  all_goals(try(conv=>whnf))
  all_goals refine Done.mk ⟨SV.bool_congr ?_,by kernel_rfl⟩ (by kernel_rfl)
  all_goals(rw[Bool.eq_iff_iff];simp;omega)
 have hlt:¬decide (p<s.length)=false:=by simp[hp]
 obtain⟨c,hc⟩:∃c,s[p]?=some c:=⟨_,List.getElem?_eq_getElem hp⟩
 have hdl:(s.drop p).length=s.length - p:=List.length_drop ..
 have hwn:IntKind.i64.wrap ((n:Int)+1)=((n+1:Nat):Int):=Ak (n:=maxLen) (by omega) (Nat.le_refl _)
 rcases A7o (s.drop p) (by omega)with⟨hk,hr⟩|⟨c',t,hd,hk,hr,hc8⟩|⟨k,r,hk2,hk,hkl,hr,hr1,hr2,hit⟩
 ·rw[←Vr]at hr
  have hw:=Ahk s p hp (65533:Nat)
  rw[hr]at hw
  rw[Aoa hc hk (.inl rfl) h4 h5]
  repeat'((conv=>whnf);first|(apply aI<;>intro hb<;>first|exact absurd hb (by first|assumption|decide)|((try rw[hb]);(try simp only[Ad]at hb)))|(refine eI ?_ ?_;focus (and_intros<;>first|(intro _ hh;cases hh;done)|(simp;done)|decide))|((simp only[hr]))|(refine CallWp.mk ⟨_,hw,?_⟩;rintro _ _ ⟨rfl,rfl⟩))
  all_goals(try(conv=>whnf))
  (apply dK<;>kernel_rfl)
 ·rw[←Vr]at hr
  obtain rfl:c=c':=by
   have:=congrArg (fun q=>q[0]?) hd
   simp only[List.getElem?_drop,Nat.add_zero,List.getElem?_cons_zero]at this
   rw[hc]at this
   exact Option.some.inj this
  have hw:=Ahk s p hp (c.toNat:Nat)
  rw[hr,show(decide (((c.toNat:Nat):Int)=65533)&&decide (((c.toNat,1):Nat × Nat).2=1))=false by simp;omega]at hw
  have hh:=Avb (c.toNat:Nat)
  rw[show decide (161≤((c.toNat:Nat):Int))=false by simp;omega]at hh
  have hlen:1≤s.length - p:=by omega
  have hgood:=fun hb=>Aug hc (k:=1) hk (by omega) hlen hp hb h2 h3 h4 h5
  have hbad:=fun hb=>Aoa (k:=1) hc hk (.inr hb) h4 h5
  rw[hd]at hgood hbad
  generalize hm:D2 s=m at*
  have hB:∀q,badR 1 (c.toNat:Nat) p q=true↔¬((97≤c.toNat∧c.toNat≤122)∨(48≤c.toNat∧c.toNat≤57)∨c.toNat=95∨(c.toNat=45∧0<p)):=fun q=>by
   simp only[badR]
   simp
   omega
  have hB':∀q,badR 1 (c.toNat:Nat) p q=false↔((97≤c.toNat∧c.toNat≤122)∨(48≤c.toNat∧c.toNat≤57)∨c.toNat=95∨(c.toNat=45∧0<p)):=fun q=>by
   have:=hB q
   cases hx:badR 1 (c.toNat:Nat) p q
   ·rw[hx]at this
    simp at this
    simp
    omega
   ·rw[hx]at this
    simp at this
    simp
    omega
  repeat'((conv=>whnf);first|(apply aI<;>intro hb<;>first|exact absurd hb (by first|assumption|decide)|(exfalso;simp only[Az]at hb<;>omega)|((try rw[hb]);(try simp only[Ad]at hb)))|(refine eI ?_ ?_;focus (and_intros<;>first|(intro _ hh;cases hh;done)|(simp;done)|decide))|((simp only[hr]))|(refine CallWp.mk ⟨_,hw,?_⟩;rintro _ _ ⟨rfl,rfl⟩)|(refine CallWp.mk ⟨_,hh,?_⟩;rintro _ _ ⟨rfl,rfl⟩))
  all_goals(try(conv=>whnf))
  all_goals first
   |(refine Done.mk ⟨congrArg (fun b=>SV.v (.bool b)) (hbad ((hB _).2 (by omega))).symm,by kernel_rfl⟩ (by kernel_rfl);done)
   |(refine Round.by (f,p+1,n+1) ?_ (hgood ((hB' _).2 (by omega))) (by dsimp only;omega)
     rw[hwn]
     show norm _ _=upd _ _
     kernel_rfl)
 ·rw[←Vr]at hr
  have hw:=Ahk s p hp (r:Nat)
  rw[hr,show(decide (((r:Nat):Int)=65533)&&decide (((r,k):Nat × Nat).2=1))=false by simp;omega]at hw
  have hh:=Avb (r:Nat)
  have hgood:=fun hb=>Aug hc (k:=k) hk (by omega) (by omega) hp hb h2 h3 h4 h5
  have hbad:=fun hb=>Aoa (k:=k) hc hk (.inr hb) h4 h5
  have hB:badR k c.toNat p ((s.drop p).take k)= !decide (161≤r):=by
   simp only[badR,hit]
   rw[show decide (k=1)=false by simp;omega,show decide (1<k)=true by simp;omega]
   simp
  rw[hB]at hgood hbad
  generalize hm:D2 s=m at*
  by_cases h161:161≤r
  ·rw[show decide (161≤((r:Nat):Int))=true by simp;omega]at hh
   repeat'((conv=>whnf);first|(apply aI<;>intro hb<;>first|exact absurd hb (by first|assumption|decide)|(exfalso;simp only[Az]at hb<;>omega)|((try rw[hb]);(try simp only[Ad]at hb)))|(refine eI ?_ ?_;focus (and_intros<;>first|(intro _ hh;cases hh;done)|(simp;done)|decide))|((simp only[hr]))|(refine CallWp.mk ⟨_,hw,?_⟩;rintro _ _ ⟨rfl,rfl⟩)|(refine CallWp.mk ⟨_,hh,?_⟩;rintro _ _ ⟨rfl,rfl⟩))
   all_goals(try(conv=>whnf))
   refine Round.by (f,p+k,n+1) ?_ (hgood (by simp[h161])) (by dsimp only;omega)
   rw[hwn]
   show norm _ _=upd _ _
   kernel_rfl
  ·rw[show decide (161≤((r:Nat):Int))=false by simp;omega]at hh
   repeat'((conv=>whnf);first|(apply aI<;>intro hb<;>first|exact absurd hb (by first|assumption|decide)|(exfalso;simp only[Az]at hb<;>omega)|((try rw[hb]);(try simp only[Ad]at hb)))|(refine eI ?_ ?_;focus (and_intros<;>first|(intro _ hh;cases hh;done)|(simp;done)|decide))|((simp only[hr]))|(refine CallWp.mk ⟨_,hw,?_⟩;rintro _ _ ⟨rfl,rfl⟩)|(refine CallWp.mk ⟨_,hh,?_⟩;rintro _ _ ⟨rfl,rfl⟩))
   all_goals(try(conv=>whnf))
   exact Done.mk ⟨congrArg (fun b=>SV.v (.bool b)) (hbad (by simp[h161])).symm,by kernel_rfl⟩ (by kernel_rfl)

open Go.Proofs
def Hk {α:Type} (i:Nat) (x:α) (l:List α):List α:=l.take i++x::l.drop i
theorem Aqc {α β γ:Type} (g:β→γ) (f:α→β) (i:Nat) (x:α) (l:List α):((l.map f).map g).take i++g (f x)::((l.map f).map g).drop i=((Hk i x l).map f).map g:=by simp[Hk,List.map_take,List.map_drop]
def H6 {α:Type} (i:Nat) (l:List α):List α:=l.take i++l.drop (i+1)
theorem Xz (n:Int):Fn Tryz.prog Axd [.v (.int .i64 n)] (Is (.v (.bool (Dq n))) [.no]):=by
 refine Av9 ?_ (by simp)
 repeat'((conv=>whnf);(apply aI<;>intro hb<;>first|exact absurd hb (by decide)|((try rw[hb]);(try simp only[Ad]at hb))))
 all_goals(try(conv=>whnf))
 all_goals refine Done.mk ⟨SV.bool_congr ?_,by kernel_rfl⟩ (by kernel_rfl)
 all_goals simp[Dq, *]
theorem Ja (s:Ai):Fn Tryz.prog Avm [.v (.str s)] (Is (.v (.bool (decide (s.length≤64)))) [.no]):=by
 refine Asu ?_ (by simp)
 repeat'((conv=>whnf);first|(refine eI ?_ ?_;focus (and_intros<;>exact rfl))|(intro hfact))
 all_goals(try(conv=>whnf))
 refine Done.mk ⟨SV.bool_congr ?_,by kernel_rfl⟩ (by kernel_rfl)
 by_cases h:s.length≤64<;>simp[h]<;>omega
def M5 (r:Roll) (c:Cmd):Roll × Int:=
 if c.kind=4∧D2 c.name=false then(r,5)
 else if Dq c.bytes=false∨Dq c.keys=false then(r,1)
 else if c.kind=4∧Et Ten.name r.tens c.name=true then(r,15)
 else if c.kind=4∧8≤(r.tens.length:Int)then(r,17)
 else if c.kind=4 then({r with tens:=Hk (Ch Ten.name r.tens c.name) ⟨c.name,c.bytes,c.keys⟩ r.tens},0)
 else if Et Ten.name r.tens c.name=false then(r,16)
 else({r with tens:=r.tens.set (Ch Ten.name r.tens c.name) ⟨c.name,c.bytes,c.keys⟩},0)
theorem Arf (r:Roll):D.toI (.vec Cc 3 ((r.tens.map Ten.toI).map D.it))=some (.list (r.tens.map Ten.toI)):=by simp[D.toI,Bn, -List.map_map]
theorem A2c (r:Roll) (hs:r.Small) (c:Cmd):Fn Tryz.prog Avo [.own [] (.ptr r.toD),.v c.toI] (Is (.v (.int .i64 (M5 r c).2)) [.own [] (.ptr (M5 r c).1.toD),.no]):=by
 refine Asx ?_ (by simp)
 obtain⟨b1,b2,b3,b4,b5⟩:=hs
 have hf:=A12 r.tens c.name (by omega)
 have hn:=X0 c.name
 have n1:=Xz c.bytes
 have n2:=Xz c.keys
 repeat'((conv=>whnf);first|(apply aI<;>intro hb<;>first|exact absurd hb (by decide)|((try rw[hb]);(try simp only[Ad]at hb)))|(refine eI ?_ ?_;focus (and_intros<;>first|omega|exact rfl|(intro _ hh;cases hh;done)|(simp;done)|decide))|(intro hfact)|((with_reducible apply Drawn.by0);(focus kernel_rfl);intro hfact;(try simp only[dRS]at hfact))|((simp only[show D.at (0::[].append [1]) (D.ptr r.toD)=some (D.vec Cc 3 ((r.tens.map Ten.toI).map D.it))from rfl,Arf]))|(refine CallIs.mk ⟨_,_,hf,?_⟩)|(refine CallWp.mk ⟨_,hn,?_⟩;rintro _ _ ⟨rfl,rfl⟩)|(refine CallWp.mk ⟨_,n1,?_⟩;rintro _ _ ⟨rfl,rfl⟩)|(refine CallWp.mk ⟨_,n2,?_⟩;rintro _ _ ⟨rfl,rfl⟩))
 all_goals(try(conv=>whnf))
 all_goals(generalize hX:M5 r c=X;simp[M5, *]at hX;subst hX)
 all_goals try(apply dK<;>kernel_rfl)
 ·skip
  have hle:=S9 Ten.name r.tens c.name
  have hins:=Ati ((r.tens.map Ten.toI).map D.it) (.it (Ten.toI ⟨c.name,c.bytes,c.keys⟩)) (Ch Ten.name r.tens c.name) (by simp;omega) (by simp;omega)
  rw[Aqc D.it Ten.toI]at hins
  have htn:=Nw ⟨c.name,c.bytes,c.keys⟩
  refine Acv ?_ (by decide)
  repeat'((conv=>whnf);first|(refine eI ?_ ?_;focus (and_intros<;>first|omega|exact rfl|(intro _ hh;cases hh;done)|exact F5 rfl|(simp;done)|decide))|((with_reducible apply Drawn.by0);(focus kernel_rfl);intro hfact;(try simp only[dRS]at hfact))|((simp only[show D.at (0::[].append [1]) (D.ptr r.toD)=some (D.vec Cc 3 ((r.tens.map Ten.toI).map D.it))from rfl,Arf]))|(refine CallIs.mk ⟨_,_,hf,?_⟩)|(refine CallIs.mk ⟨_,_,htn,?_⟩)|(refine CallIs.mk ⟨_,_,hins,?_⟩))
  all_goals(try(conv=>whnf))
  (apply dK<;>kernel_rfl)
 ·skip
  obtain⟨x,hx, -⟩:=Lv (by assumption)
  have hxd:((r.tens.map Ten.toI).map D.it)[Ch Ten.name r.tens c.name]?=some (.it x.toI):=by simp[hx]
  have hset:((r.tens.map Ten.toI).map D.it).set (Ch Ten.name r.tens c.name) (.it (Ten.toI ⟨c.name,c.bytes,c.keys⟩))=((r.tens.set (Ch Ten.name r.tens c.name) ⟨c.name,c.bytes,c.keys⟩).map Ten.toI).map D.it:=by simp[List.map_set]
  have hlt:Ch Ten.name r.tens c.name<r.tens.length:=(List.getElem?_eq_some_iff.1 hx).1
  repeat'((conv=>whnf);first|(refine eI ?_ ?_;focus (and_intros<;>first|omega|exact rfl|(simp only[Az];omega)|(simp;done)))|((with_reducible apply Drawn.by0);(focus kernel_rfl);intro hfact;(try simp only[dRS]at hfact))|((with_reducible apply Lr);(focus (simp only[D.at,D.put,D.kid,D.setKid,List.cons_append,List.nil_append,List.append,List.getElem?_cons_zero,List.getElem?_cons_succ,Int.toNat_natCast,List.getElem?_set_self',Option.map_eq_map,Option.map_some,List.set_cons_zero,List.set_cons_succ,List.set_set,Function.const_apply,List.map_cons,List.map_nil,mkSt,Cn,D.toI,toIs,Bn,List.getElem?_map,List.length_map,List.length_set,hxd]<;>exact rfl))))
  all_goals(try(conv=>whnf))
  have hD:Roll.toD {r with tens:=r.tens.set (Ch Ten.name r.tens c.name) ⟨c.name,c.bytes,c.keys⟩}= .st [.it (.int .i64 r.rev),.vec Cc 3 (((r.tens.map Ten.toI).map D.it).set (Ch Ten.name r.tens c.name) (.it (Ten.toI ⟨c.name,c.bytes,c.keys⟩))),.vec B3 5 (r.usrs.map Usr.toD),.vec B2 3 (r.rols.map Rol.toD)]:=by rw[hset]
  refine Done.mk ⟨by kernel_rfl,?_⟩ (by kernel_rfl)
  dsimp only
  rw[hD]
  kernel_rfl
end Go.Ab
