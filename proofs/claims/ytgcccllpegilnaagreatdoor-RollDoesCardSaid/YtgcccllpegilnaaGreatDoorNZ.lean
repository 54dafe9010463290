/- Lemmas for the last text. -/
import Derived.Test.YtgcccllpegilnaaGreatDoorA11
set_option linter.unusedVariables false
set_option linter.unusedSimpArgs false
namespace Go.Ab
def Bu:SV→Option SV
 | .own _ t=>match t.toI with
   |some y=>some (.v y)
   |none=>none
 | .tupd l=>match toIs l with
   |some r=>some (.tup (r.map F.i))
   |none=>none
 | .v x=>some (.v x)
 |_=>none
theorem Ai8 {G:Mem} {y:I} {v:Value} (h:RepI G y v.cells.toList) (hv:valOf y.isAgg v=true):RepV G y v:=by
 unfold RepV
 cases hx:y.isAgg with
 |true=>
  rw[hx]at hv
  obtain⟨a',rfl⟩:=Gi hv
  rw[if_pos rfl]
  exact⟨a',rfl,h⟩
 |false=>
  rw[hx]at hv
  rw[B8 hv]at h
  rw[if_neg (by simp)]
  exact h
theorem Abv {G G':Mem} {σ:Lab} {w:World} {s:Nat} (hG:G.le G'):∀{l:List D} {r:List I} {cs:List Value} {bs:List Nat} {j:Nat},RepVs G w l cs bs→toIs l=some r→(∀b∈bs,G' b=w.heap[b]?)→RepTup G' σ w s j (r.map F.i) cs
 | [],r,cs,bs,j,h,hr,_=>by
   simp only[toIs,Option.some.injEq]at hr
   subst hr
   simp only[RepVs]at h
   simp[RepTup,h.1]
 |d::l,r,cs,bs,j,h,hr,hb=>by
  simp only[toIs]at hr
  split at hr
  ·rename_i x hx
   split at hr
   ·rename_i r' hr'
    cases hr
    simp only[RepVs]at h
    obtain⟨v,c',b,b',rfl,rfl,hv,h1,h2⟩:=h
    simp only[List.map_cons,RepTup]
    refine⟨v,c',rfl,Ai8 (RepD.toI hG h1 hx fun b hb'=>hb b (by simp[hb'])) ?_,Abv hG h2 hr' fun b hb'=>hb b (by simp[hb'])⟩
    rw[(toI_shape hx).2];exact hv
   ·cases hr
  ·cases hr
theorem Fn.frz {P:Program} {f:FuncId} {args:List SV} {Post Post':SV→List SV→Prop} (h:Fn P f args Post) (hP:∀r az,Post r az→∃r',Bu r=some r'∧Post' r' az):Fn P f args Post':=by
 intro G σ Fr w cargs hok hsz hin
 refine(h G σ Fr w cargs hok hsz hin).mono ?_
 rintro e w' ⟨r,az,c,G1,σ1,rfl,hp,hG,hok1,hroot,hrep,hlen,has⟩
 obtain⟨r',hfr,hp'⟩:=hP r az hp
 let G2:Mem:=fun b=>match σ1 b with
  |some (s,_)=>if s=args.length then w'.heap[b]? else G1 b
  |none=>G1 b
 let σ2:Lab:=fun b=>match σ1 b with
  |some (s,k)=>if s=args.length then none else some (s,k)
  |none=>none
 have hG2n:∀b k,σ1 b=some (args.length,k)→G2 b=w'.heap[b]?:=by
  intro b k hb
  simp only[G2,hb,if_true]
 have hG2o:∀b,(∀k,σ1 b≠some (args.length,k))→G2 b=G1 b:=by
  intro b hb
  simp only[G2]
  split
  ·rename_i s k hs
   split
   ·rename_i hsn;subst hsn;exact absurd hs (hb k)
   ·rfl
  ·rfl
 have hle:G1.le G2:=by
  intro b o hb
  rw[hG2o b]
  ·exact hb
  ·intro k hk
   rw[(hok1.own b _ hk).1]at hb
   cases hb
 have hσ2:∀b s k,σ2 b=some (s,k)→σ1 b=some (s,k)∧s≠args.length:=by
  intro b s k hb
  simp only[σ2]at hb
  split at hb
  ·rename_i s' k' hs
   split at hb
   ·cases hb
   ·rename_i hne;cases hb;exact⟨hs,hne⟩
  ·cases hb
 have hok2:WOk G2 σ2 Fr ⟨w,0, #[]⟩ w':=by
  refine⟨?_,?_,?_,hok1.frame,hok1.os,hok1.tape,hok1.output,hok1.size,?_,Amb.mono hle hok1.amb⟩
  ·intro b o hb
   by_cases hk:∃k,σ1 b=some (args.length,k)
   ·obtain⟨k,hk⟩:=hk
    rw[hG2n b k hk]at hb;exact hb
   ·rw[hG2o b (fun k hk'=>hk ⟨k,hk'⟩)]at hb
    exact hok1.fixed b o hb
  ·rintro b ⟨s,k⟩ hb
   obtain⟨h1,h2⟩:=hσ2 b s k hb
   obtain⟨h3,h4,h5⟩:=hok1.own b _ h1
   refine⟨?_,h4,h5⟩
   rw[hG2o b (fun k' hk'=>?_)]
   ·exact h3
   ·rw[h1]at hk';cases hk';exact h2 rfl
  ·rintro b b' ⟨s,k⟩ hb hb'
   exact hok1.inj b b' _ (hσ2 b s k hb).1 (hσ2 b' s k hb').1
  ·intro b o hb
   by_cases hk:∃k,σ1 b=some (args.length,k)
   ·obtain⟨k,hk⟩:=hk
    rw[(hok1.own b _ hk).2.1]at hb;cases hb
   ·rw[hG2o b (fun k hk'=>hk ⟨k,hk'⟩)]
    exact hok1.apart b o hb
 have hasn:∀i sv,az[i]?=some sv→sv.root=none∧RepOwn G2 σ2 w' i sv (cargs.getD i undef):=by
  intro i sv hi
  obtain⟨h1,h2⟩:=has i sv hi
  refine⟨h1,RepOwn.tr h2 hle fun b k hb=>⟨?_,rfl⟩⟩
  have hil:i<args.length:=by
   have:=(List.getElem?_eq_some_iff.1 hi).1
   omega
  simp only[σ2,hb]
  rw[if_neg (by omega)]
 refine⟨r',az,c,G2,σ2,rfl,hp',hG.trans hle,hok2,?_,?_,hlen,hasn⟩
 ·unfold Bu at hfr
  split at hfr
  ·split at hfr
   ·cases hfr;rfl
   ·cases hfr
  ·split at hfr
   ·cases hfr;rfl
   ·cases hfr
  ·cases hfr;rfl
  ·cases hfr
 ·unfold Bu at hfr
  split at hfr
  ·rename_i inv t
   split at hfr
   ·rename_i y hy
    cases hfr
    obtain⟨bs,h1,h2,h3,h4⟩:=(show OwnD G1 σ1 w' args.length t c from hrep)
    refine Ai8 (RepD.toI hle h1 hy fun b hb=>?_) (by rw[(toI_shape hy).2];exact h2)
    obtain⟨k,hk⟩:=h4 b hb
    exact hG2n b k hk
   ·cases hfr
  ·rename_i l
   split at hfr
   ·rename_i r0 hr0
    cases hfr
    obtain⟨a,bs,h0,h1,h3,h4⟩:=(show OwnT G1 σ1 w' args.length l c from hrep)
    refine⟨a,h0,Abv hle h1 hr0 fun b hb=>?_⟩
    obtain⟨k,hk⟩:=h4 b hb
    exact hG2n b k hk
   ·cases hfr
  ·cases hfr
   exact RepV.mono hle hrep
  ·cases hfr

mutual
def Frz:D→D→Prop
 |d,.it y=>d.toI=some y
 | .st l,.st l'=>Frzs l l'
 | .vec e sz l,.vec e' sz' l'=>e=e'∧sz=sz'∧Frzs l l'
 | .ptr d,.ptr d'=>Frz d d'
 |_,_=>False
def Frzs:List D→List D→Prop
 | [],[]=>True
 |d::l,d'::l'=>Frz d d'∧Frzs l l'
 |_,_=>False
end
theorem Xa {α:Type} {f g:α→D} (h:∀x,Frz (f x) (g x)):∀l:List α,Frzs (l.map f) (l.map g)
 | []=>by simp[Frzs]
 |a::l=>by simp only[List.map_cons,Frzs];exact⟨h a,Xa h l⟩
theorem Mu:∀l:List I,Frzs (l.map D.it) (l.map D.it)
 | []=>by simp[Frzs]
 |a::l=>by simp only[List.map_cons,Frzs,Frz,D.toI,true_and];exact Mu l
theorem W9:∀{l l':List D},Frzs l l'→l'.length=l.length
 | [],[],_=>rfl
 |d::l,d'::l',h=>by simp only[Frzs]at h;simp[W9 h.2]
 | [],_::_,h=>by simp[Frzs]at h
 |_::_,[],h=>by simp[Frzs]at h
mutual
theorem frz_shape:∀{d d':D},Frz d d'→d'.size=d.size∧d'.isAgg=d.isAgg
 |d,.it y,h=>by simp only[Frz]at h;exact toI_shape h
 | .st l,.st l',h=>by simp only[Frz]at h;exact⟨frzs_shape h,rfl⟩
 | .vec e sz l,.vec e' sz' l',h=>⟨rfl,rfl⟩
 | .ptr d,.ptr d',h=>⟨rfl,rfl⟩
 | .it _,.st _,h=>by simp[Frz]at h
 | .it _,.vec _ _ _,h=>by simp[Frz]at h
 | .it _,.ptr _,h=>by simp[Frz]at h
 | .it _,.map _ _,h=>by simp[Frz]at h
 | .st _,.vec _ _ _,h=>by simp[Frz]at h
 | .st _,.ptr _,h=>by simp[Frz]at h
 | .st _,.map _ _,h=>by simp[Frz]at h
 | .vec _ _ _,.st _,h=>by simp[Frz]at h
 | .vec _ _ _,.ptr _,h=>by simp[Frz]at h
 | .vec _ _ _,.map _ _,h=>by simp[Frz]at h
 | .ptr _,.st _,h=>by simp[Frz]at h
 | .ptr _,.vec _ _ _,h=>by simp[Frz]at h
 | .ptr _,.map _ _,h=>by simp[Frz]at h
 | .map _ _,.st _,h=>by simp[Frz]at h
 | .map _ _,.vec _ _ _,h=>by simp[Frz]at h
 | .map _ _,.ptr _,h=>by simp[Frz]at h
 | .map _ _,.map _ _,h=>by simp[Frz]at h
theorem frzs_shape:∀{l l':List D},Frzs l l'→dsizes l'=dsizes l
 | [],[],_=>rfl
 |d::l,d'::l',h=>by simp only[Frzs]at h;simp[dsizes,(frz_shape h.1).1,frzs_shape h.2]
 | [],_::_,h=>by simp[Frzs]at h
 |_::_,[],h=>by simp[Frzs]at h
end
theorem Abb {sz:Nat}:∀{l l':List D},Frzs l l'→(∀x∈l,x.size=sz)→∀x∈l',x.size=sz
 | [],[],_,_=>by simp
 |d::l,d'::l',h,hs=>by
  simp only[Frzs]at h
  intro x hx
  rcases List.mem_cons.1 hx with rfl|hx
  ·rw[(frz_shape h.1).1];exact hs d (List.mem_cons_self ..)
  ·exact Abb h.2 (fun y hy=>hs y (List.mem_cons_of_mem _ hy)) x hx
 | [],_::_,h,_=>by simp[Frzs]at h
 |_::_,[],h,_=>by simp[Frzs]at h
mutual
theorem Frz.rep {G:Mem} {w:World}:∀{d d':D} {cs:List Value} {bs:List Nat},Frz d d'→RepD G w d cs bs→bs.Nodup→
 ∃bs':List Nat,bs'.Sublist bs∧∀G':Mem,G.le G'→(∀b∈bs,b ∉ bs'→G' b=w.heap[b]?)→RepD G' w d' cs bs'
 |d,.it y,cs,bs,h,hr,hn=>by
  simp only[Frz]at h
  refine⟨[],by simp,fun G' hG hb=>?_⟩
  simp only[RepD]
  exact⟨RepD.toI hG hr h fun b hb1=>hb b hb1 (by simp),trivial⟩
 | .st l,.st l',cs,bs,h,hr,hn=>by
   simp only[Frz]at h
   simp only[RepD]at hr
   obtain⟨bs',h1,h2⟩:=Frzs.rep h hr hn
   exact⟨bs',h1,fun G' hG hb=>by simp only[RepD];exact h2 G' hG hb⟩
 | .vec e sz l,.vec e' sz' l',cs,bs,h,hr,hn=>by
   simp only[Frz]at h
   obtain⟨rfl,rfl,h⟩:=h
   simp only[RepD]at hr
   rcases hr with⟨rfl,rfl,rfl⟩|⟨g,off,cap,cur,xs,b0,rfl,h1,h1',h2,h3,h4,h5,h6,h7,rfl⟩
   ·have:l'=[]:=by have:=W9 h;simpa using this
    subst this
    exact⟨[],by simp,fun G' hG hb=>by simp[RepD]⟩
   ·obtain⟨bs',k1,k2⟩:=Frzs.rep h h6 (List.nodup_cons.1 hn).2
    have hlen:=W9 h
    refine⟨g::bs',by simpa using k1,fun G' hG hb=>?_⟩
    simp only[RepD]
    refine .inr ⟨g,off,cap,cur,xs,bs',by rw[hlen],h1,h1',by omega,h3,h4,by rw[hlen];exact h5,k2 G' hG fun b hb1 hb2=>?_,Abb h h7,rfl⟩
    refine hb b (by simp[hb1]) fun hb3=>?_
    rcases List.mem_cons.1 hb3 with rfl|hb3
    ·exact(List.nodup_cons.1 hn).1 hb1
    ·exact hb2 hb3
 | .ptr d,.ptr d',cs,bs,h,hr,hn=>by
   simp only[Frz]at h
   simp only[RepD]at hr
   obtain⟨g,cells,ty,b0,rfl,h1,h2,rfl⟩:=hr
   obtain⟨bs',k1,k2⟩:=Frz.rep h h2 (List.nodup_cons.1 hn).2
   refine⟨g::bs',by simpa using k1,fun G' hG hb=>?_⟩
   simp only[RepD]
   refine⟨g,cells,ty,bs',rfl,h1,k2 G' hG fun b hb1 hb2=>?_,rfl⟩
   refine hb b (by simp[hb1]) fun hb3=>?_
   rcases List.mem_cons.1 hb3 with rfl|hb3
   ·exact(List.nodup_cons.1 hn).1 hb1
   ·exact hb2 hb3
 | .it _,.st _,_,_,h,_,_=>by simp[Frz]at h
 | .it _,.vec _ _ _,_,_,h,_,_=>by simp[Frz]at h
 | .it _,.ptr _,_,_,h,_,_=>by simp[Frz]at h
 | .it _,.map _ _,_,_,h,_,_=>by simp[Frz]at h
 | .st _,.vec _ _ _,_,_,h,_,_=>by simp[Frz]at h
 | .st _,.ptr _,_,_,h,_,_=>by simp[Frz]at h
 | .st _,.map _ _,_,_,h,_,_=>by simp[Frz]at h
 | .vec _ _ _,.st _,_,_,h,_,_=>by simp[Frz]at h
 | .vec _ _ _,.ptr _,_,_,h,_,_=>by simp[Frz]at h
 | .vec _ _ _,.map _ _,_,_,h,_,_=>by simp[Frz]at h
 | .ptr _,.st _,_,_,h,_,_=>by simp[Frz]at h
 | .ptr _,.vec _ _ _,_,_,h,_,_=>by simp[Frz]at h
 | .ptr _,.map _ _,_,_,h,_,_=>by simp[Frz]at h
 | .map _ _,.st _,_,_,h,_,_=>by simp[Frz]at h
 | .map _ _,.vec _ _ _,_,_,h,_,_=>by simp[Frz]at h
 | .map _ _,.ptr _,_,_,h,_,_=>by simp[Frz]at h
 | .map _ _,.map _ _,_,_,h,_,_=>by simp[Frz]at h
theorem Frzs.rep {G:Mem} {w:World}:∀{l l':List D} {cs:List Value} {bs:List Nat},Frzs l l'→RepDs G w l cs bs→bs.Nodup→
 ∃bs':List Nat,bs'.Sublist bs∧∀G':Mem,G.le G'→(∀b∈bs,b ∉ bs'→G' b=w.heap[b]?)→RepDs G' w l' cs bs'
 | [],[],cs,bs,_,hr,_=>by
   simp only[RepDs]at hr
   obtain⟨rfl,rfl⟩:=hr
   exact⟨[],by simp,fun G' hG hb=>by simp[RepDs]⟩
 |d::l,d'::l',cs,bs,h,hr,hn=>by
  simp only[Frzs]at h
  simp only[RepDs]at hr
  obtain⟨c,c',b,b',rfl,rfl,h1,h2⟩:=hr
  rw[List.nodup_append]at hn
  obtain⟨n1,n2,n3⟩:=hn
  obtain⟨bs1,k1,k2⟩:=Frz.rep h.1 h1 n1
  obtain⟨bs2,k3,k4⟩:=Frzs.rep h.2 h2 n2
  refine⟨bs1++bs2,List.Sublist.append k1 k3,fun G' hG hb=>?_⟩
  simp only[RepDs]
  refine⟨c,c',bs1,bs2,rfl,rfl,k2 G' hG fun x hx1 hx2=>?_,k4 G' hG fun x hx1 hx2=>?_⟩
  ·refine hb x (by simp[hx1]) fun hx3=>?_
   rcases List.mem_append.1 hx3 with hx3|hx3
   ·exact hx2 hx3
   ·exact n3 x hx1 x (k3.subset hx3) rfl
  ·refine hb x (by simp[hx1]) fun hx3=>?_
   rcases List.mem_append.1 hx3 with hx3|hx3
   ·exact n3 x (k1.subset hx3) x hx1 rfl
   ·exact hx2 hx3
 | [],_::_,_,_,h,_,_=>by simp[Frzs]at h
 |_::_,[],_,_,h,_,_=>by simp[Frzs]at h
end
theorem Fn.part {P:Program} {f:FuncId} {args:List SV} {Post Post':SV→List SV→Prop} (h:Fn P f args Post) (hP:∀r az,Post r az→∃inv d d',r= .own inv d∧Frz d d'∧Post' (.own [] d') az):Fn P f args Post':=by
 intro G σ Fr w cargs hok hsz hin
 refine(h G σ Fr w cargs hok hsz hin).mono ?_
 rintro e w' ⟨r,az,c,G1,σ1,rfl,hp,hG,hok1,hroot,hrep,hlen,has⟩
 obtain⟨inv,d,d',rfl,hfr,hp'⟩:=hP r az hp
 obtain⟨bs,h1,h2,h3,h4⟩:=(show OwnD G1 σ1 w' args.length d c from hrep)
 obtain⟨bs',k1,k2⟩:=hfr.rep h1 h3
 let G2:Mem:=fun b=>if b∈bs∧b ∉ bs' then w'.heap[b]? else G1 b
 let σ2:Lab:=fun b=>if b∈bs∧b ∉ bs' then none else σ1 b
 have hle:G1.le G2:=by
  intro b o hb
  simp only[G2]
  split
  ·rename_i hc
   obtain⟨k,hk⟩:=h4 b hc.1
   rw[(hok1.own b _ hk).1]at hb
   cases hb
  ·exact hb
 have hσ2:∀b lab,σ2 b=some lab→σ1 b=some lab∧¬(b∈bs∧b ∉ bs'):=by
  intro b lab hb
  simp only[σ2]at hb
  split at hb
  ·cases hb
  ·rename_i hc;exact⟨hb,hc⟩
 have hok2:WOk G2 σ2 Fr ⟨w,0, #[]⟩ w':=by
  refine⟨?_,?_,?_,hok1.frame,hok1.os,hok1.tape,hok1.output,hok1.size,?_,Amb.mono hle hok1.amb⟩
  ·intro b o hb
   simp only[G2]at hb
   split at hb
   ·exact hb
   ·exact hok1.fixed b o hb
  ·intro b lab hb
   obtain⟨q1,q2⟩:=hσ2 b lab hb
   obtain⟨q3,q4,q5⟩:=hok1.own b lab q1
   refine⟨?_,q4,q5⟩
   simp only[G2]
   rw[if_neg q2]
   exact q3
  ·intro b b' lab hb hb'
   exact hok1.inj b b' lab (hσ2 b lab hb).1 (hσ2 b' lab hb').1
  ·intro b o hb
   simp only[G2]
   split
   ·rename_i hc
    obtain⟨k,hk⟩:=h4 b hc.1
    rw[(hok1.own b _ hk).2.1]at hb
    cases hb
   ·exact hok1.apart b o hb
 refine⟨.own [] d',az,c,G2,σ2,rfl,hp',hG.trans hle,hok2,rfl,?_,hlen,?_⟩
 ·refine⟨bs',k2 G2 hle fun b q1 q2=>?_,by rw[(frz_shape hfr).2];exact h2,h3.sublist k1,fun b hb=>?_⟩
  ·simp only[G2]
   rw[if_pos ⟨q1,q2⟩]
  ·obtain⟨k,hk⟩:=h4 b (k1.subset hb)
   refine⟨k,?_⟩
   simp only[σ2]
   rw[if_neg (fun hc=>hc.2 hb)]
   exact hk
 ·intro i sv hi
  obtain⟨q1,q2⟩:=has i sv hi
  refine⟨q1,RepOwn.tr q2 hle fun b k hb=>⟨?_,rfl⟩⟩
  have hil:i<args.length:=by
   have:=(List.getElem?_eq_some_iff.1 hi).1
   omega
  simp only[σ2]
  rw[if_neg]
  ·exact hb
  ·rintro⟨hc,_⟩
   obtain⟨k',hk'⟩:=h4 b hc
   rw[hb]at hk'
   cases hk'
   exact Nat.lt_irrefl _ hil
set_option maxRecDepth 100000
set_option maxHeartbeats 40000000

open Go.Proofs
structure Cmd where
 (client seq:Int) (token:Ad) (kind:Int) (name other word salt:Ad) (bytes keys:Int) (grant:Gra) (rev:Int) (ifs thn els:List I)
abbrev Cmd.toI (c:Cmd):I:=.agg [.int .i64 c.client,.int .i64 c.seq,.str c.token,.int .i64 c.kind,.str c.name,.str c.other,.str c.word,.str c.salt,.int .i64 c.bytes,.int .i64 c.keys,c.grant.toI,.int .i64 c.rev,.list c.ifs,.list c.thn,.list c.els]
def IsF (x:List I) (outs:List SV) (r:SV) (as1:List SV):Prop:=Bu r=some (.tup (x.map F.i))∧as1=outs
theorem Fn.isF {P:Program} {f:FuncId} {args:List SV} {x:List I} {outs:List SV} (h:Fn P f args (IsF x outs)):Fn P f args (Is (.tup (x.map F.i)) outs):=
 Fn.frz h fun _ _ ⟨h1,h2⟩=>⟨_,h1,rfl,h2⟩
theorem Gh (l:List Usr):toIs (l.map Usr.toD)=some (l.map Usr.toI):=Xu (fun x=>by simp[D.toI,toIs,Aj, -List.map_map]) l
theorem B6 (l:List Rol):toIs (l.map Rol.toD)=some (l.map Rol.toI):=Xu (fun x=>by simp[D.toI,toIs,Aj, -List.map_map]) l
def Du (r:Roll) (c:Cmd):Roll × Int:=
 if r.usrAt c.name<0 then(r,16)
 else match r.usrs[(r.usrAt c.name).toNat]? with
 |none=>(r,16)
 |some u=>
  if c.kind=14 then
   if u.roles.any (fun e=>decide (e=c.other))then({r with rev:=r.rev+1,usrs:=r.usrs.set (r.usrAt c.name).toNat {u with roles:=u.roles.filter fun e=> !decide (e=c.other)}},0)
   else(r,16)
  else if r.rolAt c.other<0 then(r,16)
  else match r.rols[(r.rolAt c.other).toNat]? with
   |none=>(r,16)
   |some x=>
    if x.ten≠u.ten then(r,18)
    else if u.roles.any (fun e=>decide (e=c.other))then(r,15)
    else if 4≤(u.roles.length:Int)then(r,17)
    else({r with rev:=r.rev+1,usrs:=r.usrs.set (r.usrAt c.name).toNat {u with roles:=B2 (fun e=>decide (c.other<e)) c.other u.roles}},0)
abbrev Roll.toN (r:Roll):D:=.st [.it (.int .i64 r.rev),.vec Ax 3 ((r.tens.map Ten.toI).map D.it),.vec Ar 5 ((r.usrs.map Usr.toI).map D.it),.vec Aq 3 (r.rols.map Rol.toD)]
theorem Arf (u:Usr):Frz u.toD (.it u.toI):=by simp[Frz,D.toI,toIs,Aj, -List.map_map]
theorem Apw (x:Rol):Frz x.toD x.toD:=by
 simp only[Frz,Frzs,D.toI,true_and,and_true]
 exact Mu _
theorem Dw (r:Roll) (hs:r.Small):Fn Tryz.prog Dk [.v r.toI] (Is (.own [] r.toN) [.no]):=by
 refine(Aoz r hs).part ?_
 rintro _ _ ⟨rfl,rfl⟩
 refine⟨[],_,r.toN,rfl,?_,rfl,rfl⟩
 simp only[Frz,Frzs,D.toI,true_and,and_true]
 refine⟨Mu _,?_,Xa Apw _⟩
 rw[List.map_map]
 exact Xa Arf _
theorem Bf {l:List I} {j:Nat} {y:I}:toIs ((l.map D.it).set j (D.it y))=some (l.set j y):=by
 rw[←List.map_set]
 exact Aj _
theorem Aij (r:Roll) (hs:r.Small) (c:Cmd):Fn Tryz.prog Nu [.v r.toI,.own [] {r with rev:=r.rev+1}.toN,.v c.toI,.v (.int .i64 (r.usrAt c.name))]
 (Is (.tup [.i (Du r c).1.toI,.i (.int .i64 (Du r c).2)]) [.no,.no,.no,.no]):=by
 refine Fn.isF (x:=[(Du r c).1.toI,.int .i64 (Du r c).2]) ?_
 refine L0 ?_ (by simp)
 obtain⟨b1,b2,b3,b4,b5⟩:=hs
 rcases Cv (fun t:Usr=>decide (t.name=c.name)) 0 r.usrs with h|⟨j,h,hj,u,hju,hun⟩
 ·have h':r.usrAt c.name= -1:=h
  rw[h']
  repeat'((conv=>whnf);first|(apply aI<;>intro hb<;>first|exact absurd hb (by decide)|((try rw[hb]);(try simp only[Aa]at hb)))|(refine eI ?_ ?_;focus (and_intros<;>exact rfl)))
  all_goals(try(conv=>whnf))
  all_goals(refine Done.mk ⟨?_,by kernel_rfl⟩ (by kernel_rfl))
  all_goals(try simp only[Du,h'])
  all_goals(try simp only[Du,h', *,if_true,if_false,Bool.false_eq_true,Bool.true_eq_false,Bool.not_true,Bool.not_false,decide_true,decide_false,not_true_eq_false,not_false_eq_true,ne_eq,reduceIte])
  all_goals(try simp only[resD,Bu,I.put,List.replicate_succ,List.replicate_zero,toIs,D.toI,Aj,Bf,List.map_cons,List.map_nil,List.set_cons_zero,List.set_cons_succ,mkSt,A1,List.map_set,Int.toNat_natCast])
  all_goals(try rfl)
 ·have h':r.usrAt c.name=(j:Int):=by rw[show r.usrAt c.name=((0+j:Nat):Int)from h,Nat.zero_add]
  rw[h']
  have hul:=b4 u (List.mem_of_getElem? hju)
  have g1:=Aqg u.roles c.other (by omega)
  have g2:=Vt u.roles c.other (by omega)
  have g3:=Amq u.roles c.other (by omega)
  have g4:=Ca r c.other (by omega)
  have hj0:r.usrs[Int.toNat (j:Int)]?=some u:=hju
  rcases Cv (fun t:Rol=>decide (t.name=c.other)) 0 r.rols with hx|⟨k,hx,hk,x,hkx,hxn⟩
  ·have hx':r.rolAt c.other= -1:=hx
   rw[hx']at g4
   repeat'((conv=>whnf);first|(apply aI<;>intro hb<;>first|exact absurd hb (by decide)|(exfalso;simp only[Ag]at hb<;>omega)|((try rw[hb]);(try simp only[Aa]at hb)))|(refine eI ?_ ?_;focus (and_intros<;>first|omega|exact rfl|(intro _ hh;cases hh;done)|(simp only[Ag];omega)|(simp;done)|decide))|((with_reducible apply Drawn.by0);(focus kernel_rfl);intro hfact;(try simp only[dRS]at hfact))|((try dsimp only);first|rw[Au hju]|rw[Am hju]|rw[An hju])|(refine CallWp.mk ⟨_,g1,?_⟩;rintro _ _ ⟨rfl,rfl⟩)|(refine CallIs.mk ⟨_,_,g2,?_⟩)|(refine CallWp.mk ⟨_,g4,?_⟩;rintro _ _ ⟨rfl,rfl⟩)|((first|with_reducible apply Eo|((with_reducible apply Bm);(focus rfl)));(focus (simp only[D.at,D.put,D.kid,D.setKid,List.cons_append,List.nil_append,List.append,List.getElem?_cons_zero,List.getElem?_cons_succ,Int.toNat_natCast,List.getElem?_set_self',Option.map_eq_map,Option.map_some,List.set_cons_zero,List.set_cons_succ,List.set_set,Function.const_apply,List.map_cons,List.map_nil,mkSt,A1,D.toI,toIs,Aj,List.getElem?_map,List.length_map,List.length_set,hju]<;>exact rfl));(try(focus exact rfl))))
   all_goals(try(conv=>whnf))
   all_goals clear hju h hx
   all_goals(refine Done.mk ⟨?_,by kernel_rfl⟩ (by kernel_rfl))
   all_goals(try simp only[Du,h',hj0])
   all_goals(try simp only[Du,h',hj0, *,if_true,if_false,Bool.false_eq_true,Bool.true_eq_false,Bool.not_true,Bool.not_false,decide_true,decide_false,not_true_eq_false,not_false_eq_true,ne_eq,reduceIte])
   all_goals(try simp only[resD,Bu,I.put,List.replicate_succ,List.replicate_zero,toIs,D.toI,Aj,Bf,List.map_cons,List.map_nil,List.set_cons_zero,List.set_cons_succ,mkSt,A1,List.map_set,Int.toNat_natCast,B6,Roll.toI,Usr.toI])
   all_goals(try rfl)
  ·have hx':r.rolAt c.other=(k:Int):=by rw[show r.rolAt c.other=((0+k:Nat):Int)from hx,Nat.zero_add]
   rw[hx']at g4
   have hk0:r.rols[Int.toNat (k:Int)]?=some x:=hkx
   repeat'((conv=>whnf);first|(apply aI<;>intro hb<;>first|(exfalso;simp only[Ag]at hb<;>omega)|((try rw[hb]);(try simp only[Aa]at hb)))|(refine eI ?_ ?_;focus (and_intros<;>first|omega|exact rfl|(intro _ hh;cases hh;done)|(simp only[Ag];omega)|(simp;done)|decide))|(intro hfact)|((with_reducible apply Drawn.by0);(focus kernel_rfl);intro hfact;(try simp only[dRS]at hfact))|((try dsimp only);first|rw[Au hju]|rw[Am hju]|rw[An hju])|((try dsimp only);first|rw[Au hkx]|rw[Am hkx]|rw[An hkx])|(refine CallWp.mk ⟨_,g1,?_⟩;rintro _ _ ⟨rfl,rfl⟩)|(refine CallIs.mk ⟨_,_,g2,?_⟩)|(refine CallIs.mk ⟨_,_,g3,?_⟩)|(refine CallWp.mk ⟨_,g4,?_⟩;rintro _ _ ⟨rfl,rfl⟩)|((first|with_reducible apply Eo|((with_reducible apply Bm);(focus rfl)));(focus (simp only[D.at,D.put,D.kid,D.setKid,List.cons_append,List.nil_append,List.append,List.getElem?_cons_zero,List.getElem?_cons_succ,Int.toNat_natCast,List.getElem?_set_self',Option.map_eq_map,Option.map_some,List.set_cons_zero,List.set_cons_succ,List.set_set,Function.const_apply,List.map_cons,List.map_nil,mkSt,A1,D.toI,toIs,Aj,List.getElem?_map,List.length_map,List.length_set,hju,hkx]<;>exact rfl));(try(focus exact rfl))))
   all_goals(try(conv=>whnf))
   all_goals clear hju h hx hkx
   all_goals(refine Done.mk ⟨?_,by kernel_rfl⟩ (by kernel_rfl))
   all_goals(try simp only[Du,h',hj0,hk0])
   all_goals(try simp only[Du,h',hj0,hk0, *,if_true,if_false,Bool.false_eq_true,Bool.true_eq_false,Bool.not_true,Bool.not_false,decide_true,decide_false,not_true_eq_false,not_false_eq_true,ne_eq,reduceIte])
   all_goals(try simp only[resD,Bu,I.put,List.replicate_succ,List.replicate_zero,toIs,D.toI,Aj,Bf,List.map_cons,List.map_nil,List.set_cons_zero,List.set_cons_succ,mkSt,A1,List.map_set,Int.toNat_natCast,B6,Roll.toI,Usr.toI])
   all_goals(try rfl)

open Go.Proofs
theorem sz18 (e:Cmd):e.toI.size=18:=by kernel_rfl
theorem Ar9 (e:Cmd):e.toI.size=(I.agg [.int .i64 0,.int .i64 0,.str [],.int .i64 0,.str [],.str [],.str [],.str [],.int .i64 0,.int .i64 0,.agg [.agg [.str [],.str []],.bool false,.bool false],.int .i64 0,.list [],.list [],.list []]).size:=
 Eq.trans (sz18 e) (Eq.symm (by kernel_rfl))
theorem Asa (e:Cmd):((I.agg [.int .i64 0,.int .i64 0,.str [],.int .i64 0,.str [],.str [],.str [],.str [],.int .i64 0,.int .i64 0,.agg [.agg [.str [],.str []],.bool false,.bool false],.int .i64 0,.list [],.list [],.list []]).put [] e.toI).size=18:=by kernel_rfl
theorem Asb (e:Cmd):((I.agg [.int .i64 0,.int .i64 0,.str [],.int .i64 0,.str [],.str [],.str [],.str [],.int .i64 0,.int .i64 0,.agg [.agg [.str [],.str []],.bool false,.bool false],.int .i64 0,.list [],.list [],.list []]).put [] e.toI).isAgg=true:=by kernel_rfl
end Go.Ab
