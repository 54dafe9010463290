/- Lemmas -/
import Derived.Test.YtgcccllpegilnaaGreatDoorA11
set_option linter.unusedVariables false
set_option linter.unusedSimpArgs false
namespace Go.Ab
def Es:SV→Option SV
 | .own _ t=>match t.Ae with
   |some y=>some (.v y)
   |none=>none
 | .Qd l=>match Bx l with
   |some r=>some (.Dv (r.map F.i))
   |none=>none
 | .v x=>some (.v x)
 |_=>none
theorem A5f{G:Mem}{y:I}{v:Value}(h:A1 G y v.cells.toList)(hv:valOf y.isAgg v=true):Aq G y v:=by
 unfold Aq;cases hx:y.isAgg with
 |true=>
  rw[hx]at hv;obtain⟨a',rfl⟩:=Qh hv;rw[if_pos rfl];exact⟨a',rfl,h⟩
 |false=>
  rw[hx]at hv;rw[Fp hv]at h;rw[if_neg (by simp)]
  exact h
theorem Auu{G G':Mem}{σ:Lab}{w:World}{s:Nat}(hG:G.le G'):∀{l:List D} {r:List I} {cs:List Value} {bs:List Nat} {j:Nat},Eo G w l cs bs→Bx l=some r→(∀b∈bs,G' b=w.heap[b]?)→C7 G' σ w s j (r.map F.i) cs
 | [],r,cs,bs,j,h,hr,_=>by
   simp only[Bx,Option.some.injEq]at hr;subst hr;simp only[Eo]at h;simp[C7,h.1]
 |d::l,r,cs,bs,j,h,hr,hb=>by
  simp only[Bx]at hr;split at hr
  ·rename_i x hx;split at hr
   ·rename_i r' Ci;cases hr;simp only[Eo]at h;obtain⟨v,c',b,b',rfl,rfl,hv,h1,h2⟩:=h;simp only[List.map_cons,C7];refine⟨v,c',rfl,A5f (A3.Ae hG h1 hx fun b Br=>hb b (by simp[Br])) ?_,Auu hG h2 Ci fun b Br=>hb b (by simp[Br])⟩
    rw[(Jj hx).2];exact hv
   ·cases hr
  ·cases hr
theorem Fn.frz{P:Program}{f:FuncId}{args:List SV}{Cq Aox:SV→List SV→Prop}(h:Fn P f args Cq)(hP:∀r az,Cq r az→∃r',Es r=some r'∧Aox r' az):Fn P f args Aox:=by
 intro G σ Fr w B6 Bu Bk hin;refine(h G σ Fr w B6 Bu Bk hin).mono ?_;rintro e w' ⟨r,az,c,G1,σ1,rfl,hp,hG,J1,Dp,Ay,hlen,has⟩;obtain⟨r',Gh,hp'⟩:=hP r az hp
 let G2:Mem:=fun b=>match σ1 b with
  |some (s,_)=>if s=args.length then w'.heap[b]? else G1 b
  |none=>G1 b
 let σ2:Lab:=fun b=>match σ1 b with
  |some (s,k)=>if s=args.length then none else some (s,k)
  |none=>none
 have Bdo:∀b k,σ1 b=some (args.length,k)→G2 b=w'.heap[b]?:=by
  intro b k hb;simp only[G2,hb,if_true]
 have A6o:∀b,(∀k,σ1 b≠some (args.length,k))→G2 b=G1 b:=by
  intro b hb;simp only[G2];split
  ·rename_i s k hs;split
   ·rename_i hsn;subst hsn;exact absurd hs (hb k)
   ·rfl
  ·rfl
 have hle:G1.le G2:=by
  intro b o hb;rw[A6o b]
  ·exact hb
  ·intro k hk;rw[(J1.own b _ hk).1]at hb;cases hb
 have hσ2:∀b s k,σ2 b=some (s,k)→σ1 b=some (s,k)∧s≠args.length:=by
  intro b s k hb;simp only[σ2]at hb;split at hb
  ·rename_i s' k' hs;split at hb
   ·cases hb
   ·rename_i Aw;cases hb;exact⟨hs,Aw⟩
  ·cases hb
 have M9:Dt G2 σ2 Fr ⟨w,0, #[]⟩ w':=by
  refine⟨?_,?_,?_,J1.frame,J1.os,J1.tape,J1.output,J1.size,?_,Amb.mono hle J1.Jd⟩
  ·intro b o hb;by_cases hk:∃k,σ1 b=some (args.length,k)
   ·obtain⟨k,hk⟩:=hk;rw[Bdo b k hk]at hb;exact hb
   ·rw[A6o b (fun k E7=>hk ⟨k,E7⟩)]at hb
    exact J1.fixed b o hb
  ·rintro b ⟨s,k⟩ hb;obtain⟨h1,h2⟩:=hσ2 b s k hb;obtain⟨h3,h4,h5⟩:=J1.own b _ h1;refine⟨?_,h4,h5⟩;rw[A6o b (fun k' E7=>?_)]
   ·exact h3
   ·rw[h1]at E7;cases E7;exact h2 rfl
  ·rintro b b' ⟨s,k⟩ hb Br;exact J1.inj b b' _ (hσ2 b s k hb).1 (hσ2 b' s k Br).1
  ·intro b o hb;by_cases hk:∃k,σ1 b=some (args.length,k)
   ·obtain⟨k,hk⟩:=hk;rw[(J1.own b _ hk).2.1]at hb;cases hb
   ·rw[A6o b (fun k E7=>hk ⟨k,E7⟩)]
    exact J1.apart b o hb
 have Boa:∀i sv,az[i]?=some sv→sv.root=none∧B4 G2 σ2 w' i sv (B6.getD i undef):=by
  intro i sv hi;obtain⟨h1,h2⟩:=has i sv hi;refine⟨h1,B4.tr h2 hle fun b k hb=>⟨?_,rfl⟩⟩
  have J4:i<args.length:=by
   have:=(List.getElem?_eq_some_iff.1 hi).1;omega
  simp only[σ2,hb];rw[if_neg (by omega)]
 refine⟨r',az,c,G2,σ2,rfl,hp',hG.trans hle,M9,?_,?_,hlen,Boa⟩
 ·unfold Es at Gh;split at Gh
  ·split at Gh
   ·cases Gh;rfl
   ·cases Gh
  ·split at Gh
   ·cases Gh;rfl
   ·cases Gh
  ·cases Gh;rfl
  ·cases Gh
 ·unfold Es at Gh;split at Gh
  ·rename_i inv t;split at Gh
   ·rename_i y hy;cases Gh;obtain⟨bs,h1,h2,h3,h4⟩:=(show Dd G1 σ1 w' args.length t c from Ay);refine A5f (A3.Ae hle h1 hy fun b hb=>?_) (by rw[(Jj hy).2];exact h2)
    obtain⟨k,hk⟩:=h4 b hb;exact Bdo b k hk
   ·cases Gh
  ·rename_i l;split at Gh
   ·rename_i r0 hr0;cases Gh;obtain⟨a,bs,h0,h1,h3,h4⟩:=(show Ary G1 σ1 w' args.length l c from Ay);refine⟨a,h0,Auu hle h1 hr0 fun b hb=>?_⟩
    obtain⟨k,hk⟩:=h4 b hb;exact Bdo b k hk
   ·cases Gh
  ·cases Gh;exact Aq.mono hle Ay
  ·cases Gh

mutual
def Eg:D→D→Prop
 |d,.it y=>d.Ae=some y
 | .st l,.st l'=>F8 l l'
 | .vec e sz l,.vec e' Bs l'=>e=e'∧sz=Bs∧F8 l l'
 | .ptr d,.ptr d'=>Eg d d'
 |_,_=>False
def F8:List D→List D→Prop
 | [],[]=>True
 |d::l,d'::l'=>Eg d d'∧F8 l l'
 |_,_=>False
end
theorem Anu{α:Type}{f g:α→D}(h:∀x,Eg (f x) (g x)):∀l:List α,F8 (l.map f) (l.map g)
 | []=>by simp[F8]
 |a::l=>by simp only[List.map_cons,F8];exact⟨h a,Anu h l⟩
theorem Yw:∀l:List I,F8 (l.map D.it) (l.map D.it)
 | []=>by simp[F8]
 |a::l=>by simp only[List.map_cons,F8,Eg,D.Ae,true_and];exact Yw l
theorem Ant:∀{l l':List D},F8 l l'→l'.length=l.length
 | [],[],_=>rfl
 |d::l,d'::l',h=>by simp only[F8]at h;simp[Ant h.2]
 | [],_::_,h=>by simp[F8]at h
 |_::_,[],h=>by simp[F8]at h
mutual
theorem Ai9:∀{d d':D},Eg d d'→d'.size=d.size∧d'.isAgg=d.isAgg
 |d,.it y,h=>by simp only[Eg]at h;exact Jj h
 | .st l,.st l',h=>by simp only[Eg]at h;exact⟨Aph h,rfl⟩
 | .vec e sz l,.vec e' Bs l',h=>⟨rfl,rfl⟩
 | .ptr d,.ptr d',h=>⟨rfl,rfl⟩
 | .it _,.st _,h=>by simp[Eg]at h
 | .it _,.vec _ _ _,h=>by simp[Eg]at h
 | .it _,.ptr _,h=>by simp[Eg]at h
 | .it _,.map _ _,h=>by simp[Eg]at h
 | .st _,.vec _ _ _,h=>by simp[Eg]at h
 | .st _,.ptr _,h=>by simp[Eg]at h
 | .st _,.map _ _,h=>by simp[Eg]at h
 | .vec _ _ _,.st _,h=>by simp[Eg]at h
 | .vec _ _ _,.ptr _,h=>by simp[Eg]at h
 | .vec _ _ _,.map _ _,h=>by simp[Eg]at h
 | .ptr _,.st _,h=>by simp[Eg]at h
 | .ptr _,.vec _ _ _,h=>by simp[Eg]at h
 | .ptr _,.map _ _,h=>by simp[Eg]at h
 | .map _ _,.st _,h=>by simp[Eg]at h
 | .map _ _,.vec _ _ _,h=>by simp[Eg]at h
 | .map _ _,.ptr _,h=>by simp[Eg]at h
 | .map _ _,.map _ _,h=>by simp[Eg]at h
theorem Aph:∀{l l':List D},F8 l l'→Ca l'=Ca l
 | [],[],_=>rfl
 |d::l,d'::l',h=>by simp only[F8]at h;simp[Ca,(Ai9 h.1).1,Aph h.2]
 | [],_::_,h=>by simp[F8]at h
 |_::_,[],h=>by simp[F8]at h
end
theorem At0{sz:Nat}:∀{l l':List D},F8 l l'→(∀x∈l,x.size=sz)→∀x∈l',x.size=sz
 | [],[],_,_=>by simp
 |d::l,d'::l',h,hs=>by
  simp only[F8]at h;intro x hx;rcases List.mem_cons.1 hx with rfl|hx
  ·rw[(Ai9 h.1).1];exact hs d (List.mem_cons_self ..)
  ·exact At0 h.2 (fun y hy=>hs y (List.mem_cons_of_mem _ hy)) x hx
 | [],_::_,h,_=>by simp[F8]at h
 |_::_,[],h,_=>by simp[F8]at h
mutual
theorem Eg.rep{G:Mem}{w:World}:∀{d d':D} {cs:List Value} {bs:List Nat},Eg d d'→A3 G w d cs bs→bs.Nodup→
 ∃Cv:List Nat,Cv.Sublist bs∧∀G':Mem,G.le G'→(∀b∈bs,b ∉ Cv→G' b=w.heap[b]?)→A3 G' w d' cs Cv
 |d,.it y,cs,bs,h,hr,hn=>by
  simp only[Eg]at h;refine⟨[],by simp,fun G' hG hb=>?_⟩
  simp only[A3];exact⟨A3.Ae hG hr h fun b Jf=>hb b Jf (by simp),trivial⟩
 | .st l,.st l',cs,bs,h,hr,hn=>by
   simp only[Eg]at h;simp only[A3]at hr;obtain⟨Cv,h1,h2⟩:=F8.rep h hr hn;exact⟨Cv,h1,fun G' hG hb=>by simp only[A3];exact h2 G' hG hb⟩
 | .vec e sz l,.vec e' Bs l',cs,bs,h,hr,hn=>by
   simp only[Eg]at h;obtain⟨rfl,rfl,h⟩:=h;simp only[A3]at hr;rcases hr with⟨rfl,rfl,rfl⟩|⟨g,off,cap,cur,xs,b0,rfl,h1,h1',h2,h3,h4,h5,h6,h7,rfl⟩
   ·have:l'=[]:=by have:=Ant h;simpa using this
    subst this;exact⟨[],by simp,fun G' hG hb=>by simp[A3]⟩
   ·obtain⟨Cv,k1,k2⟩:=F8.rep h h6 (List.nodup_cons.1 hn).2;have hlen:=Ant h;refine⟨g::Cv,by simpa using k1,fun G' hG hb=>?_⟩
    simp only[A3];refine .inr ⟨g,off,cap,cur,xs,Cv,by rw[hlen],h1,h1',by omega,h3,h4,by rw[hlen];exact h5,k2 G' hG fun b Jf Kd=>?_,At0 h h7,rfl⟩
    refine hb b (by simp[Jf]) fun Pj=>?_
    rcases List.mem_cons.1 Pj with rfl|Pj
    ·exact(List.nodup_cons.1 hn).1 Jf
    ·exact Kd Pj
 | .ptr d,.ptr d',cs,bs,h,hr,hn=>by
   simp only[Eg]at h;simp only[A3]at hr;obtain⟨g,cells,ty,b0,rfl,h1,h2,rfl⟩:=hr;obtain⟨Cv,k1,k2⟩:=Eg.rep h h2 (List.nodup_cons.1 hn).2;refine⟨g::Cv,by simpa using k1,fun G' hG hb=>?_⟩
   simp only[A3];refine⟨g,cells,ty,Cv,rfl,h1,k2 G' hG fun b Jf Kd=>?_,rfl⟩
   refine hb b (by simp[Jf]) fun Pj=>?_
   rcases List.mem_cons.1 Pj with rfl|Pj
   ·exact(List.nodup_cons.1 hn).1 Jf
   ·exact Kd Pj
 | .it _,.st _,_,_,h,_,_=>by simp[Eg]at h
 | .it _,.vec _ _ _,_,_,h,_,_=>by simp[Eg]at h
 | .it _,.ptr _,_,_,h,_,_=>by simp[Eg]at h
 | .it _,.map _ _,_,_,h,_,_=>by simp[Eg]at h
 | .st _,.vec _ _ _,_,_,h,_,_=>by simp[Eg]at h
 | .st _,.ptr _,_,_,h,_,_=>by simp[Eg]at h
 | .st _,.map _ _,_,_,h,_,_=>by simp[Eg]at h
 | .vec _ _ _,.st _,_,_,h,_,_=>by simp[Eg]at h
 | .vec _ _ _,.ptr _,_,_,h,_,_=>by simp[Eg]at h
 | .vec _ _ _,.map _ _,_,_,h,_,_=>by simp[Eg]at h
 | .ptr _,.st _,_,_,h,_,_=>by simp[Eg]at h
 | .ptr _,.vec _ _ _,_,_,h,_,_=>by simp[Eg]at h
 | .ptr _,.map _ _,_,_,h,_,_=>by simp[Eg]at h
 | .map _ _,.st _,_,_,h,_,_=>by simp[Eg]at h
 | .map _ _,.vec _ _ _,_,_,h,_,_=>by simp[Eg]at h
 | .map _ _,.ptr _,_,_,h,_,_=>by simp[Eg]at h
 | .map _ _,.map _ _,_,_,h,_,_=>by simp[Eg]at h
theorem F8.rep{G:Mem}{w:World}:∀{l l':List D} {cs:List Value} {bs:List Nat},F8 l l'→Bi G w l cs bs→bs.Nodup→
 ∃Cv:List Nat,Cv.Sublist bs∧∀G':Mem,G.le G'→(∀b∈bs,b ∉ Cv→G' b=w.heap[b]?)→Bi G' w l' cs Cv
 | [],[],cs,bs,_,hr,_=>by
   simp only[Bi]at hr;obtain⟨rfl,rfl⟩:=hr;exact⟨[],by simp,fun G' hG hb=>by simp[Bi]⟩
 |d::l,d'::l',cs,bs,h,hr,hn=>by
  simp only[F8]at h;simp only[Bi]at hr;obtain⟨c,c',b,b',rfl,rfl,h1,h2⟩:=hr;rw[List.nodup_append]at hn;obtain⟨n1,n2,n3⟩:=hn;obtain⟨bs1,k1,k2⟩:=Eg.rep h.1 h1 n1;obtain⟨bs2,k3,k4⟩:=F8.rep h.2 h2 n2;refine⟨bs1++bs2,List.Sublist.append k1 k3,fun G' hG hb=>?_⟩
  simp only[Bi];refine⟨c,c',bs1,bs2,rfl,rfl,k2 G' hG fun x hx1 hx2=>?_,k4 G' hG fun x hx1 hx2=>?_⟩
  ·refine hb x (by simp[hx1]) fun hx3=>?_
   rcases List.mem_append.1 hx3 with hx3|hx3
   ·exact hx2 hx3
   ·exact n3 x hx1 x (k3.subset hx3) rfl
  ·refine hb x (by simp[hx1]) fun hx3=>?_
   rcases List.mem_append.1 hx3 with hx3|hx3
   ·exact n3 x (k1.subset hx3) x hx1 rfl
   ·exact hx2 hx3
 | [],_::_,_,_,h,_,_=>by simp[F8]at h
 |_::_,[],_,_,h,_,_=>by simp[F8]at h
end
theorem Fn.part{P:Program}{f:FuncId}{args:List SV}{Cq Aox:SV→List SV→Prop}(h:Fn P f args Cq)(hP:∀r az,Cq r az→∃inv d d',r= .own inv d∧Eg d d'∧Aox (.own [] d') az):Fn P f args Aox:=by
 intro G σ Fr w B6 Bu Bk hin;refine(h G σ Fr w B6 Bu Bk hin).mono ?_;rintro e w' ⟨r,az,c,G1,σ1,rfl,hp,hG,J1,Dp,Ay,hlen,has⟩;obtain⟨inv,d,d',rfl,Gh,hp'⟩:=hP r az hp;obtain⟨bs,h1,h2,h3,h4⟩:=(show Dd G1 σ1 w' args.length d c from Ay);obtain⟨Cv,k1,k2⟩:=Gh.rep h1 h3
 let G2:Mem:=fun b=>if b∈bs∧b ∉ Cv then w'.heap[b]? else G1 b
 let σ2:Lab:=fun b=>if b∈bs∧b ∉ Cv then none else σ1 b
 have hle:G1.le G2:=by
  intro b o hb;simp only[G2];split
  ·rename_i hc;obtain⟨k,hk⟩:=h4 b hc.1;rw[(J1.own b _ hk).1]at hb;cases hb
  ·exact hb
 have hσ2:∀b Bg,σ2 b=some Bg→σ1 b=some Bg∧¬(b∈bs∧b ∉ Cv):=by
  intro b Bg hb;simp only[σ2]at hb;split at hb
  ·cases hb
  ·rename_i hc;exact⟨hb,hc⟩
 have M9:Dt G2 σ2 Fr ⟨w,0, #[]⟩ w':=by
  refine⟨?_,?_,?_,J1.frame,J1.os,J1.tape,J1.output,J1.size,?_,Amb.mono hle J1.Jd⟩
  ·intro b o hb;simp only[G2]at hb;split at hb
   ·exact hb
   ·exact J1.fixed b o hb
  ·intro b Bg hb;obtain⟨q1,q2⟩:=hσ2 b Bg hb;obtain⟨q3,q4,q5⟩:=J1.own b Bg q1;refine⟨?_,q4,q5⟩;simp only[G2];rw[if_neg q2];exact q3
  ·intro b b' Bg hb Br;exact J1.inj b b' Bg (hσ2 b Bg hb).1 (hσ2 b' Bg Br).1
  ·intro b o hb;simp only[G2];split
   ·rename_i hc;obtain⟨k,hk⟩:=h4 b hc.1;rw[(J1.own b _ hk).2.1]at hb;cases hb
   ·exact J1.apart b o hb
 refine⟨.own [] d',az,c,G2,σ2,rfl,hp',hG.trans hle,M9,rfl,?_,hlen,?_⟩
 ·refine⟨Cv,k2 G2 hle fun b q1 q2=>?_,by rw[(Ai9 Gh).2];exact h2,h3.sublist k1,fun b hb=>?_⟩
  ·simp only[G2];rw[if_pos ⟨q1,q2⟩]
  ·obtain⟨k,hk⟩:=h4 b (k1.subset hb);refine⟨k,?_⟩;simp only[σ2];rw[if_neg (fun hc=>hc.2 hb)]
   exact hk
 ·intro i sv hi;obtain⟨q1,q2⟩:=has i sv hi;refine⟨q1,B4.tr q2 hle fun b k hb=>⟨?_,rfl⟩⟩
  have J4:i<args.length:=by
   have:=(List.getElem?_eq_some_iff.1 hi).1;omega
  simp only[σ2];rw[if_neg]
  ·exact hb
  ·rintro⟨hc,_⟩;obtain⟨k',E7⟩:=h4 b hc;rw[hb]at E7;cases E7;exact Nat.lt_irrefl _ J4
set_option maxRecDepth 100000
set_option maxHeartbeats 40000000

open Go.Proofs
structure Ds where
 (Bh0 seq:Int) (token:Ai) (kind:Int) (name other word Bp:Ai) (bytes keys:Int) (Bz:Dg) (rev:Int) (ifs thn els:List I)
abbrev Ds.Ae(c:Ds):I:=.agg [.int .i64 c.Bh0,.int .i64 c.seq,.str c.token,.int .i64 c.kind,.str c.name,.str c.other,.str c.word,.str c.Bp,.int .i64 c.bytes,.int .i64 c.keys,c.Bz.Ae,.int .i64 c.rev,.list c.ifs,.list c.thn,.list c.els]
def IsF(x:List I)(outs:List SV)(r:SV)(as1:List SV):Prop:=Es r=some (.Dv (x.map F.i))∧as1=outs
theorem Fn.isF{P:Program}{f:FuncId}{args:List SV}{x:List I}{outs:List SV}(h:Fn P f args (IsF x outs)):Fn P f args (Is (.Dv (x.map F.i)) outs):=
 Fn.frz h fun _ _ ⟨h1,h2⟩=>⟨_,h1,rfl,h2⟩
theorem Qg(l:List Bc):Bx (l.map Bc.A6)=some (l.map Bc.Ae):=Aoo (fun x=>by simp[D.Ae,Bx,Bn, -List.map_map]) l
theorem Fm(l:List Bh):Bx (l.map Bh.A6)=some (l.map Bh.Ae):=Aoo (fun x=>by simp[D.Ae,Bx,Bn, -List.map_map]) l
def Jv(r:A8)(c:Ds):A8 × Int:=
 if r.Fa c.name<0 then(r,16)
 else match r.Ag[(r.Fa c.name).toNat]? with
 |none=>(r,16)
 |some u=>
  if c.kind=14 then
   if u.A2.any (fun e=>decide (e=c.other))then({r with rev:=r.rev+1,Ag:=r.Ag.set (r.Fa c.name).toNat {u with A2:=u.A2.filter fun e=> !decide (e=c.other)}},0)
   else(r,16)
  else if r.Ex c.other<0 then(r,16)
  else match r.Am[(r.Ex c.other).toNat]? with
   |none=>(r,16)
   |some x=>
    if x.Du≠u.Du then(r,18)
    else if u.A2.any (fun e=>decide (e=c.other))then(r,15)
    else if 4≤(u.A2.length:Int)then(r,17)
    else({r with rev:=r.rev+1,Ag:=r.Ag.set (r.Fa c.name).toNat {u with A2:=E8 (fun e=>decide (c.other<e)) c.other u.A2}},0)
abbrev A8.toN(r:A8):D:=.st [.it (.int .i64 r.rev),.vec Cc 3 ((r.Be.map B7.Ae).map D.it),.vec B3 5 ((r.Ag.map Bc.Ae).map D.it),.vec B2 3 (r.Am.map Bh.A6)]
theorem Bgx(u:Bc):Eg u.A6 (.it u.Ae):=by simp[Eg,D.Ae,Bx,Bn, -List.map_map]
theorem Bdm(x:Bh):Eg x.A6 x.A6:=by
 simp only[Eg,F8,D.Ae,true_and,and_true];exact Yw _
theorem Ka(r:A8)(hs:r.Small):Fn Tryz.prog Jq [.v r.Ae] (Is (.own [] r.toN) [.no]):=by
 refine(Bcb r hs).part ?_;rintro _ _ ⟨rfl,rfl⟩;refine⟨[],_,r.toN,rfl,?_,rfl,rfl⟩;simp only[Eg,F8,D.Ae,true_and,and_true];refine⟨Yw _,?_,Anu Bdm _⟩;rw[List.map_map];exact Anu Bgx _
theorem Dy{l:List I}{j:Nat}{y:I}:Bx ((l.map D.it).set j (D.it y))=some (l.set j y):=by
 rw[←List.map_set];exact Bn _
theorem A3z(r:A8)(hs:r.Small)(c:Ds):Fn Tryz.prog Aaa [.v r.Ae,.own [] {r with rev:=r.rev+1}.toN,.v c.Ae,.v (.int .i64 (r.Fa c.name))]
 (Is (.Dv [.i (Jv r c).1.Ae,.i (.int .i64 (Jv r c).2)]) [.no,.no,.no,.no]):=by
 refine Fn.isF (x:=[(Jv r c).1.Ae,.int .i64 (Jv r c).2]) ?_;refine Xu ?_ (by simp)
 obtain⟨b1,b2,b3,b4,b5⟩:=hs;rcases G7 (fun t:Bc=>decide (t.name=c.name)) 0 r.Ag with h|⟨j,h,hj,u,Hg,Mg⟩
 ·have h':r.Fa c.name= -1:=h;rw[h'];repeat'((conv=>whnf);first|(apply aI<;>intro hb<;>first|exact absurd hb (by decide)|((try rw[hb]);(try simp only[Ad]at hb)))|(refine eI ?_ ?_;focus (and_intros<;>exact rfl)))
  all_goals(try(conv=>whnf))
  all_goals(refine Bd.mk ⟨?_,by kernel_rfl⟩ (by kernel_rfl))
  all_goals(try simp only[Jv,h'])
  all_goals(try simp only[Jv,h', *,if_true,if_false,Bool.false_eq_true,Bool.true_eq_false,Bool.not_true,Bool.not_false,decide_true,decide_false,not_true_eq_false,not_false_eq_true,ne_eq,reduceIte])
  all_goals(try simp only[F4,Es,I.put,List.replicate_succ,List.replicate_zero,Bx,D.Ae,Bn,Dy,List.map_cons,List.map_nil,List.set_cons_zero,List.set_cons_succ,Cu,Cn,List.map_set,Int.toNat_natCast])
  all_goals(try rfl)
 ·have h':r.Fa c.name=(j:Int):=by rw[show r.Fa c.name=((0+j:Nat):Int)from h,Nat.zero_add]
  rw[h'];have Pw:=b4 u (List.mem_of_getElem? Hg);have g1:=Be2 u.A2 c.other (by omega)
  have g2:=Akj u.A2 c.other (by omega)
  have g3:=A8y u.A2 c.other (by omega)
  have g4:=Fs r c.other (by omega)
  have Po:r.Ag[Int.toNat (j:Int)]?=some u:=Hg;rcases G7 (fun t:Bh=>decide (t.name=c.other)) 0 r.Am with hx|⟨k,hx,hk,x,hkx,hxn⟩
  ·have hx':r.Ex c.other= -1:=hx;rw[hx']at g4;repeat'((conv=>whnf);first|(apply aI<;>intro hb<;>first|exact absurd hb (by decide)|(exfalso;simp only[Az]at hb<;>omega)|((try rw[hb]);(try simp only[Ad]at hb)))|(refine eI ?_ ?_;focus (and_intros<;>first|omega|exact rfl|(intro _ hh;cases hh;done)|(simp only[Az];omega)|(simp;done)|decide))|((with_reducible apply A5.B5);(focus kernel_rfl);intro Aa;(try simp only[dRS]at Aa))|((try dsimp only);first|rw[Av Hg]|rw[An Hg]|rw[Ap Hg])|(refine Ac.mk ⟨_,g1,?_⟩;rintro _ _ ⟨rfl,rfl⟩)|(refine Aj.mk ⟨_,_,g2,?_⟩)|(refine Ac.mk ⟨_,g4,?_⟩;rintro _ _ ⟨rfl,rfl⟩)|((first|with_reducible apply Lr|((with_reducible apply D9);(focus rfl)));(focus (simp only[D.at,D.put,D.Dj,D.Db,List.cons_append,List.nil_append,List.append,List.getElem?_cons_zero,List.getElem?_cons_succ,Int.toNat_natCast,List.getElem?_set_self',Option.map_eq_map,Option.map_some,List.set_cons_zero,List.set_cons_succ,List.set_set,Function.const_apply,List.map_cons,List.map_nil,Cu,Cn,D.Ae,Bx,Bn,List.getElem?_map,List.length_map,List.length_set,Hg]<;>exact rfl));(try(focus exact rfl))))
   all_goals(try(conv=>whnf))
   all_goals clear Hg h hx
   all_goals(refine Bd.mk ⟨?_,by kernel_rfl⟩ (by kernel_rfl))
   all_goals(try simp only[Jv,h',Po])
   all_goals(try simp only[Jv,h',Po, *,if_true,if_false,Bool.false_eq_true,Bool.true_eq_false,Bool.not_true,Bool.not_false,decide_true,decide_false,not_true_eq_false,not_false_eq_true,ne_eq,reduceIte])
   all_goals(try simp only[F4,Es,I.put,List.replicate_succ,List.replicate_zero,Bx,D.Ae,Bn,Dy,List.map_cons,List.map_nil,List.set_cons_zero,List.set_cons_succ,Cu,Cn,List.map_set,Int.toNat_natCast,Fm,A8.Ae,Bc.Ae])
   all_goals(try rfl)
  ·have hx':r.Ex c.other=(k:Int):=by rw[show r.Ex c.other=((0+k:Nat):Int)from hx,Nat.zero_add]
   rw[hx']at g4;have hk0:r.Am[Int.toNat (k:Int)]?=some x:=hkx;repeat'((conv=>whnf);first|(apply aI<;>intro hb<;>first|(exfalso;simp only[Az]at hb<;>omega)|((try rw[hb]);(try simp only[Ad]at hb)))|(refine eI ?_ ?_;focus (and_intros<;>first|omega|exact rfl|(intro _ hh;cases hh;done)|(simp only[Az];omega)|(simp;done)|decide))|(intro Aa)|((with_reducible apply A5.B5);(focus kernel_rfl);intro Aa;(try simp only[dRS]at Aa))|((try dsimp only);first|rw[Av Hg]|rw[An Hg]|rw[Ap Hg])|((try dsimp only);first|rw[Av hkx]|rw[An hkx]|rw[Ap hkx])|(refine Ac.mk ⟨_,g1,?_⟩;rintro _ _ ⟨rfl,rfl⟩)|(refine Aj.mk ⟨_,_,g2,?_⟩)|(refine Aj.mk ⟨_,_,g3,?_⟩)|(refine Ac.mk ⟨_,g4,?_⟩;rintro _ _ ⟨rfl,rfl⟩)|((first|with_reducible apply Lr|((with_reducible apply D9);(focus rfl)));(focus (simp only[D.at,D.put,D.Dj,D.Db,List.cons_append,List.nil_append,List.append,List.getElem?_cons_zero,List.getElem?_cons_succ,Int.toNat_natCast,List.getElem?_set_self',Option.map_eq_map,Option.map_some,List.set_cons_zero,List.set_cons_succ,List.set_set,Function.const_apply,List.map_cons,List.map_nil,Cu,Cn,D.Ae,Bx,Bn,List.getElem?_map,List.length_map,List.length_set,Hg,hkx]<;>exact rfl));(try(focus exact rfl))))
   all_goals(try(conv=>whnf))
   all_goals clear Hg h hx hkx
   all_goals(refine Bd.mk ⟨?_,by kernel_rfl⟩ (by kernel_rfl))
   all_goals(try simp only[Jv,h',Po,hk0])
   all_goals(try simp only[Jv,h',Po,hk0, *,if_true,if_false,Bool.false_eq_true,Bool.true_eq_false,Bool.not_true,Bool.not_false,decide_true,decide_false,not_true_eq_false,not_false_eq_true,ne_eq,reduceIte])
   all_goals(try simp only[F4,Es,I.put,List.replicate_succ,List.replicate_zero,Bx,D.Ae,Bn,Dy,List.map_cons,List.map_nil,List.set_cons_zero,List.set_cons_succ,Cu,Cn,List.map_set,Int.toNat_natCast,Fm,A8.Ae,Bc.Ae])
   all_goals(try rfl)

open Go.Proofs
theorem A3x(r:A8)(hs:r.Small)(c:Ds)(Pu: -9223372036854775808≤r.rev∧r.rev≤9223372036854775806)(hk:c.kind<4∨14<c.kind):Fn Tryz.prog C6 [.v r.Ae,.v c.Ae] (Is (.Dv [.i r.Ae,.i (.int .i64 1)]) [.no,.no]):=by
 refine Fn.isF (x:=[r.Ae,.int .i64 1]) ?_;refine C3 ?_ (by simp)
 have cp:=Ka r hs;have hw:IntKind.i64.wrap (r.rev+1)=r.rev+1:=Cf (by omega)
 repeat'((conv=>whnf);first|(apply aI<;>intro hb<;>first|exact absurd hb (by decide)|(exfalso;simp only[Az]at hb<;>omega)|((try rw[hb]);(try simp only[Ad]at hb)))|(refine eI ?_ ?_;focus (and_intros<;>first|exact rfl|(intro _ hh;cases hh;done)|(simp;done)|decide))|(refine Ac.mk ⟨_,cp,?_⟩;rintro _ _ ⟨rfl,rfl⟩)|((try dsimp only);rw[hw]))
 all_goals(try(conv=>whnf))
 all_goals(refine Bd.mk ⟨?_,by kernel_rfl⟩ (by kernel_rfl))
 all_goals(try simp only[hw])
 all_goals(try simp only[hw, *,if_true,if_false,Bool.false_eq_true,Bool.true_eq_false,Bool.not_true,Bool.not_false,decide_true,decide_false,not_true_eq_false,not_false_eq_true,ne_eq,reduceIte])
 all_goals(try simp only[F4,Es,I.put,List.replicate_succ,List.replicate_zero,Bx,D.Ae,Bn,Dy,List.map_cons,List.map_nil,List.set_cons_zero,List.set_cons_succ,Cu,Cn,List.map_set,Int.toNat_natCast])
 all_goals(try rfl)
theorem A3y(r:A8)(hs:r.Small)(c:Ds)(Pu: -9223372036854775808≤r.rev∧r.rev≤9223372036854775806)(hk:4≤c.kind∧c.kind≤14)(hm:1099511627776≤r.rev):Fn Tryz.prog C6 [.v r.Ae,.v c.Ae] (Is (.Dv [.i r.Ae,.i (.int .i64 17)]) [.no,.no]):=by
 refine Fn.isF (x:=[r.Ae,.int .i64 17]) ?_;refine C3 ?_ (by simp)
 have cp:=Ka r hs;have hw:IntKind.i64.wrap (r.rev+1)=r.rev+1:=Cf (by omega)
 repeat'((conv=>whnf);first|(apply aI<;>intro hb<;>first|exact absurd hb (by decide)|(exfalso;simp only[Az]at hb<;>omega)|((try rw[hb]);(try simp only[Ad]at hb)))|(refine eI ?_ ?_;focus (and_intros<;>first|exact rfl|(intro _ hh;cases hh;done)|(simp;done)|decide))|(refine Ac.mk ⟨_,cp,?_⟩;rintro _ _ ⟨rfl,rfl⟩)|((try dsimp only);rw[hw]))
 all_goals(try(conv=>whnf))
 all_goals(refine Bd.mk ⟨?_,by kernel_rfl⟩ (by kernel_rfl))
 all_goals(try simp only[hw])
 all_goals(try simp only[hw, *,if_true,if_false,Bool.false_eq_true,Bool.true_eq_false,Bool.not_true,Bool.not_false,decide_true,decide_false,not_true_eq_false,not_false_eq_true,ne_eq,reduceIte])
 all_goals(try simp only[F4,Es,I.put,List.replicate_succ,List.replicate_zero,Bx,D.Ae,Bn,Dy,List.map_cons,List.map_nil,List.set_cons_zero,List.set_cons_succ,Cu,Cn,List.map_set,Int.toNat_natCast])
 all_goals(try rfl)
theorem A1y(r:A8)(hs:r.Small)(c:Ds)(Pu: -9223372036854775808≤r.rev∧r.rev<1099511627776)(hk:c.kind=13∨c.kind=14):Fn Tryz.prog C6 [.v r.Ae,.v c.Ae] (Is (.Dv [.i (Jv r c).1.Ae,.i (.int .i64 (Jv r c).2)]) [.no,.no]):=by
 refine Fn.isF (x:=[(Jv r c).1.Ae,.int .i64 (Jv r c).2]) ?_;refine C3 ?_ (by simp)
 have cp:=Ka r hs;have hw:IntKind.i64.wrap (r.rev+1)=r.rev+1:=Cf (by omega)
 have Jf:=hs.hT;have Kd:=hs.hU;have Pj:=hs.hX;have t1:=D6 r c.other (by omega)
 have u1:=Gc r c.name (by omega)
 have x1:=Fs r c.name (by omega)
 have hv:=A3z r hs c;repeat'((conv=>whnf);first|(apply aI<;>intro hb<;>first|exact absurd hb (by decide)|(exfalso;simp only[Az]at hb<;>omega)|((try rw[hb]);(try simp only[Ad]at hb)))|(refine eI ?_ ?_;focus (and_intros<;>first|omega|exact rfl|(intro _ hh;cases hh;done)|(simp;done)|decide))|((with_reducible apply A5.B5);(focus kernel_rfl);intro Aa;(try simp only[dRS]at Aa))|(refine Ac.mk ⟨_,cp,?_⟩;rintro _ _ ⟨rfl,rfl⟩)|((try dsimp only);rw[hw])|(refine Aj.mk ⟨_,_,t1,?_⟩)|(refine Aj.mk ⟨_,_,u1,?_⟩)|(refine Aj.mk ⟨_,_,x1,?_⟩)|(refine Ac.mk ⟨_,hv,?_⟩;rintro _ _ ⟨rfl,rfl⟩))
 all_goals(try(conv=>whnf))
 all_goals(refine Bd.mk ⟨?_,by kernel_rfl⟩ (by kernel_rfl))
 all_goals(try simp only[hw])
 all_goals(try simp only[hw, *,if_true,if_false,Bool.false_eq_true,Bool.true_eq_false,Bool.not_true,Bool.not_false,decide_true,decide_false,not_true_eq_false,not_false_eq_true,ne_eq,reduceIte])
 all_goals(try simp only[F4,Es,I.put,List.replicate_succ,List.replicate_zero,Bx,D.Ae,Bn,Dy,List.map_cons,List.map_nil,List.set_cons_zero,List.set_cons_succ,Cu,Cn,List.map_set,Int.toNat_natCast])
 all_goals(try rfl)

open Go.Proofs
theorem T2(r:A8)(hs:r.Small):Fn Tryz.prog Jq [.v r.Ae] (Is (.v r.Ae) [.no]):=by
 refine(Ka r hs).frz ?_;rintro _ _ ⟨rfl,rfl⟩;exact⟨_,by simp only[Es,D.Ae,Bx,Bn,Fm],rfl,rfl⟩
theorem take_size{α:Type}{f:α→I}{l:List α}{n i j:Nat}(h:∀a,(f a).size=n):∀u∈((l.map f).take j).drop i,u.size=n:=fun u hu=>
 size_map h u (List.mem_of_mem_take (List.mem_of_mem_drop hu))
def L3(r:A8)(c:Ds):A8 × Int:=
 if r.Fa c.name<0 then(r,16)
 else if c.name=[114,111,111,116]then(r,1)
 else({r with rev:=r.rev+1,Ag:=r.Ag.take (r.Fa c.name).toNat++r.Ag.drop ((r.Fa c.name).toNat+1)},0)
theorem Awg(r:A8)(hs:r.Small)(c:Ds)(Pu: -9223372036854775808≤r.rev∧r.rev<1099511627776)(hk:c.kind=8):Fn Tryz.prog C6 [.v r.Ae,.v c.Ae] (Is (.Dv [.i (L3 r c).1.Ae,.i (.int .i64 (L3 r c).2)]) [.no,.no]):=by
 refine Fn.isF (x:=[(L3 r c).1.Ae,.int .i64 (L3 r c).2]) ?_;refine C3 ?_ (by simp)
 have cp:=T2 r hs;have hw:IntKind.i64.wrap (r.rev+1)=r.rev+1:=Cf (by omega)
 have Jf:=hs.hT;have Kd:=hs.hU;have Pj:=hs.hX;have t1:=D6 r c.other (by omega)
 have u1:=Gc r c.name (by omega)
 have x1:=Fs r c.name (by omega)
 rcases G7 (fun t:Bc=>decide (t.name=c.name)) 0 r.Ag with h|⟨j,h,hj,u,Hg,Mg⟩
 ·have h':r.Fa c.name= -1:=h;rw[h']at u1;repeat'((conv=>whnf);first|(apply aI<;>intro hb<;>first|exact absurd hb (by decide)|(exfalso;simp only[Az]at hb<;>omega)|((try rw[hb]);(try simp only[Ad]at hb)))|(refine eI ?_ ?_;focus (and_intros<;>first|exact rfl|(intro _ hh;cases hh;done)|(simp;done)|decide))|((with_reducible apply A5.B5);(focus kernel_rfl);intro Aa;(try simp only[dRS]at Aa))|(refine Ac.mk ⟨_,cp,?_⟩;rintro _ _ ⟨rfl,rfl⟩)|((try dsimp only);rw[hw])|(refine Aj.mk ⟨_,_,t1,?_⟩)|(refine Aj.mk ⟨_,_,u1,?_⟩)|(refine Aj.mk ⟨_,_,x1,?_⟩))
  all_goals(try(conv=>whnf))
  all_goals(refine Bd.mk ⟨?_,by kernel_rfl⟩ (by kernel_rfl))
  all_goals(try simp only[L3,h'])
  all_goals(try simp only[L3,h', *,if_true,if_false,Bool.false_eq_true,Bool.true_eq_false,Bool.not_true,Bool.not_false,decide_true,decide_false,not_true_eq_false,not_false_eq_true,ne_eq,reduceIte])
  all_goals(try simp only[F4,Es,I.put,List.replicate_succ,List.replicate_zero,Bx,D.Ae,Bn,Dy,List.map_cons,List.map_nil,List.set_cons_zero,List.set_cons_succ,Cu,Cn,List.map_set,Int.toNat_natCast])
  all_goals(try rfl)
 ·have h':r.Fa c.name=(j:Int):=by rw[show r.Fa c.name=((0+j:Nat):Int)from h,Nat.zero_add]
  rw[h']at u1;have hw1:IntKind.i64.wrap ((j:Int)+1)=((j+1:Nat):Int):=Ak hj (by simp only[maxLen];omega)
  repeat'((conv=>whnf);first|(apply aI<;>intro hb<;>first|exact absurd hb (by decide)|(exfalso;simp only[Az]at hb<;>omega)|((try rw[hb]);(try simp only[Ad]at hb)))|(refine eI ?_ ?_;focus (and_intros<;>first|omega|exact rfl|(intro _ hh;cases hh;done)|exact size_map (fun _=>rfl)|exact take_size (fun _=>rfl)|(simp only[Az];omega)|(simp;done)|decide))|((with_reducible apply A5.B5);(focus kernel_rfl);intro Aa;(try simp only[dRS]at Aa))|(refine Ac.mk ⟨_,cp,?_⟩;rintro _ _ ⟨rfl,rfl⟩)|((try dsimp only);rw[hw])|(refine Aj.mk ⟨_,_,t1,?_⟩)|(refine Aj.mk ⟨_,_,u1,?_⟩)|(refine Aj.mk ⟨_,_,x1,?_⟩)|((try dsimp only);rw[hw1]))
  all_goals(try(conv=>whnf))
  all_goals clear h
  all_goals(refine Bd.mk ⟨?_,by kernel_rfl⟩ (by kernel_rfl))
  all_goals(try simp only[L3,h'])
  all_goals(try simp only[L3,h', *,if_true,if_false,Bool.false_eq_true,Bool.true_eq_false,Bool.not_true,Bool.not_false,decide_true,decide_false,not_true_eq_false,not_false_eq_true,ne_eq,reduceIte])
  all_goals(try simp only[F4,Es,I.put,List.replicate_succ,List.replicate_zero,Bx,D.Ae,Bn,Dy,List.map_cons,List.map_nil,List.set_cons_zero,List.set_cons_succ,Cu,Cn, ←List.map_take, ←List.map_drop, ←List.map_append, ←List.map_set,List.nil_append,List.length_map,List.take_length,List.drop_zero,Int.toNat_zero,Int.toNat_natCast,A8.Ae])
  all_goals(try simp only[A8.Ae])
  all_goals(try rfl)

open Go.Proofs
theorem Akp:∀{l:List Bh} {j:Nat} (_:j<l.length) (y:D),Bx ((l.map Bh.A6).set j y)=(match y.Ae with|some y'=>some ((l.map Bh.Ae).set j y')|none=>none)
 | [],_,h,_=>by simp at h
 |a::l,0,_,y=>by
  simp only[List.map_cons,List.set_cons_zero,Bx,Fm];cases y.Ae<;>rfl
 |a::l,j+1,h,y=>by
  have ih:=Akp (l:=l) (j:=j) (by simpa using h) y
  simp only[List.map_cons,List.set_cons_succ,Bx,ih,D.Ae,Bn];cases y.Ae<;>rfl
theorem Bcr{l:List I}{x:I}:Bx (l.map D.it++[D.it x])=some (l++[x]):=by
 rw[show l.map D.it++[D.it x]=(l++[x]).map D.it by simp]
 exact Bn _
def Dq(n:Int):Bool:=decide (0≤n)&&decide (n≤1099511627776)
def L8(r:A8)(c:Ds):A8 × Int:=
 if Dq c.bytes=false then(r,1)
 else if Dq c.keys=false then(r,1)
 else if r.Hn c.name<0 then(r,16)
 else({r with rev:=r.rev+1,Be:=r.Be.set (r.Hn c.name).toNat ⟨c.name,c.bytes,c.keys⟩},0)
theorem Awh(r:A8)(hs:r.Small)(c:Ds)(Pu: -9223372036854775808≤r.rev∧r.rev<1099511627776)(hk:c.kind=5):Fn Tryz.prog C6 [.v r.Ae,.v c.Ae] (Is (.Dv [.i (L8 r c).1.Ae,.i (.int .i64 (L8 r c).2)]) [.no,.no]):=by
 refine Fn.isF (x:=[(L8 r c).1.Ae,.int .i64 (L8 r c).2]) ?_;refine C3 ?_ (by simp)
 have cp:=Ka r hs;have hw:IntKind.i64.wrap (r.rev+1)=r.rev+1:=Cf (by omega)
 have Jf:=hs.hT;have Kd:=hs.hU;have Pj:=hs.hX;have t1:=D6 r c.other (by omega)
 have t2:=D6 r c.name (by omega)
 have u1:=Gc r c.name (by omega)
 have x1:=Fs r c.name (by omega)
 have n1:Fn Tryz.prog G4 [.v (.int .i64 c.bytes)] (Is (.v (.bool (Dq c.bytes))) [.no]):=Vf c.bytes;have n2:Fn Tryz.prog G4 [.v (.int .i64 c.keys)] (Is (.v (.bool (Dq c.keys))) [.no]):=Vf c.keys;rcases G7 (fun t:B7=>decide (t.name=c.name)) 0 r.Be with h|⟨j,h,hj,u,Hg,Mg⟩
 ·have h':r.Hn c.name= -1:=h;rw[h']at t2;repeat'((conv=>whnf);first|(apply aI<;>intro hb<;>first|exact absurd hb (by decide)|(exfalso;simp only[Az]at hb<;>omega)|((try rw[hb]);(try simp only[Ad]at hb)))|(refine eI ?_ ?_;focus (and_intros<;>first|omega|exact rfl|(intro _ hh;cases hh;done)|(simp;done)|decide))|((with_reducible apply A5.B5);(focus kernel_rfl);intro Aa;(try simp only[dRS]at Aa))|(refine Ac.mk ⟨_,cp,?_⟩;rintro _ _ ⟨rfl,rfl⟩)|((try dsimp only);rw[hw])|(refine Aj.mk ⟨_,_,t1,?_⟩)|(refine Aj.mk ⟨_,_,u1,?_⟩)|(refine Aj.mk ⟨_,_,x1,?_⟩)|(refine Ac.mk ⟨_,t2,?_⟩;rintro _ _ ⟨rfl,rfl⟩)|(refine Ac.mk ⟨_,n1,?_⟩;rintro _ _ ⟨rfl,rfl⟩)|(refine Ac.mk ⟨_,n2,?_⟩;rintro _ _ ⟨rfl,rfl⟩))
  all_goals(try(conv=>whnf))
  all_goals(refine Bd.mk ⟨?_,by kernel_rfl⟩ (by kernel_rfl))
  all_goals(try simp only[L8,h'])
  all_goals(try simp only[L8,h', *,if_true,if_false,Bool.false_eq_true,Bool.true_eq_false,Bool.not_true,Bool.not_false,decide_true,decide_false,not_true_eq_false,not_false_eq_true,ne_eq,reduceIte])
  all_goals(try simp only[F4,Es,I.put,List.replicate_succ,List.replicate_zero,Bx,D.Ae,Bn,Dy,List.map_cons,List.map_nil,List.set_cons_zero,List.set_cons_succ,Cu,Cn,List.map_set,Int.toNat_natCast])
  all_goals(try rfl)
 ·have h':r.Hn c.name=(j:Int):=by rw[show r.Hn c.name=((0+j:Nat):Int)from h,Nat.zero_add]
  rw[h']at t2;repeat'((conv=>whnf);first|(apply aI<;>intro hb<;>first|exact absurd hb (by decide)|(exfalso;simp only[Az]at hb<;>omega)|((try rw[hb]);(try simp only[Ad]at hb)))|(refine eI ?_ ?_;focus (and_intros<;>first|omega|exact rfl|(intro _ hh;cases hh;done)|(simp only[Az];omega)|(simp;done)|decide))|((with_reducible apply A5.B5);(focus kernel_rfl);intro Aa;(try simp only[dRS]at Aa))|(refine Ac.mk ⟨_,cp,?_⟩;rintro _ _ ⟨rfl,rfl⟩)|((try dsimp only);rw[hw])|(refine Aj.mk ⟨_,_,t1,?_⟩)|(refine Aj.mk ⟨_,_,u1,?_⟩)|(refine Aj.mk ⟨_,_,x1,?_⟩)|(refine Ac.mk ⟨_,t2,?_⟩;rintro _ _ ⟨rfl,rfl⟩)|(refine Ac.mk ⟨_,n1,?_⟩;rintro _ _ ⟨rfl,rfl⟩)|(refine Ac.mk ⟨_,n2,?_⟩;rintro _ _ ⟨rfl,rfl⟩)|((with_reducible apply Ahs);(focus (simp only[D.at,D.put,D.Dj,D.Db,List.cons_append,List.nil_append,List.append,List.getElem?_cons_zero,List.getElem?_cons_succ,Int.toNat_natCast,List.getElem?_set_self',Option.map_eq_map,Option.map_some,List.set_cons_zero,List.set_cons_succ,List.set_set,Function.const_apply,List.map_cons,List.map_nil,Cu,Cn,D.Ae,Bx,Bn,List.getElem?_map,List.length_map,List.length_set,Hg]<;>exact rfl))))
  all_goals(try(conv=>whnf))
  all_goals clear h Hg
  all_goals(refine Bd.mk ⟨?_,by kernel_rfl⟩ (by kernel_rfl))
  all_goals(try simp only[L8,h'])
  all_goals(try simp only[L8,h', *,if_true,if_false,Bool.false_eq_true,Bool.true_eq_false,Bool.not_true,Bool.not_false,decide_true,decide_false,not_true_eq_false,not_false_eq_true,ne_eq,reduceIte])
  all_goals(try simp only[F4,Es,I.put,List.replicate_succ,List.replicate_zero,Bx,D.Ae,Bn,Dy,List.map_cons,List.map_nil,List.set_cons_zero,List.set_cons_succ,Cu,Cn,List.map_set,Int.toNat_natCast,Fm,A8.Ae,B7.Ae])
  all_goals(try rfl)
def Lx(r:A8)(c:Ds):A8 × Int:=
 if !(decide (Dk c.Bz.sp)&&(c.Bz.r||c.Bz.w))then(r,1)
 else if r.Ex c.name<0 then(r,16)
 else match r.Am[(r.Ex c.name).toNat]? with
 |none=>(r,16)
 |some x=>
  if x.A4.any (fun e=>decide (e=c.Bz))then(r,15)
  else if 8≤(x.A4.length:Int)then(r,17)
  else({r with rev:=r.rev+1,Am:=r.Am.set (r.Ex c.name).toNat {x with A4:=x.A4++[c.Bz]}},0)
theorem Akf(g:Dg):Fn Tryz.prog Ace [.v g.Ae] (Is (.v (.bool (decide (Dk g.sp)&&(g.r||g.w)))) [.no]):=by
 refine Aav ?_ (by simp)
 have s1:=Hc g.sp;repeat'((conv=>whnf);first|(apply aI<;>intro hb<;>first|exact absurd hb (by decide)|((try rw[hb]);(try simp only[Ad]at hb)))|(refine eI ?_ ?_;focus (and_intros<;>first|omega|exact rfl|(intro _ hh;cases hh;done)|(simp;done)|decide))|(refine Ac.mk ⟨_,s1,?_⟩;rintro _ _ ⟨rfl,rfl⟩))
 all_goals(try(conv=>whnf))
 all_goals(refine Bd.mk ⟨SV.Co ?_,by kernel_rfl⟩ (by kernel_rfl))
 all_goals(simp[*])
theorem Awf(r:A8)(hs:r.Small)(c:Ds)(Pu: -9223372036854775808≤r.rev∧r.rev<1099511627776)(hk:c.kind=11):Fn Tryz.prog C6 [.v r.Ae,.v c.Ae] (Is (.Dv [.i (Lx r c).1.Ae,.i (.int .i64 (Lx r c).2)]) [.no,.no]):=by
 refine Fn.isF (x:=[(Lx r c).1.Ae,.int .i64 (Lx r c).2]) ?_;refine C3 ?_ (by simp)
 have cp:=Ka r hs;have hw:IntKind.i64.wrap (r.rev+1)=r.rev+1:=Cf (by omega)
 have Jf:=hs.hT;have Kd:=hs.hU;have Pj:=hs.hX;have t1:=D6 r c.other (by omega)
 have u1:=Gc r c.name (by omega)
 have x1:=Fs r c.name (by omega)
 have g1:=Akf c.Bz;rcases G7 (fun t:Bh=>decide (t.name=c.name)) 0 r.Am with h|⟨j,h,hj,x,Hg,Mg⟩
 ·have h':r.Ex c.name= -1:=h;rw[h']at x1;repeat'((conv=>whnf);first|(apply aI<;>intro hb<;>first|exact absurd hb (by decide)|(exfalso;simp only[Az]at hb<;>omega)|((try rw[hb]);(try simp only[Ad]at hb)))|(refine eI ?_ ?_;focus (and_intros<;>first|exact rfl|(intro _ hh;cases hh;done)|(simp;done)|decide))|((with_reducible apply A5.B5);(focus kernel_rfl);intro Aa;(try simp only[dRS]at Aa))|(refine Ac.mk ⟨_,cp,?_⟩;rintro _ _ ⟨rfl,rfl⟩)|((try dsimp only);rw[hw])|(refine Aj.mk ⟨_,_,t1,?_⟩)|(refine Aj.mk ⟨_,_,u1,?_⟩)|(refine Aj.mk ⟨_,_,x1,?_⟩)|(refine Ac.mk ⟨_,g1,?_⟩;rintro _ _ ⟨rfl,rfl⟩))
  all_goals(try(conv=>whnf))
  all_goals(refine Bd.mk ⟨?_,by kernel_rfl⟩ (by kernel_rfl))
  all_goals(try simp only[Lx,h'])
  all_goals(try simp only[Lx,h', *,if_true,if_false,Bool.false_eq_true,Bool.true_eq_false,Bool.not_true,Bool.not_false,decide_true,decide_false,not_true_eq_false,not_false_eq_true,ne_eq,reduceIte])
  all_goals(try simp only[F4,Es,I.put,List.replicate_succ,List.replicate_zero,Bx,D.Ae,Bn,Dy,List.map_cons,List.map_nil,List.set_cons_zero,List.set_cons_succ,Cu,Cn,List.map_set,Int.toNat_natCast])
  all_goals(try rfl)
 ·have h':r.Ex c.name=(j:Int):=by rw[show r.Ex c.name=((0+j:Nat):Int)from h,Nat.zero_add]
  rw[h']at x1;have hxl:=hs.hG x (List.mem_of_getElem? Hg);have Po:r.Am[Int.toNat (j:Int)]?=some x:=Hg;have g2:=Wv x.A4 c.Bz (by omega)
  repeat'((conv=>whnf);first|(apply aI<;>intro hb<;>first|exact absurd hb (by decide)|(exfalso;simp only[Az]at hb<;>omega)|((try rw[hb]);(try simp only[Ad]at hb)))|(refine eI ?_ ?_;focus (and_intros<;>first|omega|exact rfl|(intro _ hh;cases hh;done)|exact B8 (by rfl)|exact F5 rfl|(simp only[Az];omega)|(simp;done)|decide))|(intro Aa)|(refine A5.mk (by kernel_rfl) (by repeat'((conv=>whnf);first|exact True.intro|refine And.intro ?_ ?_|rfl|(dsimp only[Agd,Ar8,Ai5,Agc,seen];rfl))) (fun Aa=>?_);(try simp only[dRS]at Aa))|(refine Ac.mk ⟨_,cp,?_⟩;rintro _ _ ⟨rfl,rfl⟩)|((try dsimp only);rw[hw])|(refine Aj.mk ⟨_,_,t1,?_⟩)|(refine Aj.mk ⟨_,_,u1,?_⟩)|(refine Aj.mk ⟨_,_,x1,?_⟩)|(refine Ac.mk ⟨_,g1,?_⟩;rintro _ _ ⟨rfl,rfl⟩)|((try dsimp only);first|rw[Av Hg]|rw[An Hg]|rw[Ap Hg])|(refine Ac.mk ⟨_,g2,?_⟩;rintro _ _ ⟨rfl,rfl⟩)|((first|with_reducible apply Lr|((with_reducible apply D9);(focus rfl)));(focus (simp only[D.at,D.put,D.Dj,D.Db,List.cons_append,List.nil_append,List.append,List.getElem?_cons_zero,List.getElem?_cons_succ,Int.toNat_natCast,List.getElem?_set_self',Option.map_eq_map,Option.map_some,List.set_cons_zero,List.set_cons_succ,List.set_set,Function.const_apply,List.map_cons,List.map_nil,Cu,Cn,D.Ae,Bx,Bn,List.getElem?_map,List.length_map,List.length_set,Hg]<;>exact rfl));(try(focus exact rfl))))
  all_goals(try(conv=>whnf))
  all_goals clear h Hg
  all_goals(refine Bd.mk ⟨?_,by kernel_rfl⟩ (by kernel_rfl))
  all_goals(try simp only[Lx,h',Po])
  all_goals(try simp only[Lx,h',Po, *,if_true,if_false,Bool.false_eq_true,Bool.true_eq_false,Bool.not_true,Bool.not_false,decide_true,decide_false,not_true_eq_false,not_false_eq_true,ne_eq,reduceIte])
  all_goals(try simp only[F4,Es,I.put,List.replicate_succ,List.replicate_zero,Bx,D.Ae,Bn,Dy,List.map_cons,List.map_nil,List.set_cons_zero,List.set_cons_succ,Cu,Cn,List.map_set,Int.toNat_natCast,Fm,A8.Ae,Bh.Ae,Akp hj,Bcr,List.map_append])
  all_goals(try rfl)

open Go.Proofs
abbrev A8.toU(r:A8):D:=.st [.it (.int .i64 r.rev),.vec Cc 3 ((r.Be.map B7.Ae).map D.it),.vec B3 5 ((r.Ag.map Bc.Ae).map D.it),.it (.list (r.Am.map Bh.Ae))]
theorem A8q(r:A8)(hs:r.Small):Fn Tryz.prog Jq [.v r.Ae] (Is (.own [] r.toU) [.no]):=by
 refine(Ka r hs).part ?_;rintro _ _ ⟨rfl,rfl⟩;refine⟨[],_,r.toU,rfl,?_,rfl,rfl⟩;simp only[Eg,F8,D.Ae,true_and,and_true,Fm];exact⟨Yw _,Yw _⟩
def T6(n:Ai)(u:Bc):Bc:={u with A2:=u.A2.filter fun e=> !decide (e=n)}
def Qo(r:A8)(c:Ds):A8 × Int:=
 if r.Ex c.name<0 then(r,16)
 else({r with rev:=r.rev+1,Am:=r.Am.take (r.Ex c.name).toNat++r.Am.drop ((r.Ex c.name).toNat+1),Ag:=r.Ag.map (T6 c.name)},0)
def Lb(n:Ai)(l:List Bc)(k:Nat):List Bc:=(l.take k).map (T6 n)++l.drop k
theorem Auo{n:Ai}{l:List Bc}{k:Nat}{u:Bc}(h:l[k]?=some u):(Lb n l k)[k]?=some u:=by
 have hk:=(List.getElem?_eq_some_iff.1 h).1;unfold Lb;rw[List.getElem?_append_right (by simp;omega)]
 simp[Nat.min_eq_left (Nat.le_of_lt hk),h]
theorem Aup{n:Ai}{l:List Bc}{k:Nat}{u:Bc}(h:l[k]?=some u):(Lb n l k).set k (T6 n u)=Lb n l (k+1):=by
 have hk:=(List.getElem?_eq_some_iff.1 h).1;have hu:l[k]=u:=by rw[List.getElem?_eq_getElem hk]at h;simpa using h
 unfold Lb;rw[List.set_append_right _ _ (by simp;omega)]
 simp only[List.length_map,List.length_take,Nat.min_eq_left (Nat.le_of_lt hk),Nat.sub_self];rw[List.drop_eq_getElem_cons hk,List.set_cons_zero,List.take_add_one,h];simp
theorem Aj9{n:Ai}{l:List Bc}{k:Nat}:(Lb n l k).length=l.length:=by
 unfold Lb;simp;omega
theorem Aun{n:Ai}{l:List Bc}:Lb n l l.length=l.map (T6 n):=by
 unfold Lb;simp
theorem A1x(r:A8)(hs:r.Small)(c:Ds)(Pu: -9223372036854775808≤r.rev∧r.rev<1099511627776)(hk:c.kind=10):Fn Tryz.prog C6 [.v r.Ae,.v c.Ae] (Is (.Dv [.i (Qo r c).1.Ae,.i (.int .i64 (Qo r c).2)]) [.no,.no]):=by
 refine Fn.isF (x:=[(Qo r c).1.Ae,.int .i64 (Qo r c).2]) ?_;refine C3 ?_ (by simp)
 have cp:=A8q r hs;have hw:IntKind.i64.wrap (r.rev+1)=r.rev+1:=Cf (by omega)
 have Jf:=hs.hT;have Kd:=hs.hU;have Pj:=hs.hX;have t1:=D6 r c.other (by omega)
 have u1:=Gc r c.name (by omega)
 have x1:=Fs r c.name (by omega)
 rcases G7 (fun t:Bh=>decide (t.name=c.name)) 0 r.Am with h|⟨j,h,hj,x,Hg,Mg⟩
 ·have h':r.Ex c.name= -1:=h;rw[h']at x1;repeat'((conv=>whnf);first|(apply aI<;>intro hb<;>first|exact absurd hb (by decide)|(exfalso;simp only[Az]at hb<;>omega)|((try rw[hb]);(try simp only[Ad]at hb)))|(refine eI ?_ ?_;focus (and_intros<;>first|exact rfl|(intro _ hh;cases hh;done)|(simp;done)|decide))|((with_reducible apply A5.B5);(focus kernel_rfl);intro Aa;(try simp only[dRS]at Aa))|(refine Ac.mk ⟨_,cp,?_⟩;rintro _ _ ⟨rfl,rfl⟩)|((try dsimp only);rw[hw])|(refine Aj.mk ⟨_,_,t1,?_⟩)|(refine Aj.mk ⟨_,_,u1,?_⟩)|(refine Aj.mk ⟨_,_,x1,?_⟩))
  all_goals(try(conv=>whnf))
  all_goals(refine Bd.mk ⟨?_,by kernel_rfl⟩ (by kernel_rfl))
  all_goals(try simp only[Qo,h'])
  all_goals(try simp only[Qo,h', *,if_true,if_false,Bool.false_eq_true,Bool.true_eq_false,Bool.not_true,Bool.not_false,decide_true,decide_false,not_true_eq_false,not_false_eq_true,ne_eq,reduceIte])
  all_goals(try simp only[F4,Es,I.put,List.replicate_succ,List.replicate_zero,Bx,D.Ae,Bn,Dy,List.map_cons,List.map_nil,List.set_cons_zero,List.set_cons_succ,Cu,Cn,List.map_set,Int.toNat_natCast])
  all_goals(try rfl)
 ·have h':r.Ex c.name=(j:Int):=by rw[show r.Ex c.name=((0+j:Nat):Int)from h,Nat.zero_add]
  rw[h']at x1;have hw1:IntKind.i64.wrap ((j:Int)+1)=((j+1:Nat):Int):=Ak hj (by simp only[maxLen];omega)
  repeat'((conv=>whnf);first|(apply aI<;>intro hb<;>first|exact absurd hb (by decide)|(exfalso;simp only[Az]at hb<;>omega)|((try rw[hb]);(try simp only[Ad]at hb)))|(refine eI ?_ ?_;focus (and_intros<;>first|omega|exact rfl|(intro _ hh;cases hh;done)|exact size_map (fun _=>rfl)|exact take_size (fun _=>rfl)|(simp only[Az];omega)|(simp;done)|decide))|((with_reducible apply A5.B5);(focus kernel_rfl);intro Aa;(try simp only[dRS]at Aa))|(refine Ac.mk ⟨_,cp,?_⟩;rintro _ _ ⟨rfl,rfl⟩)|((try dsimp only);rw[hw])|(refine Aj.mk ⟨_,_,t1,?_⟩)|(refine Aj.mk ⟨_,_,u1,?_⟩)|(refine Aj.mk ⟨_,_,x1,?_⟩)|((try dsimp only);rw[hw1]))
  all_goals(try(conv=>whnf))
  obtain⟨RL,hRL⟩:∃RL:List I,RL=([]++List.drop (Int.toNat 0) (List.take (Int.toNat (j:Int)) (r.Am.map Bh.Ae))++List.drop (Int.toNat ((j+1:Nat):Int)) (List.take (Int.toNat ((r.Am.map Bh.Ae).length:Int)) (r.Am.map Bh.Ae))):=⟨_,rfl⟩;refine Bq.by (X:=Nat) (fun k=>[(6,.own [] (.ptr (.st [.it (.int .i64 (r.rev+1)),.vec Cc 3 ((r.Be.map B7.Ae).map D.it),.vec B3 5 (((Lb c.name r.Ag k).map Bc.Ae).map D.it),.vec B2 3 (RL.map D.it)]))),(12,.v (.int .i64 k))]) (fun k=>k≤r.Ag.length) (fun k=>r.Ag.length - k)
   0 (by rw[hRL];kernel_rfl) (Nat.zero_le _) ?_
  ·intro k Nq;have Hz:=@Aj9 c.name r.Ag k;rcases Nat.lt_or_ge k r.Ag.length with Bb|Uc
   ·obtain⟨u,hu⟩:∃u,r.Ag[k]?=some u:=⟨_,List.getElem?_eq_getElem Bb⟩;have Pw:=hs.hR u (List.mem_of_getElem? hu);have hpg:=@Auo c.name r.Ag k u hu;have g2:=Akj u.A2 c.name (by omega)
    have W3:=@Aup c.name r.Ag k u hu;obtain⟨U,hU⟩:∃U,U=Lb c.name r.Ag k:=⟨_,rfl⟩;rw[←hU]at Hz hpg W3 ⊢;repeat'((conv=>whnf);first|(apply aI<;>intro hb<;>first|(exfalso;simp only[Az]at hb<;>omega)|((try rw[hb]);(try simp only[Ad]at hb)))|(refine eI ?_ ?_;focus (and_intros<;>first|omega|exact rfl|(intro _ hh;cases hh;done)|(simp only[Az];omega)|(simp;done)|decide))|(intro Aa)|((with_reducible apply A5.B5);(focus kernel_rfl);intro Aa;(try simp only[dRS]at Aa))|(refine Aj.mk ⟨_,_,g2,?_⟩)|((first|with_reducible apply Lr|((with_reducible apply D9);(focus rfl)));(focus (simp only[D.at,D.put,D.Dj,D.Db,List.cons_append,List.nil_append,List.append,List.getElem?_cons_zero,List.getElem?_cons_succ,Int.toNat_natCast,List.getElem?_set_self',Option.map_eq_map,Option.map_some,List.set_cons_zero,List.set_cons_succ,List.set_set,Function.const_apply,List.map_cons,List.map_nil,Cu,Cn,D.Ae,Bx,Bn,List.getElem?_map,List.length_map,List.length_set,hpg]<;>exact rfl));(try(focus exact rfl))))
    all_goals(try(conv=>whnf))
    refine Round.by (k+1) ?_ (by omega) (by omega)
    have hwk:IntKind.i64.wrap ((k:Int)+1)=((k+1:Nat):Int):=Ak Bb (by simp only[maxLen];omega)
    try dsimp only
    rw[hwk, ←W3,List.map_set,List.map_set];show norm _ _=Bt _ _
    kernel_rfl
   ·have:k=r.Ag.length:=by omega
    subst this;repeat'((conv=>whnf);first|(apply aI<;>intro hb<;>first|(exfalso;simp only[Az]at hb<;>omega)|((try rw[hb]);(try simp only[Ad]at hb)))|(refine eI ?_ ?_;focus (and_intros<;>first|omega|exact rfl|(simp;done)))|(intro Aa))
    all_goals(try(conv=>whnf))
    rw[Aun];simp only[Int.toNat_natCast, ←List.map_take, ←List.map_drop, ←List.map_append,List.nil_append,List.length_map,List.take_length,List.drop_zero,Int.toNat_zero]at hRL;subst hRL;all_goals(refine Bd.mk ⟨?_,by kernel_rfl⟩ (by kernel_rfl))
    all_goals(try simp only[Qo,h'])
    all_goals(try simp only[Qo,h', *,if_true,if_false,Bool.false_eq_true,Bool.true_eq_false,Bool.not_true,Bool.not_false,decide_true,decide_false,not_true_eq_false,not_false_eq_true,ne_eq,reduceIte])
    all_goals(try simp only[F4,Es,I.put,List.replicate_succ,List.replicate_zero,Bx,D.Ae,Bn,Dy,List.map_cons,List.map_nil,List.set_cons_zero,List.set_cons_succ,Cu,Cn, ←List.map_take, ←List.map_drop, ←List.map_append, ←List.map_set,List.nil_append,List.length_map,List.take_length,List.drop_zero,Int.toNat_zero,Int.toNat_natCast,A8.Ae])
    all_goals(try simp only[A8.Ae])
    all_goals(try rfl)
end Go.Ab
