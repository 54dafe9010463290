/- Lemmas -/
import Derived.Test.YtkpojedpcabojaaDoorW2
set_option linter.unusedVariables false
set_option linter.unusedSimpArgs false
set_option maxRecDepth 100000
set_option maxHeartbeats 40000000
namespace Go.Ab
open Go.Proofs
theorem Adt(a b:Az):decide (Azg a b<0)=decide (a<b):=by
 unfold Azg;by_cases h:a<b
 ·simp[h]
 ·by_cases h2:b<a<;>simp[h,h2]
theorem Abe(a b:Az):decide (Azg a b=0)=decide (a=b):=by
 unfold Azg;by_cases h:a<b
 ·have:a≠b:=by rintro rfl;exact absurd h (Af9 a)
  simp[h,this]
 ·by_cases h2:b<a
  ·have:a≠b:=by rintro rfl;exact absurd h2 (Af9 a)
   simp[h,h2,this]
  ·have:a=b:=List.le_antisymm (List.not_lt.1 h2) (List.not_lt.1 h);rw[if_neg h,if_neg h2];simp[this]
theorem Ads(a b:Int):decide (Azf a b<0)=decide (a<b):=by
 unfold Azf;by_cases h:a<b
 ·simp[h]
 ·by_cases h2:b<a<;>simp[h,h2]
theorem Abd(a b:Int):decide (Azf a b=0)=decide (a=b):=by
 unfold Azf;by_cases h:a<b
 ·simp[h];omega
 ·by_cases h2:b<a
  ·simp[h,h2];omega
  ·simp[h,h2];omega
def Kh(n:Az)(h:Zk):Bool:=decide (h.at_<n)
def eqH(n:Az)(h:Zk):Bool:=decide (h.at_=n)
def ltV(n:Int)(v:Fk):Bool:=decide (v.rev<n)
def eqV(n:Int)(v:Fk):Bool:=decide (v.rev=n)
theorem L0(l:List Zk)(n:Az)(hl:l.length≤100000):Fn Tryd.prog Ck [.v (.list (l.map Zk.Bx)),.v (.str n),.v (.fn E4)] (Is (.tup [.i (.int .i64 (Km (Kh n) l)),.i (.bool (bsF (Kh n) (eqH n) l))]) [.no,.no,.no]):=by
 refine Cj ?_ (by simp)
 repeat'((conv=>whnf);first|((with_reducible refine Ac ?_ ?_);focus (and_intros<;>(with_reducible rfl)))|(with_reducible intro Cq))
 all_goals(try(conv=>whnf))
 obtain⟨A,hA⟩:∃A,A=Km (Kh n) l:=⟨_,rfl⟩;have hAF:bsF (Kh n) (eqH n) l=(l[A]?).any (eqH n):=by rw[hA];rfl
 have Bs1:A≤l.length:=by rw[hA];exact Hp _ _
 rw[hAF, ←hA];unfold Km at hA;refine Afm.by (X:=Nat × Nat × Nat) (fun x=>[(9,.v (.int .i64 x.2.1)),(10,.v (.int .i64 x.2.2))]) (fun x=>x.2.1≤x.2.2∧x.2.2≤l.length∧x.2.2 - x.2.1≤x.1∧Awj (fun h=>(l[h]?).any (Kh n)) x.1 x.2.1 x.2.2=A) (fun x=>x.2.2 - x.2.1)
  (l.length,0,l.length) (by rw[Bh];kernel_rfl) ⟨Cr _,Bz _,Nat.sub_le _ _,hA.symm⟩ ?_
 rintro⟨f,i,j⟩ ⟨h1,h2,h3,h4⟩;dsimp only at h1 h2 h3 h4 ⊢;by_cases hij:i<j
 case neg=>
  have Ze:¬decide ((i:Int)<(j:Int))=true:=by simp;omega
  obtain rfl:i=A:=by
   rw[←h4];cases f with
   |zero=>rfl
   |succ f=>rw[Awj,if_neg hij]
  by_cases hil:i<l.length
  ·obtain⟨e,he⟩:∃e,l[i]?=some e:=⟨_,Ae hil⟩;have hl2:¬decide ((i:Int)<((l.map Zk.Bx).length:Int))=false:=by simp[hil]
   have hl3:¬decide ((i:Int)<(l.length:Int))=false:=by simp[hil]
   rw[he];simp only[Option.any_some];repeat'((conv=>whnf);first|((with_reducible refine Ax (by first|(with_reducible exact Ai (by assumption))|(with_reducible rfl)) (fun hb=>?_));(try rw[hb]);(try simp only[Aa]at hb))|((with_reducible refine Aw (by(with_reducible exact Ak (by assumption))) (fun hb=>?_));(try rw[hb]);(try simp only[Aa]at hb))|((with_reducible refine Ac ?_ ?_);focus (and_intros<;>first|omega|kernel_rfl|(intro _ hh;cases hh;done)|(simp;done)|decide))|((try dsimp only);(rw[B6 he]))|((with_reducible refine Ct.mk ?_);refine⟨_,Ka _ _ rfl _,?_⟩;rintro _ _ ⟨rfl,rfl⟩))
   all_goals(try(conv=>whnf))
   refine Am1.mk ⟨?_,by kernel_rfl⟩ (by kernel_rfl)
   rw[show eqH n e=decide (Azg e.at_ n=0)from(Abe e.at_ n).symm];rfl
  ·have hl2:¬decide ((i:Int)<((l.map Zk.Bx).length:Int))=true:=by simp;omega
   have hl3:¬decide ((i:Int)<(l.length:Int))=true:=by simp;omega
   rw[Aic (by omega)]
   simp only[Option.any_none];repeat'((conv=>whnf);((with_reducible refine Aw (by first|(with_reducible exact Ak (by assumption))|(with_reducible rfl)) (fun hb=>?_));(try rw[hb]);(try simp only[Aa]at hb)))
   all_goals(try(conv=>whnf))
   (apply dKq<;>kernel_rfl)
 have Ze:¬decide ((i:Int)<(j:Int))=false:=by simp[hij]
 obtain⟨g,rfl⟩:∃g,f=g+1:=⟨f - 1,by omega⟩
 rw[Awj,if_pos hij]at h4;have A6h:=Abw (i:=i) (j:=j) (by omega)
 obtain⟨h,hh⟩:∃h,h=(i+j) / 2:=⟨_,rfl⟩;rw[←hh]at A6h h4;have hhj:h<j:=by omega
 obtain⟨e,he⟩:∃e,l[h]?=some e:=⟨_,Ae (by omega)⟩
 have hle:(l[h]?).any (Kh n)=decide (Azg e.at_ n<0):=by rw[he];exact(Adt e.at_ n).symm
 have hw:IntKind.i64.wrap ((h:Int)+1)=((h+1:Nat):Int):=Dk (n:=1000000) (by omega) (by simp only[maxLen];omega)
 rw[hle]at h4;by_cases hc:Azg e.at_ n<0
 ·have hb:¬decide (Azg e.at_ n<0)=false:=by simp[hc]
  rw[if_pos (by simpa using hc)]at h4
  repeat'((conv=>whnf);first|((with_reducible refine Ax (by(with_reducible exact Ai (by assumption))) (fun hb=>?_));(try rw[hb]);(try simp only[Aa]at hb))|((with_reducible refine Ac ?_ ?_);focus (and_intros<;>first|omega|kernel_rfl|(intro _ hh;cases hh;done)|(simp;done)|decide))|((try dsimp only);rw[A6h])|((try dsimp only);(rw[B6 he]))|((with_reducible refine Ct.mk ?_);refine⟨_,Ka _ _ rfl _,?_⟩;rintro _ _ ⟨rfl,rfl⟩)|(skip;rw[hw]))
  all_goals(try(conv=>whnf))
  refine Round.by (g,h+1,j) ?_ ⟨by dsimp only;omega,h2,by dsimp only;omega,h4⟩ (by dsimp only;omega)
  dsimp only;show norm _ _=upd _ _
  kernel_rfl
 ·have hb:¬decide (Azg e.at_ n<0)=true:=by simp[hc]
  rw[if_neg (by simpa using hc)]at h4
  repeat'((conv=>whnf);first|((with_reducible refine Ax (by(with_reducible exact Ai (by assumption))) (fun hb=>?_));(try rw[hb]);(try simp only[Aa]at hb))|((with_reducible refine Aw (by(with_reducible exact Ak (by assumption))) (fun hb=>?_));(try rw[hb]);(try simp only[Aa]at hb))|((with_reducible refine Ac ?_ ?_);focus (and_intros<;>first|omega|kernel_rfl|(intro _ hh;cases hh;done)|(simp;done)|decide))|((try dsimp only);rw[A6h])|((try dsimp only);(rw[B6 he]))|((with_reducible refine Ct.mk ?_);refine⟨_,Ka _ _ rfl _,?_⟩;rintro _ _ ⟨rfl,rfl⟩))
  all_goals(try(conv=>whnf))
  refine Round.by (g,i,h) ?_ ⟨by dsimp only;omega,by dsimp only;omega,by dsimp only;omega,h4⟩ (by dsimp only;omega)
  dsimp only;show norm _ _=upd _ _
  kernel_rfl
theorem Aay(l:List Fk)(n:Int)(hl:l.length≤100000):Fn Tryd.prog Cs [.v (.list (l.map Fk.Bx)),.v (ti n),.v (.fn Ew)] (Is (.tup [.i (.int .i64 (Km (ltV n) l)),.i (.bool (bsF (ltV n) (eqV n) l))]) [.no,.no,.no]):=by
 refine Co ?_ (by simp)
 repeat'((conv=>whnf);first|((with_reducible refine Ac ?_ ?_);focus (and_intros<;>(with_reducible rfl)))|(with_reducible intro Cq))
 all_goals(try(conv=>whnf))
 obtain⟨A,hA⟩:∃A,A=Km (ltV n) l:=⟨_,rfl⟩;have hAF:bsF (ltV n) (eqV n) l=(l[A]?).any (eqV n):=by rw[hA];rfl
 have Bs1:A≤l.length:=by rw[hA];exact Hp _ _
 rw[hAF, ←hA];unfold Km at hA;refine Afm.by (X:=Nat × Nat × Nat) (fun x=>[(9,.v (.int .i64 x.2.1)),(10,.v (.int .i64 x.2.2))]) (fun x=>x.2.1≤x.2.2∧x.2.2≤l.length∧x.2.2 - x.2.1≤x.1∧Awj (fun h=>(l[h]?).any (ltV n)) x.1 x.2.1 x.2.2=A) (fun x=>x.2.2 - x.2.1)
  (l.length,0,l.length) (by rw[Bh];kernel_rfl) ⟨Cr _,Bz _,Nat.sub_le _ _,hA.symm⟩ ?_
 rintro⟨f,i,j⟩ ⟨h1,h2,h3,h4⟩;dsimp only at h1 h2 h3 h4 ⊢;by_cases hij:i<j
 case neg=>
  have Ze:¬decide ((i:Int)<(j:Int))=true:=by simp;omega
  obtain rfl:i=A:=by
   rw[←h4];cases f with
   |zero=>rfl
   |succ f=>rw[Awj,if_neg hij]
  by_cases hil:i<l.length
  ·obtain⟨e,he⟩:∃e,l[i]?=some e:=⟨_,Ae hil⟩;have hl2:¬decide ((i:Int)<((l.map Fk.Bx).length:Int))=false:=by simp[hil]
   have hl3:¬decide ((i:Int)<(l.length:Int))=false:=by simp[hil]
   rw[he];simp only[Option.any_some];repeat'((conv=>whnf);first|((with_reducible refine Ax (by first|(with_reducible exact Ai (by assumption))|(with_reducible rfl)) (fun hb=>?_));(try rw[hb]);(try simp only[Aa]at hb))|((with_reducible refine Aw (by(with_reducible exact Ak (by assumption))) (fun hb=>?_));(try rw[hb]);(try simp only[Aa]at hb))|((with_reducible refine Ac ?_ ?_);focus (and_intros<;>first|omega|kernel_rfl|(intro _ hh;cases hh;done)|(simp;done)|decide))|((try dsimp only);(rw[B6 he]))|((with_reducible refine Ct.mk ?_);refine⟨_,Gx _ _,?_⟩;rintro _ _ ⟨rfl,rfl⟩))
   all_goals(try(conv=>whnf))
   refine Am1.mk ⟨?_,by kernel_rfl⟩ (by kernel_rfl)
   rw[show eqV n e=decide (Azf e.rev n=0)from(Abd e.rev n).symm];rfl
  ·have hl2:¬decide ((i:Int)<((l.map Fk.Bx).length:Int))=true:=by simp;omega
   have hl3:¬decide ((i:Int)<(l.length:Int))=true:=by simp;omega
   rw[Aic (by omega)]
   simp only[Option.any_none];repeat'((conv=>whnf);((with_reducible refine Aw (by first|(with_reducible exact Ak (by assumption))|(with_reducible rfl)) (fun hb=>?_));(try rw[hb]);(try simp only[Aa]at hb)))
   all_goals(try(conv=>whnf))
   (apply dKq<;>kernel_rfl)
 have Ze:¬decide ((i:Int)<(j:Int))=false:=by simp[hij]
 obtain⟨g,rfl⟩:∃g,f=g+1:=⟨f - 1,by omega⟩
 rw[Awj,if_pos hij]at h4;have A6h:=Abw (i:=i) (j:=j) (by omega)
 obtain⟨h,hh⟩:∃h,h=(i+j) / 2:=⟨_,rfl⟩;rw[←hh]at A6h h4;have hhj:h<j:=by omega
 obtain⟨e,he⟩:∃e,l[h]?=some e:=⟨_,Ae (by omega)⟩
 have hle:(l[h]?).any (ltV n)=decide (Azf e.rev n<0):=by rw[he];exact(Ads e.rev n).symm
 have hw:IntKind.i64.wrap ((h:Int)+1)=((h+1:Nat):Int):=Dk (n:=1000000) (by omega) (by simp only[maxLen];omega)
 rw[hle]at h4;by_cases hc:Azf e.rev n<0
 ·have hb:¬decide (Azf e.rev n<0)=false:=by simp[hc]
  rw[if_pos (by simpa using hc)]at h4
  repeat'((conv=>whnf);first|((with_reducible refine Ax (by(with_reducible exact Ai (by assumption))) (fun hb=>?_));(try rw[hb]);(try simp only[Aa]at hb))|((with_reducible refine Ac ?_ ?_);focus (and_intros<;>first|omega|kernel_rfl|(intro _ hh;cases hh;done)|(simp;done)|decide))|((try dsimp only);rw[A6h])|((try dsimp only);(rw[B6 he]))|((with_reducible refine Ct.mk ?_);refine⟨_,Gx _ _,?_⟩;rintro _ _ ⟨rfl,rfl⟩)|(skip;rw[hw]))
  all_goals(try(conv=>whnf))
  refine Round.by (g,h+1,j) ?_ ⟨by dsimp only;omega,h2,by dsimp only;omega,h4⟩ (by dsimp only;omega)
  dsimp only;show norm _ _=upd _ _
  kernel_rfl
 ·have hb:¬decide (Azf e.rev n<0)=true:=by simp[hc]
  rw[if_neg (by simpa using hc)]at h4
  repeat'((conv=>whnf);first|((with_reducible refine Ax (by(with_reducible exact Ai (by assumption))) (fun hb=>?_));(try rw[hb]);(try simp only[Aa]at hb))|((with_reducible refine Aw (by(with_reducible exact Ak (by assumption))) (fun hb=>?_));(try rw[hb]);(try simp only[Aa]at hb))|((with_reducible refine Ac ?_ ?_);focus (and_intros<;>first|omega|kernel_rfl|(intro _ hh;cases hh;done)|(simp;done)|decide))|((try dsimp only);rw[A6h])|((try dsimp only);(rw[B6 he]))|((with_reducible refine Ct.mk ?_);refine⟨_,Gx _ _,?_⟩;rintro _ _ ⟨rfl,rfl⟩))
  all_goals(try(conv=>whnf))
  refine Round.by (g,i,h) ?_ ⟨by dsimp only;omega,by dsimp only;omega,by dsimp only;omega,h4⟩ (by dsimp only;omega)
  dsimp only;show norm _ _=upd _ _
  kernel_rfl
theorem A36(l:List I)(h:∀u∈l,u.size=4)(hl:l.length≤100000):Fn Tryd.prog Avc [.v (.list l)] (Is (.vec Bb 4 l) [.no]):=by
 refine Au4 ?_ (by simp)
 repeat'((conv=>whnf);first|((with_reducible refine A5 (fun hb=>?_) (fun hb=>?_))<;>(((try rw[hb]);(try subst hb))))|((with_reducible refine Ac ?_ ?_);focus (and_intros<;>first|omega|(with_reducible rfl)|(simp only[An];omega)|(simp;done)))|(with_reducible intro Cq))
 all_goals(try(conv=>whnf))
 ·refine Am1.mk ⟨congrArg (fun l=>SV.vec Bb 4 l) ?_,by kernel_rfl⟩ (by kernel_rfl)
  exact(Cq rfl).symm
 ·exact Am1.mk ⟨congrArg (fun l=>SV.vec Bb 4 l) (H4 _),by kernel_rfl⟩ (by kernel_rfl)

abbrev Pq:=(Nat × SV) × (Nat × SV)
def N1(c:Nat × (Nat × SV)):List Rd→List Pq
 | []=>[]
 | .all _::r=>N1 c r
 | .prj i f o::r=>match Nat.beq i c.1 with
   |true=>(f c.2.1 c.2.2,o)::N1 c r
   |false=>N1 c r
def Qw:Log→List Rd→List Pq
 | [],_=>[]
 |c::L,R=>N1 c R++Qw L R
def P1(rd:Rd):List Rec→List Pq
 | []=>[]
 |e::r=>Qw e.L [rd]++P1 rd r
def Bmj:Pq:=((0,.no),(1,.no))
abbrev Eqs(l:List Pq):Prop:=∀p∈l,p.1=p.2
theorem Eqs.of:∀{l:List Pq},l.map Prod.fst=l.map Prod.snd→Eqs l
 | [],_=>by intro p hp;cases hp
 |q::l,h=>by
  simp only[Cy,Ajg]at h;intro p hp;rcases Bg.1 hp with rfl|hp
  ·exact h.1
  ·exact Eqs.of h.2 p hp
theorem Jn{c:Nat × (Nat × SV)}:∀{R:List Rd},Eqs (N1 c R)→Sj c R
 | [],_=>trivial
 | .all _::r,h=>Jn (R:=r) h
 | .prj i f o::r,h=>by
   simp only[N1]at h;simp only[Sj];cases hb:Nat.beq i c.1 with
   |true=>
    rw[hb]at h;exact⟨h _ (B2 ..),Jn (R:=r) fun p hp=>h p (B4 _ hp)⟩
   |false=>
    rw[hb]at h;exact⟨trivial,Jn (R:=r) h⟩
theorem K7:∀{L:Log} {R:List Rd},Eqs (Qw L R)→Ls L R
 | [],_,_=>trivial
 |c::L,R,h=>⟨Jn fun p hp=>h p (Aau _ hp),K7 fun p hp=>h p (Ac6 _ hp)⟩
def okC(d e:Rec):Bool:=Lf (Eb d.L) (Eb e.L)&&Lf (Eb d.L) (Aqj e.R)&&Lf (Eb e.L) (Aqj d.R)
def Re(d:Rec)(m:Nat):Nat→List Rec→Bool
 |n+1,e::r=>(m.testBit n||okC d e)&&Re d m n r
 |_,_=>true
def okV(n:Nat)(rp:List Rec):List Rec→List Nat→Bool
 | [],_=>true
 |d::r,m::ms=>Re d m n rp&&okV (n+1) (d::rp) r ms
 |_::_,[]=>false
def Hy(d:Rec)(m:Nat):Nat→List Rec→List Pq
 |n+1,e::r=>match m.testBit n with
  |true=>Hy d m n r
  |false=>Qw d.L e.R++Hy d m n r
 |_,_=>[]
def Ug(n:Nat)(rp:List Rec):List Rec→List Nat→List Pq
 | [],_=>[]
 |d::r,m::ms=>Hy d m n rp++Ug (n+1) (d::rp) r ms
 |_::_,[]=>[]
def Be6(y m:Nat):Nat→List Rec→Bool
 |n+1,e::r=>(m.testBit n|| !(Eb e.L).contains y)&&Be6 y m n r
 |_,_=>true
def F3(st0:St)(n:Nat)(rp:List Rec)(m:Nat):List Rd→List Pq
 | []=>[]
 | .all _::r=>F3 st0 n rp m r
 | .prj y f o::r=>match Be6 y m n rp with
   |true=>F3 st0 n rp m r
   |false=>(match st0[y]? with
    |some c=>(f c.1 c.2,o)
    |none=>Bmj)::(P1 (.prj y f o) rp++F3 st0 n rp m r)
def Uf(st0:St)(n:Nat)(rp:List Rec):List Rec→List Nat→List Pq
 | [],_=>[]
 |d::r,m::ms=>F3 st0 n rp m d.R++Uf st0 (n+1) (d::rp) r ms
 |_::_,[]=>[]
theorem Rf{d e:Rec}{m:Nat}:∀{l:List Rec} {k:Nat},N2 d m k (l++[e])=(N2 d m k l&&(m.testBit (k+l.length)||okC d e))
 | [],k=>by simp[N2,okC]
 |x::l,k=>by
  simp only[H3,N2,Ho];rw[Rf (l:=l) (k:=k+1),show k+1+l.length=k+(l.length+1)by omega]
  simp only[Bool.and_assoc]
theorem S4{d:Rec}{m:Nat}:∀{rp:List Rec},Re d m rp.length rp=N2 d m 0 rp.reverse
 | []=>rfl
 |e::r=>by
  simp only[Ho,Re,List.reverse_cons];rw[Rf,S4 (rp:=r),E3,List.length_reverse,Bool.and_comm]
theorem Ab3:∀{ds rp:List Rec} {ms:List Nat},okV rp.length rp ds ms=Pc rp.reverse ds ms
 | [],_,_=>by simp[okV,Pc]
 |_::_,_,[]=>rfl
 |d::r,rp,m::ms=>by
  simp only[okV,Pc];rw[S4, ←List.reverse_cons, ←Ab3 (rp:=d::rp)];rfl
theorem H0{d e:Rec}{m:Nat}:∀{l:List Rec} {k:Nat},L9 d m k l→(m.testBit (k+l.length)=false→Ls d.L e.R)→L9 d m k (l++[e])
 | [],k,_,h=>by
   simp only[H4,L9];refine⟨?_,trivial⟩;cases hb:m.testBit k with
   |true=>trivial
   |false=>exact h hb
 |x::l,k,h1,h2=>by
  simp only[H3,L9]at h1 ⊢;exact⟨h1.1,H0 h1.2 fun hb=>h2 (by rwa [Ho,show k+(l.length+1)=k+1+l.length by omega])⟩
theorem Hz{d:Rec}{m:Nat}:∀{rp:List Rec},Eqs (Hy d m rp.length rp)→L9 d m 0 rp.reverse
 | [],_=>trivial
 |e::r,h=>by
  simp only[Ho,Hy]at h;rw[List.reverse_cons];cases hb:m.testBit r.length with
  |true=>
   rw[hb]at h;exact H0 (Hz (rp:=r) h) fun Sy=>by rw[E3,List.length_reverse,hb]at Sy;cases Sy
  |false=>
   rw[hb]at h;exact H0 (Hz (rp:=r) fun p hp=>h p (Ac6 _ hp)) fun _=>K7 fun p hp=>h p (Aau _ hp)
theorem Sx:∀{ds rp:List Rec} {ms:List Nat},okV rp.length rp ds ms=true→Eqs (Ug rp.length rp ds ms)→P7 rp.reverse ds ms
 | [],_,_,_,_=>trivial
 |_::_,_,[],h,_=>by cases h
 |d::r,rp,m::ms,hk,h=>by
  simp only[okV,Ap]at hk;refine⟨Hz fun p hp=>h p (Aau _ hp),?_⟩
  rw[←List.reverse_cons];exact Sx (rp:=d::rp) hk.2 fun p hp=>h p (Ac6 _ hp)
theorem Ng{y m:Nat}{e:Rec}:∀{l:List Rec} {k:Nat},K9 y m k (l++[e])=(K9 y m k l&&(m.testBit (k+l.length)|| !(Eb e.L).contains y))
 | [],k=>by simp[K9]
 |x::l,k=>by
  simp only[H3,K9,Ho];rw[Ng (l:=l) (k:=k+1),show k+1+l.length=k+(l.length+1)by omega]
  simp only[Bool.and_assoc]
theorem Yi{y m:Nat}:∀{rp:List Rec},Be6 y m rp.length rp=K9 y m 0 rp.reverse
 | []=>rfl
 |e::r=>by
  simp only[Ho,Be6,List.reverse_cons];rw[Ng,Yi (rp:=r),E3,List.length_reverse,Bool.and_comm]
theorem M5{rd:Rd}{e:Rec}:∀{l:List Rec},Ms rd l→Ls e.L [rd]→Ms rd (l++[e])
 | [],_,h=>⟨h,trivial⟩
 |x::l,h1,h2=>⟨h1.1,M5 h1.2 h2⟩
theorem M4{rd:Rd}:∀{rp:List Rec},Eqs (P1 rd rp)→Ms rd rp.reverse
 | [],_=>trivial
 |e::r,h=>by
  rw[List.reverse_cons];exact M5 (M4 fun p hp=>h p (Ac6 _ hp)) (K7 fun p hp=>h p (Aau _ hp))
theorem Fg{st0:St}{rp:List Rec}{m:Nat}:∀{R:List Rd},Eqs (F3 st0 rp.length rp m R)→Mq st0 rp.reverse m R
 | [],_=>trivial
 | .all _::r,h=>Fg (R:=r) h
 | .prj y f o::r,h=>by
   simp only[F3,Yi]at h;simp only[Mq];cases hb:K9 y m 0 rp.reverse with
   |true=>
    rw[hb]at h;exact⟨trivial,Fg (R:=r) h⟩
   |false=>
    rw[hb]at h;have h1:=h _ (B2 ..);refine⟨⟨?_,M4 fun p hp=>h p (B4 _ (Aau _ hp))⟩,Fg fun p hp=>h p (B4 _ (Ac6 _ hp))⟩
    cases hs:st0[y]? with
    |some c=>rw[hs]at h1;exact h1
    |none=>rw[hs]at h1;simp[Bmj]at h1
theorem Sr{st0:St}:∀{ds rp:List Rec} {ms:List Nat},okV rp.length rp ds ms=true→Eqs (Uf st0 rp.length rp ds ms)→Av st0 rp.reverse ds ms
 | [],_,_,_,_=>trivial
 |_::_,_,[],h,_=>by cases h
 |d::r,rp,m::ms,hk,h=>by
  simp only[okV,Ap]at hk;refine⟨Fg fun p hp=>h p (Aau _ hp),?_⟩
  rw[←List.reverse_cons];exact Sr (rp:=d::rp) hk.2 fun p hp=>h p (Ac6 _ hp)
theorem Ai2.mkV{st0:St}{ms:List Nat}{Q:St→Prop}{ds:List Rec}{st:St}(h:okV 0 [] ds ms=true)(h2:(Ug 0 [] ds ms).map Prod.fst=(Ug 0 [] ds ms).map Prod.snd)
 (h3:(Uf st0 0 [] ds ms).map Prod.fst=(Uf st0 0 [] ds ms).map Prod.snd) (hq:(∀d∈ds,∀p∈d.F,p)→Q st):Ai2 st0 ms Q ds st:=
 ⟨by rw[←show okV 0 [] ds ms=Pc [] ds ms from Ab3 (rp:=[])];exact h,Sx (rp:=[]) h (Eqs.of h2),Sr (rp:=[]) h (Eqs.of h3),hq⟩

open Go.Proofs
def Zk.toD(h:Zk):D:=.st [.it (.str h.at_),.vec Bb 4 ((h.vs.map Fk.Bx).map D.it)]
def Cn.toD(s:Cn):D:=.st [.map (s.sp.map fun x=>.str x.1) (s.sp.map fun x=>.ptr (.it x.2.Bx)),.vec Dr 2 (s.l.map Zk.toD)]
abbrev sP(s:Cn):SV:=.own [] (.ptr s.toD)
theorem Zk.A96(h:Zk):h.toD.Bx=some h.Bx:=by
 simp only[Zk.toD,Zk.Bx,D.Bx,Js,Ad]
theorem U8(l:List Zk):Js (l.map Zk.toD)=some (l.map Zk.Bx):=Vg Zk.A96 l
theorem E5{α:Type}(f:α→Az)(k:Az):∀(l:List α) (i:Nat),Lo k (l.map fun x=>.str (f x)) i=some ((l.findIdx? (fun x=>decide (f x=k))).map (· +i))
 | [],i=>by simp[Lo]
 |x::l,i=>by
  simp only[Cy,Lo,List.findIdx?_cons];by_cases h:f x=k
  ·simp[h]
  ·rw[if_neg h,E5 f k l (i+1)];simp only[h,decide_false,Ado,if_false,Option.map_map]
   congr 2
   funext a;simp only[Function.comp];omega
def Cn.fi(s:Cn)(n:Az):Option Nat:=s.sp.findIdx? fun x=>decide (x.1=n)
def Ax5:Tal:=⟨0,0,0,0,0⟩
def Cn.Zp(s:Cn)(n:Az):Tal:=((s.sp.find? fun x=>decide (x.1=n)).map (·.2)).getD Ax5
theorem Cn.Ayr{s:Cn}{n:Az}(h:s.fi n=none):Lo n (s.sp.map fun x=>.str x.1) 0=some none∧s.Zp n=Ax5:=by
 refine⟨by rw[E5 (fun x:Az × Tal=>x.1)];unfold Cn.fi at h;rw[h];rfl,?_⟩
 unfold Cn.fi at h;rw[List.findIdx?_eq_none_iff]at h;unfold Cn.Zp;rw[List.find?_eq_none.2 (by simpa using h)]
 rfl
theorem Cn.Ari{s:Cn}{n:Az}{i:Nat}(h:s.fi n=some i):Lo n (s.sp.map fun x=>.str x.1) 0=some (some i)∧(s.sp.map fun x=>D.ptr (.it x.2.Bx))[i]?=some (.ptr (.it (s.Zp n).Bx))∧s.sp[i]?=some (n,s.Zp n):=by
 have h0:=h;unfold Cn.fi at h;have hs:s.sp[i]?=some (n,s.Zp n):=by
  obtain⟨hi,h1,h2⟩:=List.findIdx?_eq_some_iff_getElem.1 h;have hf:s.sp.find? (fun x=>decide (x.1=n))=some s.sp[i]:=by
   rw[List.find?_eq_some_iff_getElem];exact⟨h1,i,hi,rfl,fun j hj=>by simpa using h2 j hj⟩
  rw[Ae hi];simp only[decide_eq_true_eq]at h1;unfold Cn.Zp;rw[hf];show some s.sp[i]=some (n,s.sp[i].2);rw[←h1]
 refine⟨by rw[E5 (fun x:Az × Tal=>x.1),h];rfl,by rw[Ev,hs];rfl,hs⟩
theorem Au{N:Nat}{os:List D6}{st:St}{K:SV→St→Prop}(h:As1 (En 23 os st) fun st=>F7 Tryd.prog Mk noY ⟨A2y 23 N 4 5 K,Atg,A2y 23 N 4 5 K⟩ st)(hn:os.length≤23:=by decide):Aqw Tryd.prog 65 N os st K:=
 Aqw.Bi6 Tryd.func65 rfl Tryd.ntmps65 (by kernel_rfl) (by kernel_rfl) (by decide) (by decide) hn h

open Go.Proofs
def A11:Fk:=⟨0,0,[],false⟩
def Un(vs:List Fk):Nat→Fk × Bool
 |0=>(A11,false)
 |i+1=>match vs[i]? with
  |some v=>if v.gone=true then(A11,false)else(v,true)
  |none=>(A11,false)
def D1(vs:List Fk)(rev:Int):Fk × Bool:=Un vs (Km (ltV (rev+1)) vs)
theorem Ns(a:Az)(vs:List Fk)(rev:Int)(hr: -1≤rev∧rev≤9000000000000000000)(hl:vs.length≤100000):
 Fn Tryd.prog Ky [.v (.agg [.str a,.list (vs.map Fk.Bx)]),.v (ti rev)] (Is (.tup [.i (D1 vs rev).1.Bx,.i (.bool (D1 vs rev).2)]) [.no,.no]):=by
 refine Kn ?_ (by simp)
 have hw:IntKind.i64.wrap (rev+1)=rev+1:=Bf (by omega)
 have hbs:=Aay vs (rev+1) hl;have hle:=Hp (ltV (rev+1)) vs;obtain⟨A,hA⟩:∃A,A=Km (ltV (rev+1)) vs:=⟨_,rfl⟩;obtain⟨B,hB⟩:∃B,B=bsF (ltV (rev+1)) (eqV (rev+1)) vs:=⟨_,rfl⟩;have hM:D1 vs rev=Un vs A:=by rw[hA];rfl
 rw[←hA, ←hB]at hbs;rw[←hA]at hle;rw[hM];cases A with
 |zero=>
  have h0:¬decide (((0:Nat):Int)=0)=false:=by simp
  repeat'((conv=>whnf);first|((with_reducible refine Ax (by first|(with_reducible exact Ai (by assumption))|(with_reducible rfl)) (fun hb=>?_));(try rw[hb]);(try simp only[Aa]at hb))|((with_reducible refine Ac ?_ ?_);focus (and_intros<;>first|omega|kernel_rfl|(intro _ hh;cases hh;done)|(simp;done)|decide))|((try dsimp only);rw[hw])|((with_reducible refine Ct.mk ?_);refine⟨_,hbs,?_⟩;rintro _ _ ⟨rfl,rfl⟩))
  all_goals(try(conv=>whnf))
  (apply dKq<;>kernel_rfl)
 |succ i=>
  obtain⟨v,hv⟩:∃v,vs[i]?=some v:=⟨_,Ae (by omega)⟩
  have h0:¬decide (((i+1:Nat):Int)=0)=true:=by simp;omega
  have hw2:IntKind.i64.wrap (((i+1:Nat):Int) - 1)=(i:Int):=by rw[Bf (by omega)];omega
  have hN:Un vs (i+1)=if v.gone=true then(A11,false)else(v,true):=by simp only[Un,hv]
  rw[hN];cases hg:v.gone with
  |true=>
   repeat'((conv=>whnf);first|((with_reducible refine Ax (by(with_reducible assumption)) (fun hb=>?_));(try rw[hb]))|((with_reducible refine Aw (by first|(with_reducible exact Ak (by assumption))|(with_reducible rfl)) (fun hb=>?_));(try rw[hb]);(try simp only[Aa]at hb))|((with_reducible refine Ac ?_ ?_);focus (and_intros<;>first|omega|kernel_rfl|(intro _ hh;cases hh;done)|(simp;done)|decide))|((try dsimp only);rw[hw])|((with_reducible refine Ct.mk ?_);refine⟨_,hbs,?_⟩;rintro _ _ ⟨rfl,rfl⟩)|((try dsimp only);rw[hw2])|(skip;(rw[B6 hv])))
   all_goals(try(conv=>whnf))
   (apply dKq<;>kernel_rfl)
  |false=>
   repeat'((conv=>whnf);first|((with_reducible refine Aw (by first|(with_reducible assumption)|(with_reducible exact Ak (by assumption))|(with_reducible rfl)) (fun hb=>?_));(try rw[hb]);(try simp only[Aa]at hb))|((with_reducible refine Ac ?_ ?_);focus (and_intros<;>first|omega|kernel_rfl|(intro _ hh;cases hh;done)|(simp;done)|decide))|((try dsimp only);rw[hw])|((with_reducible refine Ct.mk ?_);refine⟨_,hbs,?_⟩;rintro _ _ ⟨rfl,rfl⟩)|((try dsimp only);rw[hw2])|(skip;(rw[B6 hv])))
   all_goals(try(conv=>whnf))
   (apply dKq<;>kernel_rfl)

open Go.Proofs
def Ep(n:Az)(x:Sp)(rev most:Int):List Zk→List Pr→List Pr × Bool
 | [],out=>(out,false)
 |h::r,out=>if(C1 h.at_).1≠n then(out,false)else if ¬Bw x (C1 h.at_).2.1 then Ep n x rev most r out else
  if(D1 h.vs rev).2=false then Ep n x rev most r out else if(out.length:Int)=most then(out,true)else
  Ep n x rev most r (out++[⟨(C1 h.at_).2.1,(D1 h.vs rev).1.val,(D1 h.vs rev).1.made,(D1 h.vs rev).1.rev⟩])
def Zb:Prop:=∃T1 T2,OfC Tryd.prog Pw Mu T1 T2
structure Cn.Bd(s:Cn):Prop where
 len:s.l.length≤90000
 held:∀h∈s.l,h.at_.length≤1000000∧h.vs≠[]∧h.vs.length≤90000
theorem Ab6(hof:Zb)(s:Cn)(hB:s.Bd)(n:Az)(hn:n.length≤100000)(x:Sp)(rev most:Int)(i:Nat)(hf:s.fi n=some i)(hx:SpR x)(hr:0<rev∧rev≤(s.Zp n).rev∧(s.Zp n).floor≤rev∧rev≤9000000000000000000)(hm:1≤most∧most≤16)(RES:List Pr × Bool)(Ajz:Ep n x rev most (s.l.drop (Km (Kh (B7 n [])) s.l)) []=RES):
 Fn Tryd.prog C9 [sP s,.v (.str n),.v x.Bx,.v (ti rev),.v (ti most)] (Is (.tup [.i (.list (RES.1.map Pr.Bx)),.i (.bool RES.2),.i (ti 0)]) [sP s,.no,.no,.no,.no]):=by
 obtain⟨T1,T2,hof⟩:=hof;refine D0 ?_ (by simp)
 obtain⟨h1,h2,h3⟩:=Cn.Ari hf;have hs:=Pu x;rw[decide_eq_true hx]at hs;have hI:=U8 s.l;have hwh:=L1 n [] hn (by simp)
 have hbs:=L0 s.l (B7 n []) (by have:=hB.len;omega)
 obtain⟨A,hA⟩:∃A,A=Km (Kh (B7 n [])) s.l:=⟨_,rfl⟩;obtain⟨B,hB'⟩:∃B,B=bsF (Kh (B7 n [])) (eqH (B7 n [])) s.l:=⟨_,rfl⟩;rw[←hA, ←hB']at hbs;repeat'((conv=>whnf);first|((with_reducible refine Ax (by first|((with_reducible refine decide_eq_true ?_);omega)|(with_reducible rfl)) (fun hb=>?_));(try rw[hb]);(try simp only[Aa]at hb))|((with_reducible refine Aw (by first|((with_reducible refine decide_eq_false ?_);omega)|(with_reducible rfl)) (fun hb=>?_));(try rw[hb]);(try simp only[Aa]at hb))|((with_reducible refine A5 (fun hb=>?_) (fun hb=>?_))<;>first|(exact absurd hb (by decide))|((try rw[hb]);(try simp only[Aa]at hb)))|((with_reducible refine Ac ?_ ?_);focus (and_intros<;>first|omega|(with_reducible rfl)|kernel_rfl|(intro _ hh;cases hh;done)|(simp;done)|decide))|(with_reducible intro Cq)|((with_reducible refine A5 ?_ ?_);focus (first|(with_reducible rfl)|decide))|((with_reducible refine Ai2.mkV ?_ ?_ ?_ (fun Cq=>?_));(focus kernel_rfl);(focus kernel_rfl);(focus kernel_rfl);(try simp only[Bv,Bg,Dg,or_false,false_or,or_assoc,forall_eq_or_imp,forall_eq,false_implies,implies_true,forall_const,and_true,true_and]at Cq))|((refine Au ?_))|((with_reducible refine Ct.mk ?_);refine⟨_,hs,?_⟩;rintro _ _ ⟨rfl,rfl⟩)|((refine Abo hof ?_))|((with_reducible refine Ct.mk ?_);refine⟨_,hwh,?_⟩;rintro _ _ ⟨rfl,rfl⟩)|((refine Bj ?_ (by decide)))|((with_reducible refine Ct.mk ?_);refine⟨_,hbs,?_⟩;rintro _ _ ⟨rfl,rfl⟩)|(((with_reducible apply A9));(focus (simp only[D.at,D.put,D.Xw,D.Fh,Mg,Jo,D.Bx,Js,Ad,Af,h1,h3,hI,Cn.toD,Tal.Bx]<;>exact rfl)))|(((with_reducible apply A3));(focus rfl);(focus (simp only[D.at,D.put,D.Xw,D.Fh,Mg,Jo,D.Bx,Js,Ad,Af,h1,h3,hI,Cn.toD,Tal.Bx]<;>exact rfl));(try(focus exact rfl))))
 all_goals(try(conv=>whnf))
 have hAl:A≤s.l.length:=by rw[hA];exact Hp _ _
 rw[←hA]at Ajz;refine Afm.by (X:=Nat × List Pr) (fun y=>[(5,.v (ti (y.1:Int))),(65,.own [] (.ptr (.vec 67 4 ((y.2.map Pr.Bx).map D.it))))]) (fun y=>y.1≤s.l.length∧(y.2.length:Int)≤most∧Ep n x rev most (s.l.drop y.1) y.2=RES) (fun y=>s.l.length - y.1) (A,[]) (by kernel_rfl) ⟨hAl,by simp;omega,Ajz⟩ ?_
 rintro⟨j,out⟩ ⟨hj,ho,hR⟩;dsimp only at hj ho hR ⊢;have hlen:=hB.len;have hlm:(s.l.map Zk.toD).length=s.l.length:=Bh _;have hw:IntKind.i64.wrap ((j:Int)+1)=((j+1:Nat):Int):=Dk (n:=100000) (by omega) (by simp only[maxLen];omega)
 by_cases hjl:j<s.l.length
 case neg=>
  have Ze:¬decide ((j:Int)<(s.l.length:Int))=true:=by simp;omega
  rw[Db (by omega)]at hR
  have hR:(out,false)=RES:=hR;subst hR;repeat'((conv=>whnf);first|((with_reducible refine Aw (by first|(with_reducible exact Ak (by assumption))|((with_reducible refine decide_eq_false ?_);omega)) (fun hb=>?_));(try rw[hb]);(try simp only[Aa]at hb))|((with_reducible refine Ac ?_ ?_);focus (and_intros<;>first|omega|(with_reducible rfl)|kernel_rfl|(simp;done)))|(with_reducible intro Cq)|((with_reducible refine A5 ?_ ?_);focus ((with_reducible rfl)))|(((with_reducible apply A9));(focus (simp only[D.at,D.put,D.Xw,D.Fh,Mg,Jo,D.Bx,Js,Ad,Af,Cn.toD,hlm]<;>exact rfl))))
  all_goals(try(conv=>whnf))
  (apply dKq<;>kernel_rfl)
 obtain⟨h,he⟩:∃h,s.l[j]?=some h:=⟨_,Ae hjl⟩;have Ze:¬decide ((j:Int)<(s.l.length:Int))=false:=by simp;omega
 obtain⟨hb1,hb2,hb3⟩:=hB.held h (Cb he);have Aum:=L2 h.at_ hb1;have hdr:s.l.drop j=h::s.l.drop (j+1):=by rw[Cc hjl];rw[Ae hjl]at he;cases he;rfl
 rw[hdr]at hR;simp only[Ep]at hR;have At9:=Ns h.at_ h.vs rev (by omega) (by omega)
 have hsh:=Tu x (C1 h.at_).2.1;generalize C1 h.at_=wk at Aum hR hsh;obtain⟨w,k,z⟩:=wk;generalize D1 h.vs rev=vb at At9 hR;obtain⟨v,b⟩:=vb;dsimp only at Aum hR hsh At9;have hDI:=Zk.A96 h;simp only[Zk.Bx]at hDI;by_cases hwn:w=n
 case neg=>
  have hnb:¬(!decide (w=n))=false:=by simpa using hwn
  have Bbf:¬decide (w=n)=true:=by simpa using hwn
  rw[if_pos hwn]at hR;subst hR;repeat'((conv=>whnf);first|((with_reducible refine Ax (by first|(with_reducible exact Ai (by assumption))|((with_reducible refine decide_eq_true ?_);omega)|(with_reducible rfl)) (fun hb=>?_));(try rw[hb]);(try simp only[Aa]at hb))|((with_reducible refine Ac ?_ ?_);focus (and_intros<;>first|omega|(with_reducible rfl)|kernel_rfl|(intro _ hh;cases hh;done)|(simp;done)|decide))|(with_reducible intro Cq)|((with_reducible refine A5 ?_ ?_);focus ((with_reducible rfl)))|((with_reducible refine Ct.mk ?_);refine⟨_,Aum,?_⟩;rintro _ _ ⟨rfl,rfl⟩)|(((with_reducible apply A9));(focus (simp only[D.at,D.put,D.Xw,D.Fh,Mg,Jo,D.Bx,Js,Ad,Af,Cn.toD,hlm,he]<;>exact rfl)))|(((with_reducible apply A3));(focus rfl);(focus (simp only[D.at,D.put,D.Xw,D.Fh,Mg,Jo,D.Bx,Js,Ad,Af,Cn.toD,hlm,he]<;>exact rfl));(try(focus exact rfl))))
  all_goals(try(conv=>whnf))
  (apply dKq<;>kernel_rfl)
 subst hwn;rw[if_neg (by simp)]at hR
 have hnb:¬(!decide (w=w))=true:=by simp
 have Bbf:¬decide (w=w)=false:=by simp
 by_cases hxk:Bw x k
 case neg=>
  rw[if_pos hxk]at hR;rw[decide_eq_false hxk]at hsh;repeat'((conv=>whnf);first|((with_reducible refine Ax (by first|(with_reducible assumption)|(with_reducible exact Ai (by assumption))|((with_reducible refine decide_eq_true ?_);omega)) (fun hb=>?_));(try rw[hb]);(try simp only[Aa]at hb))|((with_reducible refine Aw (by first|(with_reducible exact Ak (by assumption))|(with_reducible rfl)) (fun hb=>?_));(try rw[hb]);(try simp only[Aa]at hb))|((with_reducible refine A5 (fun hb=>?_) (fun hb=>?_))<;>first|(exact absurd hb (by decide))|((try rw[hb]);(try simp only[Aa]at hb)))|((with_reducible refine Ac ?_ ?_);focus (and_intros<;>first|omega|(with_reducible rfl)|kernel_rfl|(intro _ hh;cases hh;done)|(simp;done)|decide))|(with_reducible intro Cq)|((with_reducible refine A5 ?_ ?_);focus (first|(with_reducible rfl)|(exact rfl)))|((with_reducible refine Ct.mk ?_);refine⟨_,Aum,?_⟩;rintro _ _ ⟨rfl,rfl⟩)|((with_reducible refine Ct.mk ?_);refine⟨_,hsh,?_⟩;rintro _ _ ⟨rfl,rfl⟩)|((try dsimp only);rw[hw])|(((with_reducible apply A3));(focus rfl);(focus (simp only[D.at,D.put,D.Xw,D.Fh,Mg,Jo,D.Bx,Js,Ad,Af,Cn.toD,hlm,he]<;>exact rfl));(try(focus exact rfl))))
  all_goals(try(conv=>whnf))
  refine Round.by (j+1,out) ?_ ⟨by omega,ho,hR⟩ (by dsimp only;omega)
  try dsimp only
  show norm _ _=upd _ _
  kernel_rfl
 rw[if_neg (by simpa using hxk)]at hR
 rw[decide_eq_true hxk]at hsh;cases b with
 |false=>
  rw[if_pos rfl]at hR;repeat'((conv=>whnf);first|((with_reducible refine Ax (by first|(with_reducible assumption)|(with_reducible exact Ai (by assumption))|((with_reducible refine decide_eq_true ?_);omega)) (fun hb=>?_));(try rw[hb]);(try simp only[Aa]at hb))|((with_reducible refine Aw (by first|(with_reducible exact Ak (by assumption))|(with_reducible rfl)) (fun hb=>?_));(try rw[hb]);(try simp only[Aa]at hb))|((with_reducible refine A5 (fun hb=>?_) (fun hb=>?_))<;>first|(exact absurd hb (by decide))|((try rw[hb]);(try simp only[Aa]at hb)))|((with_reducible refine Ac ?_ ?_);focus (and_intros<;>first|omega|(with_reducible rfl)|kernel_rfl|(intro _ hh;cases hh;done)|(simp;done)|decide))|(with_reducible intro Cq)|((with_reducible refine A5 ?_ ?_);focus (first|(with_reducible rfl)|(exact rfl)))|((with_reducible refine Ai2.mkV ?_ ?_ ?_ (fun Cq=>?_));(focus kernel_rfl);(focus kernel_rfl);(focus kernel_rfl);(try simp only[Bv,Bg,Dg,or_false,false_or,or_assoc,forall_eq_or_imp,forall_eq,false_implies,implies_true,forall_const,and_true,true_and]at Cq))|((with_reducible refine Ct.mk ?_);refine⟨_,Aum,?_⟩;rintro _ _ ⟨rfl,rfl⟩)|((with_reducible refine Ct.mk ?_);refine⟨_,hsh,?_⟩;rintro _ _ ⟨rfl,rfl⟩)|((with_reducible refine Aq3.mk ?_);refine⟨_,_,At9,?_⟩)|((try dsimp only);rw[hw])|((try dsimp only);rw[hDI])|(((with_reducible apply Ba));(focus (simp only[D.at,D.put,D.Xw,D.Fh,Mg,Jo,D.Bx,Js,Ad,Af,Cn.toD,hlm,he]<;>exact rfl)))|(((with_reducible apply A3));(focus rfl);(focus (simp only[D.at,D.put,D.Xw,D.Fh,Mg,Jo,D.Bx,Js,Ad,Af,Cn.toD,hlm,he]<;>exact rfl));(try(focus exact rfl))))
  all_goals(try(conv=>whnf))
  refine Round.by (j+1,out) ?_ ⟨by omega,ho,hR⟩ (by dsimp only;omega)
  try dsimp only
  show norm _ _=upd _ _
  kernel_rfl
 |true=>
  rw[if_neg (by simp)]at hR
  have hlo:((out.map Pr.Bx).map D.it).length=out.length:=by simp
  by_cases hom:(out.length:Int)=most
  ·rw[if_pos hom]at hR;subst hR;have Bik:decide ((((out.map Pr.Bx).map D.it).length:Int)=most)=true:=by rw[hlo];exact decide_eq_true hom
   repeat'((conv=>whnf);first|((with_reducible refine Ax (by first|(with_reducible assumption)|((with_reducible refine decide_eq_true ?_);omega)) (fun hb=>?_));(try rw[hb]);(try simp only[Aa]at hb);(try subst hb))|((with_reducible refine Aw (by first|(with_reducible assumption)|(with_reducible exact Ak (by assumption))|(with_reducible rfl)) (fun hb=>?_));(try rw[hb]);(try simp only[Aa]at hb))|((with_reducible refine A5 (fun hb=>?_) (fun hb=>?_))<;>first|(exact absurd hb (by decide))|((try rw[hb]);(try simp only[Aa]at hb)))|((with_reducible refine Ac ?_ ?_);focus (and_intros<;>first|omega|(with_reducible rfl)|kernel_rfl|(intro _ hh;cases hh;done)|(simp;done)|decide))|(with_reducible intro Cq)|((with_reducible refine A5 ?_ ?_);focus (first|(with_reducible rfl)|(exact rfl)))|((with_reducible refine Ai2.mkV ?_ ?_ ?_ (fun Cq=>?_));(focus kernel_rfl);(focus kernel_rfl);(focus kernel_rfl);(try simp only[Bv,Bg,Dg,or_false,false_or,or_assoc,forall_eq_or_imp,forall_eq,false_implies,implies_true,forall_const,and_true,true_and]at Cq))|((with_reducible refine Ct.mk ?_);refine⟨_,Aum,?_⟩;rintro _ _ ⟨rfl,rfl⟩)|((with_reducible refine Ct.mk ?_);refine⟨_,hsh,?_⟩;rintro _ _ ⟨rfl,rfl⟩)|((with_reducible refine Aq3.mk ?_);refine⟨_,_,At9,?_⟩)|((try dsimp only);rw[hDI])|((first|with_reducible apply A9|with_reducible apply Ba);(focus (simp only[D.at,D.put,D.Xw,D.Fh,Mg,Jo,D.Bx,Js,Ad,Af,Cn.toD,hlm,he]<;>exact rfl)))|(((with_reducible apply A3));(focus rfl);(focus (simp only[D.at,D.put,D.Xw,D.Fh,Mg,Jo,D.Bx,Js,Ad,Af,Cn.toD,hlm,he]<;>exact rfl));(try(focus exact rfl))))
   all_goals(try(conv=>whnf))
   (apply dKq<;>kernel_rfl)
  ·rw[if_neg hom]at hR;have Bik:decide ((((out.map Pr.Bx).map D.it).length:Int)=most)=false:=by rw[hlo];exact decide_eq_false hom
   repeat'((conv=>whnf);first|((with_reducible refine Ax (by first|(with_reducible assumption)|(with_reducible exact Ai (by assumption))|((with_reducible refine decide_eq_true ?_);omega)) (fun hb=>?_));(try rw[hb]);(try simp only[Aa]at hb))|((with_reducible refine Aw (by first|(with_reducible assumption)|(with_reducible exact Ak (by assumption))|(with_reducible rfl)) (fun hb=>?_));(try rw[hb]);(try simp only[Aa]at hb))|((with_reducible refine A5 (fun hb=>?_) (fun hb=>?_))<;>first|(exact absurd hb (by decide))|((try rw[hb]);(try simp only[Aa]at hb)))|((with_reducible refine Ac ?_ ?_);focus (and_intros<;>first|omega|(with_reducible rfl)|kernel_rfl|(intro _ hh;cases hh;done)|exact Ah (by rfl)|exact Ag rfl|(simp only[An];omega)|(simp;done)|decide))|(with_reducible intro Cq)|((with_reducible refine A5 ?_ ?_);focus (first|(with_reducible rfl)|(exact rfl)))|((with_reducible refine Ai2.mkV ?_ ?_ ?_ (fun Cq=>?_));(focus kernel_rfl);(focus kernel_rfl);(focus kernel_rfl);(try simp only[Bv,Bg,Dg,or_false,false_or,or_assoc,forall_eq_or_imp,forall_eq,false_implies,implies_true,forall_const,and_true,true_and]at Cq))|((with_reducible refine Ct.mk ?_);refine⟨_,Aum,?_⟩;rintro _ _ ⟨rfl,rfl⟩)|((with_reducible refine Ct.mk ?_);refine⟨_,hsh,?_⟩;rintro _ _ ⟨rfl,rfl⟩)|((with_reducible refine Aq3.mk ?_);refine⟨_,_,At9,?_⟩)|((try dsimp only);rw[hw])|((try dsimp only);rw[hDI])|(((with_reducible apply Ba));(focus (simp only[D.at,D.put,D.Xw,D.Fh,Mg,Jo,D.Bx,Js,Ad,Af,Cn.toD,hlm,he]<;>exact rfl)))|(((with_reducible apply A3));(focus rfl);(focus (simp only[D.at,D.put,D.Xw,D.Fh,Mg,Jo,D.Bx,Js,Ad,Af,Cn.toD,hlm,he]<;>exact rfl));(try(focus exact rfl))))
   all_goals(try(conv=>whnf))
   refine Round.by (j+1,out++[⟨k,v.val,v.made,v.rev⟩]) ?_ ⟨by omega,by simp;omega,hR⟩ (by dsimp only;omega)
   try dsimp only
   simp only[F5,Cy,Kc];show norm _ _=upd _ _
   kernel_rfl
end Go.Ab
