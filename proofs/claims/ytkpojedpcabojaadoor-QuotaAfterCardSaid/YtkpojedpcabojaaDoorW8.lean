/- Lemmas -/
import Derived.Test.YtkpojedpcabojaaDoorW2
set_option linter.unusedVariables false
set_option linter.unusedSimpArgs false
set_option maxRecDepth 100000
set_option maxHeartbeats 40000000
namespace Go.Ab
open Go.Proofs
theorem Adt(a b:Az):decide (cmpS a b<0)=decide (a<b):=by
 unfold cmpS;by_cases h:a<b
 ·simp[h]
 ·by_cases h2:b<a<;>simp[h,h2]
theorem Abe(a b:Az):decide (cmpS a b=0)=decide (a=b):=by
 unfold cmpS;by_cases h:a<b
 ·have:a≠b:=by rintro rfl;exact absurd h (List.lt_irrefl a)
  simp[h,this]
 ·by_cases h2:b<a
  ·have:a≠b:=by rintro rfl;exact absurd h2 (List.lt_irrefl a)
   simp[h,h2,this]
  ·have:a=b:=List.le_antisymm (List.not_lt.1 h2) (List.not_lt.1 h);rw[if_neg h,if_neg h2];simp[this]
theorem Ads(a b:Int):decide (cmpI a b<0)=decide (a<b):=by
 unfold cmpI;by_cases h:a<b
 ·simp[h]
 ·by_cases h2:b<a<;>simp[h,h2]
theorem Abd(a b:Int):decide (cmpI a b=0)=decide (a=b):=by
 unfold cmpI;by_cases h:a<b
 ·simp[h];omega
 ·by_cases h2:b<a
  ·simp[h,h2];omega
  ·simp[h,h2];omega
def Kh(n:Az)(h:Hld):Bool:=decide (h.at_<n)
def eqH(n:Az)(h:Hld):Bool:=decide (h.at_=n)
def ltV(n:Int)(v:Ver):Bool:=decide (v.rev<n)
def eqV(n:Int)(v:Ver):Bool:=decide (v.rev=n)
theorem L0(l:List Hld)(n:Az)(hl:l.length≤100000):Fn Tryd.prog Ck [.v (.list (l.map Hld.toI)),.v (.str n),.v (.fn E4)] (Is (.tup [.i (.int .i64 (Km (Kh n) l)),.i (.bool (bsF (Kh n) (eqH n) l))]) [.no,.no,.no]):=by
 refine Cj ?_ (by simp)
 repeat'((conv=>whnf);first|((with_reducible refine Exists.intro ?_ ?_);focus (and_intros<;>(with_reducible rfl)))|(with_reducible intro hfact))
 all_goals(try(conv=>whnf))
 obtain⟨A,hA⟩:∃A,A=Km (Kh n) l:=⟨_,rfl⟩;have hAF:bsF (Kh n) (eqH n) l=(l[A]?).any (eqH n):=by rw[hA];rfl
 have hAle:A≤l.length:=by rw[hA];exact Hp _ _
 rw[hAF, ←hA];unfold Km at hA;refine LoopWq.by (X:=Nat × Nat × Nat) (fun x=>[(9,.v (.int .i64 x.2.1)),(10,.v (.int .i64 x.2.2))]) (fun x=>x.2.1≤x.2.2∧x.2.2≤l.length∧x.2.2 - x.2.1≤x.1∧bsGo (fun h=>(l[h]?).any (Kh n)) x.1 x.2.1 x.2.2=A) (fun x=>x.2.2 - x.2.1)
  (l.length,0,l.length) (by rw[List.length_map];kernel_rfl) ⟨Nat.zero_le _,Nat.le_refl _,Nat.sub_le _ _,hA.symm⟩ ?_
 rintro⟨f,i,j⟩ ⟨h1,h2,h3,h4⟩;dsimp only at h1 h2 h3 h4 ⊢;by_cases hij:i<j
 case neg=>
  have hlt:¬decide ((i:Int)<(j:Int))=true:=by simp;omega
  obtain rfl:i=A:=by
   rw[←h4];cases f with
   |zero=>rfl
   |succ f=>rw[bsGo,if_neg hij]
  by_cases hil:i<l.length
  ·obtain⟨e,he⟩:∃e,l[i]?=some e:=⟨_,List.getElem?_eq_getElem hil⟩;have hl2:¬decide ((i:Int)<((l.map Hld.toI).length:Int))=false:=by simp[hil]
   have hl3:¬decide ((i:Int)<(l.length:Int))=false:=by simp[hil]
   rw[he];simp only[Option.any_some];repeat'((conv=>whnf);first|((with_reducible refine Ax (by first|(with_reducible exact Bool.of_not_eq_false (by assumption))|(with_reducible rfl)) (fun hb=>?_));(try rw[hb]);(try simp only[Aa]at hb))|((with_reducible refine Aw (by(with_reducible exact Bool.of_not_eq_true (by assumption))) (fun hb=>?_));(try rw[hb]);(try simp only[Aa]at hb))|((with_reducible refine Exists.intro ?_ ?_);focus (and_intros<;>first|omega|kernel_rfl|(intro _ hh;cases hh;done)|(simp;done)|decide))|((try dsimp only);(rw[B6 he]))|((with_reducible refine CallWp.mk ?_);refine⟨_,Ka _ _ rfl _,?_⟩;rintro _ _ ⟨rfl,rfl⟩))
   all_goals(try(conv=>whnf))
   refine Done.mk ⟨?_,by kernel_rfl⟩ (by kernel_rfl)
   rw[show eqH n e=decide (cmpS e.at_ n=0)from(Abe e.at_ n).symm];rfl
  ·have hl2:¬decide ((i:Int)<((l.map Hld.toI).length:Int))=true:=by simp;omega
   have hl3:¬decide ((i:Int)<(l.length:Int))=true:=by simp;omega
   rw[List.getElem?_eq_none (by omega)]
   simp only[Option.any_none];repeat'((conv=>whnf);((with_reducible refine Aw (by first|(with_reducible exact Bool.of_not_eq_true (by assumption))|(with_reducible rfl)) (fun hb=>?_));(try rw[hb]);(try simp only[Aa]at hb)))
   all_goals(try(conv=>whnf))
   (apply dKq<;>kernel_rfl)
 have hlt:¬decide ((i:Int)<(j:Int))=false:=by simp[hij]
 obtain⟨g,rfl⟩:∃g,f=g+1:=⟨f - 1,by omega⟩
 rw[bsGo,if_pos hij]at h4;have hmid:=Abw (i:=i) (j:=j) (by omega)
 obtain⟨h,hh⟩:∃h,h=(i+j) / 2:=⟨_,rfl⟩;rw[←hh]at hmid h4;have hhj:h<j:=by omega
 obtain⟨e,he⟩:∃e,l[h]?=some e:=⟨_,List.getElem?_eq_getElem (by omega)⟩
 have hle:(l[h]?).any (Kh n)=decide (cmpS e.at_ n<0):=by rw[he];exact(Adt e.at_ n).symm
 have hw:IntKind.i64.wrap ((h:Int)+1)=((h+1:Nat):Int):=Dk (n:=1000000) (by omega) (by simp only[maxLen];omega)
 rw[hle]at h4;by_cases hc:cmpS e.at_ n<0
 ·have hb:¬decide (cmpS e.at_ n<0)=false:=by simp[hc]
  rw[if_pos (by simpa using hc)]at h4
  repeat'((conv=>whnf);first|((with_reducible refine Ax (by(with_reducible exact Bool.of_not_eq_false (by assumption))) (fun hb=>?_));(try rw[hb]);(try simp only[Aa]at hb))|((with_reducible refine Exists.intro ?_ ?_);focus (and_intros<;>first|omega|kernel_rfl|(intro _ hh;cases hh;done)|(simp;done)|decide))|((try dsimp only);rw[hmid])|((try dsimp only);(rw[B6 he]))|((with_reducible refine CallWp.mk ?_);refine⟨_,Ka _ _ rfl _,?_⟩;rintro _ _ ⟨rfl,rfl⟩)|(skip;rw[hw]))
  all_goals(try(conv=>whnf))
  refine Round.by (g,h+1,j) ?_ ⟨by dsimp only;omega,h2,by dsimp only;omega,h4⟩ (by dsimp only;omega)
  dsimp only;show norm _ _=upd _ _
  kernel_rfl
 ·have hb:¬decide (cmpS e.at_ n<0)=true:=by simp[hc]
  rw[if_neg (by simpa using hc)]at h4
  repeat'((conv=>whnf);first|((with_reducible refine Ax (by(with_reducible exact Bool.of_not_eq_false (by assumption))) (fun hb=>?_));(try rw[hb]);(try simp only[Aa]at hb))|((with_reducible refine Aw (by(with_reducible exact Bool.of_not_eq_true (by assumption))) (fun hb=>?_));(try rw[hb]);(try simp only[Aa]at hb))|((with_reducible refine Exists.intro ?_ ?_);focus (and_intros<;>first|omega|kernel_rfl|(intro _ hh;cases hh;done)|(simp;done)|decide))|((try dsimp only);rw[hmid])|((try dsimp only);(rw[B6 he]))|((with_reducible refine CallWp.mk ?_);refine⟨_,Ka _ _ rfl _,?_⟩;rintro _ _ ⟨rfl,rfl⟩))
  all_goals(try(conv=>whnf))
  refine Round.by (g,i,h) ?_ ⟨by dsimp only;omega,by dsimp only;omega,by dsimp only;omega,h4⟩ (by dsimp only;omega)
  dsimp only;show norm _ _=upd _ _
  kernel_rfl
theorem Aay(l:List Ver)(n:Int)(hl:l.length≤100000):Fn Tryd.prog Cs [.v (.list (l.map Ver.toI)),.v (ti n),.v (.fn Ew)] (Is (.tup [.i (.int .i64 (Km (ltV n) l)),.i (.bool (bsF (ltV n) (eqV n) l))]) [.no,.no,.no]):=by
 refine Co ?_ (by simp)
 repeat'((conv=>whnf);first|((with_reducible refine Exists.intro ?_ ?_);focus (and_intros<;>(with_reducible rfl)))|(with_reducible intro hfact))
 all_goals(try(conv=>whnf))
 obtain⟨A,hA⟩:∃A,A=Km (ltV n) l:=⟨_,rfl⟩;have hAF:bsF (ltV n) (eqV n) l=(l[A]?).any (eqV n):=by rw[hA];rfl
 have hAle:A≤l.length:=by rw[hA];exact Hp _ _
 rw[hAF, ←hA];unfold Km at hA;refine LoopWq.by (X:=Nat × Nat × Nat) (fun x=>[(9,.v (.int .i64 x.2.1)),(10,.v (.int .i64 x.2.2))]) (fun x=>x.2.1≤x.2.2∧x.2.2≤l.length∧x.2.2 - x.2.1≤x.1∧bsGo (fun h=>(l[h]?).any (ltV n)) x.1 x.2.1 x.2.2=A) (fun x=>x.2.2 - x.2.1)
  (l.length,0,l.length) (by rw[List.length_map];kernel_rfl) ⟨Nat.zero_le _,Nat.le_refl _,Nat.sub_le _ _,hA.symm⟩ ?_
 rintro⟨f,i,j⟩ ⟨h1,h2,h3,h4⟩;dsimp only at h1 h2 h3 h4 ⊢;by_cases hij:i<j
 case neg=>
  have hlt:¬decide ((i:Int)<(j:Int))=true:=by simp;omega
  obtain rfl:i=A:=by
   rw[←h4];cases f with
   |zero=>rfl
   |succ f=>rw[bsGo,if_neg hij]
  by_cases hil:i<l.length
  ·obtain⟨e,he⟩:∃e,l[i]?=some e:=⟨_,List.getElem?_eq_getElem hil⟩;have hl2:¬decide ((i:Int)<((l.map Ver.toI).length:Int))=false:=by simp[hil]
   have hl3:¬decide ((i:Int)<(l.length:Int))=false:=by simp[hil]
   rw[he];simp only[Option.any_some];repeat'((conv=>whnf);first|((with_reducible refine Ax (by first|(with_reducible exact Bool.of_not_eq_false (by assumption))|(with_reducible rfl)) (fun hb=>?_));(try rw[hb]);(try simp only[Aa]at hb))|((with_reducible refine Aw (by(with_reducible exact Bool.of_not_eq_true (by assumption))) (fun hb=>?_));(try rw[hb]);(try simp only[Aa]at hb))|((with_reducible refine Exists.intro ?_ ?_);focus (and_intros<;>first|omega|kernel_rfl|(intro _ hh;cases hh;done)|(simp;done)|decide))|((try dsimp only);(rw[B6 he]))|((with_reducible refine CallWp.mk ?_);refine⟨_,Gx _ _,?_⟩;rintro _ _ ⟨rfl,rfl⟩))
   all_goals(try(conv=>whnf))
   refine Done.mk ⟨?_,by kernel_rfl⟩ (by kernel_rfl)
   rw[show eqV n e=decide (cmpI e.rev n=0)from(Abd e.rev n).symm];rfl
  ·have hl2:¬decide ((i:Int)<((l.map Ver.toI).length:Int))=true:=by simp;omega
   have hl3:¬decide ((i:Int)<(l.length:Int))=true:=by simp;omega
   rw[List.getElem?_eq_none (by omega)]
   simp only[Option.any_none];repeat'((conv=>whnf);((with_reducible refine Aw (by first|(with_reducible exact Bool.of_not_eq_true (by assumption))|(with_reducible rfl)) (fun hb=>?_));(try rw[hb]);(try simp only[Aa]at hb)))
   all_goals(try(conv=>whnf))
   (apply dKq<;>kernel_rfl)
 have hlt:¬decide ((i:Int)<(j:Int))=false:=by simp[hij]
 obtain⟨g,rfl⟩:∃g,f=g+1:=⟨f - 1,by omega⟩
 rw[bsGo,if_pos hij]at h4;have hmid:=Abw (i:=i) (j:=j) (by omega)
 obtain⟨h,hh⟩:∃h,h=(i+j) / 2:=⟨_,rfl⟩;rw[←hh]at hmid h4;have hhj:h<j:=by omega
 obtain⟨e,he⟩:∃e,l[h]?=some e:=⟨_,List.getElem?_eq_getElem (by omega)⟩
 have hle:(l[h]?).any (ltV n)=decide (cmpI e.rev n<0):=by rw[he];exact(Ads e.rev n).symm
 have hw:IntKind.i64.wrap ((h:Int)+1)=((h+1:Nat):Int):=Dk (n:=1000000) (by omega) (by simp only[maxLen];omega)
 rw[hle]at h4;by_cases hc:cmpI e.rev n<0
 ·have hb:¬decide (cmpI e.rev n<0)=false:=by simp[hc]
  rw[if_pos (by simpa using hc)]at h4
  repeat'((conv=>whnf);first|((with_reducible refine Ax (by(with_reducible exact Bool.of_not_eq_false (by assumption))) (fun hb=>?_));(try rw[hb]);(try simp only[Aa]at hb))|((with_reducible refine Exists.intro ?_ ?_);focus (and_intros<;>first|omega|kernel_rfl|(intro _ hh;cases hh;done)|(simp;done)|decide))|((try dsimp only);rw[hmid])|((try dsimp only);(rw[B6 he]))|((with_reducible refine CallWp.mk ?_);refine⟨_,Gx _ _,?_⟩;rintro _ _ ⟨rfl,rfl⟩)|(skip;rw[hw]))
  all_goals(try(conv=>whnf))
  refine Round.by (g,h+1,j) ?_ ⟨by dsimp only;omega,h2,by dsimp only;omega,h4⟩ (by dsimp only;omega)
  dsimp only;show norm _ _=upd _ _
  kernel_rfl
 ·have hb:¬decide (cmpI e.rev n<0)=true:=by simp[hc]
  rw[if_neg (by simpa using hc)]at h4
  repeat'((conv=>whnf);first|((with_reducible refine Ax (by(with_reducible exact Bool.of_not_eq_false (by assumption))) (fun hb=>?_));(try rw[hb]);(try simp only[Aa]at hb))|((with_reducible refine Aw (by(with_reducible exact Bool.of_not_eq_true (by assumption))) (fun hb=>?_));(try rw[hb]);(try simp only[Aa]at hb))|((with_reducible refine Exists.intro ?_ ?_);focus (and_intros<;>first|omega|kernel_rfl|(intro _ hh;cases hh;done)|(simp;done)|decide))|((try dsimp only);rw[hmid])|((try dsimp only);(rw[B6 he]))|((with_reducible refine CallWp.mk ?_);refine⟨_,Gx _ _,?_⟩;rintro _ _ ⟨rfl,rfl⟩))
  all_goals(try(conv=>whnf))
  refine Round.by (g,i,h) ?_ ⟨by dsimp only;omega,by dsimp only;omega,by dsimp only;omega,h4⟩ (by dsimp only;omega)
  dsimp only;show norm _ _=upd _ _
  kernel_rfl

abbrev Pq:=(Nat × SV) × (Nat × SV)
def N1(c:Nat × (Nat × SV)):List Rd→List Pq
 | []=>[]
 | .all _::r=>N1 c r
 | .prj i f o::r=>match Nat.beq i c.1 with
   |true=>(f c.2.1 c.2.2,o)::N1 c r
   |false=>N1 c r
def Qw:Log→List Rd→List Pq
 | [],_=>[]
 |c::L,R=>N1 c R++Qw L R
def P1(rd:Rd):List Rec→List Pq
 | []=>[]
 |e::r=>Qw e.L [rd]++P1 rd r
def badP:Pq:=((0,.no),(1,.no))
abbrev Eqs(l:List Pq):Prop:=∀p∈l,p.1=p.2
theorem Eqs.of:∀{l:List Pq},l.map Prod.fst=l.map Prod.snd→Eqs l
 | [],_=>by intro p hp;cases hp
 |q::l,h=>by
  simp only[List.map_cons,List.cons.injEq]at h;intro p hp;rcases List.mem_cons.1 hp with rfl|hp
  ·exact h.1
  ·exact Eqs.of h.2 p hp
theorem Jn{c:Nat × (Nat × SV)}:∀{R:List Rd},Eqs (N1 c R)→K8 c R
 | [],_=>trivial
 | .all _::r,h=>Jn (R:=r) h
 | .prj i f o::r,h=>by
   simp only[N1]at h;simp only[K8];cases hb:Nat.beq i c.1 with
   |true=>
    rw[hb]at h;exact⟨h _ (List.mem_cons_self ..),Jn (R:=r) fun p hp=>h p (List.mem_cons_of_mem _ hp)⟩
   |false=>
    rw[hb]at h;exact⟨trivial,Jn (R:=r) h⟩
theorem K7:∀{L:Log} {R:List Rd},Eqs (Qw L R)→Dh L R
 | [],_,_=>trivial
 |c::L,R,h=>⟨Jn fun p hp=>h p (List.mem_append_left _ hp),K7 fun p hp=>h p (List.mem_append_right _ hp)⟩
def okC(d e:Rec):Bool:=Cx (slots d.L) (slots e.L)&&Cx (slots d.L) (fulls e.R)&&Cx (slots e.L) (fulls d.R)
def Re(d:Rec)(m:Nat):Nat→List Rec→Bool
 |n+1,e::r=>(m.testBit n||okC d e)&&Re d m n r
 |_,_=>true
def okV(n:Nat)(rp:List Rec):List Rec→List Nat→Bool
 | [],_=>true
 |d::r,m::ms=>Re d m n rp&&okV (n+1) (d::rp) r ms
 |_::_,[]=>false
def Hy(d:Rec)(m:Nat):Nat→List Rec→List Pq
 |n+1,e::r=>match m.testBit n with
  |true=>Hy d m n r
  |false=>Qw d.L e.R++Hy d m n r
 |_,_=>[]
def Ug(n:Nat)(rp:List Rec):List Rec→List Nat→List Pq
 | [],_=>[]
 |d::r,m::ms=>Hy d m n rp++Ug (n+1) (d::rp) r ms
 |_::_,[]=>[]
def offV(y m:Nat):Nat→List Rec→Bool
 |n+1,e::r=>(m.testBit n|| !(slots e.L).contains y)&&offV y m n r
 |_,_=>true
def F3(st0:St)(n:Nat)(rp:List Rec)(m:Nat):List Rd→List Pq
 | []=>[]
 | .all _::r=>F3 st0 n rp m r
 | .prj y f o::r=>match offV y m n rp with
   |true=>F3 st0 n rp m r
   |false=>(match st0[y]? with
    |some c=>(f c.1 c.2,o)
    |none=>badP)::(P1 (.prj y f o) rp++F3 st0 n rp m r)
def Uf(st0:St)(n:Nat)(rp:List Rec):List Rec→List Nat→List Pq
 | [],_=>[]
 |d::r,m::ms=>F3 st0 n rp m d.R++Uf st0 (n+1) (d::rp) r ms
 |_::_,[]=>[]
theorem Rf{d e:Rec}{m:Nat}:∀{l:List Rec} {k:Nat},Fp d m k (l++[e])=(Fp d m k l&&(m.testBit (k+l.length)||okC d e))
 | [],k=>by simp[Fp,okC]
 |x::l,k=>by
  simp only[List.cons_append,Fp,List.length_cons];rw[Rf (l:=l) (k:=k+1),show k+1+l.length=k+(l.length+1)by omega]
  simp only[Bool.and_assoc]
theorem S4{d:Rec}{m:Nat}:∀{rp:List Rec},Re d m rp.length rp=Fp d m 0 rp.reverse
 | []=>rfl
 |e::r=>by
  simp only[List.length_cons,Re,List.reverse_cons];rw[Rf,S4 (rp:=r),Nat.zero_add,List.length_reverse,Bool.and_comm]
theorem Ab3:∀{ds rp:List Rec} {ms:List Nat},okV rp.length rp ds ms=Gk rp.reverse ds ms
 | [],_,_=>by simp[okV,Gk]
 |_::_,_,[]=>rfl
 |d::r,rp,m::ms=>by
  simp only[okV,Gk];rw[S4, ←List.reverse_cons, ←Ab3 (rp:=d::rp)];rfl
theorem H0{d e:Rec}{m:Nat}:∀{l:List Rec} {k:Nat},D6 d m k l→(m.testBit (k+l.length)=false→Dh d.L e.R)→D6 d m k (l++[e])
 | [],k,_,h=>by
   simp only[List.nil_append,D6];refine⟨?_,trivial⟩;cases hb:m.testBit k with
   |true=>trivial
   |false=>exact h hb
 |x::l,k,h1,h2=>by
  simp only[List.cons_append,D6]at h1 ⊢;exact⟨h1.1,H0 h1.2 fun hb=>h2 (by rwa [List.length_cons,show k+(l.length+1)=k+1+l.length by omega])⟩
theorem Hz{d:Rec}{m:Nat}:∀{rp:List Rec},Eqs (Hy d m rp.length rp)→D6 d m 0 rp.reverse
 | [],_=>trivial
 |e::r,h=>by
  simp only[List.length_cons,Hy]at h;rw[List.reverse_cons];cases hb:m.testBit r.length with
  |true=>
   rw[hb]at h;exact H0 (Hz (rp:=r) h) fun hb'=>by rw[Nat.zero_add,List.length_reverse,hb]at hb';cases hb'
  |false=>
   rw[hb]at h;exact H0 (Hz (rp:=r) fun p hp=>h p (List.mem_append_right _ hp)) fun _=>K7 fun p hp=>h p (List.mem_append_left _ hp)
theorem Sx:∀{ds rp:List Rec} {ms:List Nat},okV rp.length rp ds ms=true→Eqs (Ug rp.length rp ds ms)→Hh rp.reverse ds ms
 | [],_,_,_,_=>trivial
 |_::_,_,[],h,_=>by cases h
 |d::r,rp,m::ms,hk,h=>by
  simp only[okV,Bool.and_eq_true]at hk;refine⟨Hz fun p hp=>h p (List.mem_append_left _ hp),?_⟩
  rw[←List.reverse_cons];exact Sx (rp:=d::rp) hk.2 fun p hp=>h p (List.mem_append_right _ hp)
theorem Ng{y m:Nat}{e:Rec}:∀{l:List Rec} {k:Nat},Cp y m k (l++[e])=(Cp y m k l&&(m.testBit (k+l.length)|| !(slots e.L).contains y))
 | [],k=>by simp[Cp]
 |x::l,k=>by
  simp only[List.cons_append,Cp,List.length_cons];rw[Ng (l:=l) (k:=k+1),show k+1+l.length=k+(l.length+1)by omega]
  simp only[Bool.and_assoc]
theorem Yi{y m:Nat}:∀{rp:List Rec},offV y m rp.length rp=Cp y m 0 rp.reverse
 | []=>rfl
 |e::r=>by
  simp only[List.length_cons,offV,List.reverse_cons];rw[Ng,Yi (rp:=r),Nat.zero_add,List.length_reverse,Bool.and_comm]
theorem M5{rd:Rd}{e:Rec}:∀{l:List Rec},Em rd l→Dh e.L [rd]→Em rd (l++[e])
 | [],_,h=>⟨h,trivial⟩
 |x::l,h1,h2=>⟨h1.1,M5 h1.2 h2⟩
theorem M4{rd:Rd}:∀{rp:List Rec},Eqs (P1 rd rp)→Em rd rp.reverse
 | [],_=>trivial
 |e::r,h=>by
  rw[List.reverse_cons];exact M5 (M4 fun p hp=>h p (List.mem_append_right _ hp)) (K7 fun p hp=>h p (List.mem_append_left _ hp))
theorem Fg{st0:St}{rp:List Rec}{m:Nat}:∀{R:List Rd},Eqs (F3 st0 rp.length rp m R)→Ek st0 rp.reverse m R
 | [],_=>trivial
 | .all _::r,h=>Fg (R:=r) h
 | .prj y f o::r,h=>by
   simp only[F3,Yi]at h;simp only[Ek];cases hb:Cp y m 0 rp.reverse with
   |true=>
    rw[hb]at h;exact⟨trivial,Fg (R:=r) h⟩
   |false=>
    rw[hb]at h;have h1:=h _ (List.mem_cons_self ..);refine⟨⟨?_,M4 fun p hp=>h p (List.mem_cons_of_mem _ (List.mem_append_left _ hp))⟩,Fg fun p hp=>h p (List.mem_cons_of_mem _ (List.mem_append_right _ hp))⟩
    cases hs:st0[y]? with
    |some c=>rw[hs]at h1;exact h1
    |none=>rw[hs]at h1;simp[badP]at h1
theorem Sr{st0:St}:∀{ds rp:List Rec} {ms:List Nat},okV rp.length rp ds ms=true→Eqs (Uf st0 rp.length rp ds ms)→Hg st0 rp.reverse ds ms
 | [],_,_,_,_=>trivial
 |_::_,_,[],h,_=>by cases h
 |d::r,rp,m::ms,hk,h=>by
  simp only[okV,Bool.and_eq_true]at hk;refine⟨Fg fun p hp=>h p (List.mem_append_left _ hp),?_⟩
  rw[←List.reverse_cons];exact Sr (rp:=d::rp) hk.2 fun p hp=>h p (List.mem_append_right _ hp)
theorem Drawn.mkV{st0:St}{ms:List Nat}{Q:St→Prop}{ds:List Rec}{st:St}(h:okV 0 [] ds ms=true)(h2:(Ug 0 [] ds ms).map Prod.fst=(Ug 0 [] ds ms).map Prod.snd)
 (h3:(Uf st0 0 [] ds ms).map Prod.fst=(Uf st0 0 [] ds ms).map Prod.snd) (hq:(∀d∈ds,∀p∈d.F,p)→Q st):Drawn st0 ms Q ds st:=
 ⟨by rw[←show okV 0 [] ds ms=Gk [] ds ms from Ab3 (rp:=[])];exact h,Sx (rp:=[]) h (Eqs.of h2),Sr (rp:=[]) h (Eqs.of h3),hq⟩

open Go.Proofs
def Hld.toD(h:Hld):D:=.st [.it (.str h.at_),.vec Bb 4 ((h.vs.map Ver.toI).map D.it)]
def Sto.toD(s:Sto):D:=.st [.map (s.sp.map fun x=>.str x.1) (s.sp.map fun x=>.ptr (.it x.2.toI)),.vec Dr 2 (s.l.map Hld.toD)]
abbrev sP(s:Sto):SV:=.own [] (.ptr s.toD)
theorem Hld.toD_I(h:Hld):h.toD.toI=some h.toI:=by
 simp only[Hld.toD,Hld.toI,D.toI,toIs,Ak]
theorem U8(l:List Hld):toIs (l.map Hld.toD)=some (l.map Hld.toI):=Wz Hld.toD_I l
theorem E5{α:Type}(f:α→Az)(k:Az):∀(l:List α) (i:Nat),Db k (l.map fun x=>.str (f x)) i=some ((l.findIdx? (fun x=>decide (f x=k))).map (· +i))
 | [],i=>by simp[Db]
 |x::l,i=>by
  simp only[List.map_cons,Db,List.findIdx?_cons];by_cases h:f x=k
  ·simp[h]
  ·rw[if_neg h,E5 f k l (i+1)];simp only[h,decide_false,Bool.false_eq_true,if_false,Option.map_map]
   congr 2
   funext a;simp only[Function.comp];omega
def Sto.fi(s:Sto)(n:Az):Option Nat:=s.sp.findIdx? fun x=>decide (x.1=n)
def tal0:Tal:=⟨0,0,0,0,0⟩
def Sto.tal(s:Sto)(n:Az):Tal:=((s.sp.find? fun x=>decide (x.1=n)).map (·.2)).getD tal0
theorem Sto.fi_none{s:Sto}{n:Az}(h:s.fi n=none):Db n (s.sp.map fun x=>.str x.1) 0=some none∧s.tal n=tal0:=by
 refine⟨by rw[E5 (fun x:Az × Tal=>x.1)];unfold Sto.fi at h;rw[h];rfl,?_⟩
 unfold Sto.fi at h;rw[List.findIdx?_eq_none_iff]at h;unfold Sto.tal;rw[List.find?_eq_none.2 (by simpa using h)]
 rfl
theorem Sto.fi_some{s:Sto}{n:Az}{i:Nat}(h:s.fi n=some i):Db n (s.sp.map fun x=>.str x.1) 0=some (some i)∧(s.sp.map fun x=>D.ptr (.it x.2.toI))[i]?=some (.ptr (.it (s.tal n).toI))∧s.sp[i]?=some (n,s.tal n):=by
 have h0:=h;unfold Sto.fi at h;have hs:s.sp[i]?=some (n,s.tal n):=by
  obtain⟨hi,h1,h2⟩:=List.findIdx?_eq_some_iff_getElem.1 h;have hf:s.sp.find? (fun x=>decide (x.1=n))=some s.sp[i]:=by
   rw[List.find?_eq_some_iff_getElem];exact⟨h1,i,hi,rfl,fun j hj=>by simpa using h2 j hj⟩
  rw[List.getElem?_eq_getElem hi];simp only[decide_eq_true_eq]at h1;unfold Sto.tal;rw[hf];show some s.sp[i]=some (n,s.sp[i].2);rw[←h1]
 refine⟨by rw[E5 (fun x:Az × Tal=>x.1),h];rfl,by rw[List.getElem?_map,hs];rfl,hs⟩
theorem Au{N:Nat}{os:List Opd}{st:St}{K:SV→St→Prop}(h:litK (En 23 os st) fun st=>F7 Tryd.prog Mk noY ⟨FinP 23 N 4 5 K,noEx,FinP 23 N 4 5 K⟩ st)(hn:os.length≤23:=by decide):InlWp Tryd.prog 65 N os st K:=
 InlWp.of_bodyP Tryd.func65 rfl Tryd.ntmps65 (by kernel_rfl) (by kernel_rfl) (by decide) (by decide) hn h
theorem Aci(s:Sto)(n:Az):Fn Tryd.prog Y5 [sP s,.v (.str n)] (Is (.v (ti (s.tal n).rev)) [sP s,.no]):=by
 refine Xv ?_ (by simp)
 cases hf:s.fi n with
 |none=>
  obtain⟨h1,h2⟩:=Sto.fi_none hf;rw[h2];repeat'((conv=>whnf);first|((with_reducible refine Ax (by(with_reducible rfl)) (fun hb=>?_));(try rw[hb]);(try simp only[Aa]at hb))|((with_reducible refine Aw (by(with_reducible rfl)) (fun hb=>?_));(try rw[hb]);(try simp only[Aa]at hb))|((with_reducible refine Exists.intro ?_ ?_);focus (and_intros<;>first|omega|(with_reducible rfl)|kernel_rfl|(simp;done)))|((refine Au ?_))|(((with_reducible apply A9));(focus (simp only[D.at,D.put,D.kid,D.setKid,mkSt,Ap,D.toI,toIs,Ak,Af,h1,Sto.toD]<;>exact rfl))))
  all_goals(try(conv=>whnf))
  (apply dKq<;>kernel_rfl)
 |some i=>
  obtain⟨h1,h2,h3⟩:=Sto.fi_some hf;repeat'((conv=>whnf);first|((with_reducible refine Ax (by(with_reducible rfl)) (fun hb=>?_));(try rw[hb]);(try simp only[Aa]at hb))|((with_reducible refine Exists.intro ?_ ?_);focus (and_intros<;>first|omega|(with_reducible rfl)|kernel_rfl|(simp;done)))|((with_reducible refine And.intro ?_ ?_);focus (decide))|((refine Au ?_))|(((with_reducible apply A9));(focus (simp only[D.at,D.put,D.kid,D.setKid,mkSt,Ap,D.toI,toIs,Ak,Af,h1,h3,Sto.toD,Tal.toI]<;>exact rfl)))|(((with_reducible apply A3));(focus rfl);(focus (simp only[D.at,D.put,D.kid,D.setKid,mkSt,Ap,D.toI,toIs,Ak,Af,h1,h3,Sto.toD,Tal.toI]<;>exact rfl));(try(focus exact rfl))))
  all_goals(try(conv=>whnf))
  (apply dKq<;>kernel_rfl)
theorem Aj6(s:Sto)(n:Az):Fn Tryd.prog Ag2 [sP s,.v (.str n)] (Is (.v (ti (s.tal n).bytes)) [sP s,.no]):=by
 refine Ag0 ?_ (by simp)
 cases hf:s.fi n with
 |none=>
  obtain⟨h1,h2⟩:=Sto.fi_none hf;rw[h2];repeat'((conv=>whnf);first|((with_reducible refine Ax (by(with_reducible rfl)) (fun hb=>?_));(try rw[hb]);(try simp only[Aa]at hb))|((with_reducible refine Aw (by(with_reducible rfl)) (fun hb=>?_));(try rw[hb]);(try simp only[Aa]at hb))|((with_reducible refine Exists.intro ?_ ?_);focus (and_intros<;>first|omega|(with_reducible rfl)|kernel_rfl|(simp;done)))|((refine Au ?_))|(((with_reducible apply A9));(focus (simp only[D.at,D.put,D.kid,D.setKid,mkSt,Ap,D.toI,toIs,Ak,Af,h1,Sto.toD]<;>exact rfl))))
  all_goals(try(conv=>whnf))
  (apply dKq<;>kernel_rfl)
 |some i=>
  obtain⟨h1,h2,h3⟩:=Sto.fi_some hf;repeat'((conv=>whnf);first|((with_reducible refine Ax (by(with_reducible rfl)) (fun hb=>?_));(try rw[hb]);(try simp only[Aa]at hb))|((with_reducible refine Exists.intro ?_ ?_);focus (and_intros<;>first|omega|(with_reducible rfl)|kernel_rfl|(simp;done)))|((with_reducible refine And.intro ?_ ?_);focus (decide))|((refine Au ?_))|(((with_reducible apply A9));(focus (simp only[D.at,D.put,D.kid,D.setKid,mkSt,Ap,D.toI,toIs,Ak,Af,h1,h3,Sto.toD,Tal.toI]<;>exact rfl)))|(((with_reducible apply A3));(focus rfl);(focus (simp only[D.at,D.put,D.kid,D.setKid,mkSt,Ap,D.toI,toIs,Ak,Af,h1,h3,Sto.toD,Tal.toI]<;>exact rfl));(try(focus exact rfl))))
  all_goals(try(conv=>whnf))
  (apply dKq<;>kernel_rfl)
theorem Akb(s:Sto)(n:Az):Fn Tryd.prog Ahf [sP s,.v (.str n)] (Is (.v (ti (s.tal n).keys)) [sP s,.no]):=by
 refine Ag7 ?_ (by simp)
 cases hf:s.fi n with
 |none=>
  obtain⟨h1,h2⟩:=Sto.fi_none hf;rw[h2];repeat'((conv=>whnf);first|((with_reducible refine Ax (by(with_reducible rfl)) (fun hb=>?_));(try rw[hb]);(try simp only[Aa]at hb))|((with_reducible refine Aw (by(with_reducible rfl)) (fun hb=>?_));(try rw[hb]);(try simp only[Aa]at hb))|((with_reducible refine Exists.intro ?_ ?_);focus (and_intros<;>first|omega|(with_reducible rfl)|kernel_rfl|(simp;done)))|((refine Au ?_))|(((with_reducible apply A9));(focus (simp only[D.at,D.put,D.kid,D.setKid,mkSt,Ap,D.toI,toIs,Ak,Af,h1,Sto.toD]<;>exact rfl))))
  all_goals(try(conv=>whnf))
  (apply dKq<;>kernel_rfl)
 |some i=>
  obtain⟨h1,h2,h3⟩:=Sto.fi_some hf;repeat'((conv=>whnf);first|((with_reducible refine Ax (by(with_reducible rfl)) (fun hb=>?_));(try rw[hb]);(try simp only[Aa]at hb))|((with_reducible refine Exists.intro ?_ ?_);focus (and_intros<;>first|omega|(with_reducible rfl)|kernel_rfl|(simp;done)))|((with_reducible refine And.intro ?_ ?_);focus (decide))|((refine Au ?_))|(((with_reducible apply A9));(focus (simp only[D.at,D.put,D.kid,D.setKid,mkSt,Ap,D.toI,toIs,Ak,Af,h1,h3,Sto.toD,Tal.toI]<;>exact rfl)))|(((with_reducible apply A3));(focus rfl);(focus (simp only[D.at,D.put,D.kid,D.setKid,mkSt,Ap,D.toI,toIs,Ak,Af,h1,h3,Sto.toD,Tal.toI]<;>exact rfl));(try(focus exact rfl))))
  all_goals(try(conv=>whnf))
  (apply dKq<;>kernel_rfl)

open Go.Proofs
def verN:Ver:=⟨0,0,[],false⟩
def Un(vs:List Ver):Nat→Ver × Bool
 |0=>(verN,false)
 |i+1=>match vs[i]? with
  |some v=>if v.gone=true then(verN,false)else(v,true)
  |none=>(verN,false)
def D1(vs:List Ver)(rev:Int):Ver × Bool:=Un vs (Km (ltV (rev+1)) vs)
theorem Ns(a:Az)(vs:List Ver)(rev:Int)(hr: -1≤rev∧rev≤9000000000000000000)(hl:vs.length≤100000):
 Fn Tryd.prog Ky [.v (.agg [.str a,.list (vs.map Ver.toI)]),.v (ti rev)] (Is (.tup [.i (D1 vs rev).1.toI,.i (.bool (D1 vs rev).2)]) [.no,.no]):=by
 refine Kn ?_ (by simp)
 have hw:IntKind.i64.wrap (rev+1)=rev+1:=Bf (by omega)
 have hbs:=Aay vs (rev+1) hl;have hle:=Hp (ltV (rev+1)) vs;obtain⟨A,hA⟩:∃A,A=Km (ltV (rev+1)) vs:=⟨_,rfl⟩;obtain⟨B,hB⟩:∃B,B=bsF (ltV (rev+1)) (eqV (rev+1)) vs:=⟨_,rfl⟩;have hM:D1 vs rev=Un vs A:=by rw[hA];rfl
 rw[←hA, ←hB]at hbs;rw[←hA]at hle;rw[hM];cases A with
 |zero=>
  have h0:¬decide (((0:Nat):Int)=0)=false:=by simp
  repeat'((conv=>whnf);first|((with_reducible refine Ax (by first|(with_reducible exact Bool.of_not_eq_false (by assumption))|(with_reducible rfl)) (fun hb=>?_));(try rw[hb]);(try simp only[Aa]at hb))|((with_reducible refine Exists.intro ?_ ?_);focus (and_intros<;>first|omega|kernel_rfl|(intro _ hh;cases hh;done)|(simp;done)|decide))|((try dsimp only);rw[hw])|((with_reducible refine CallWp.mk ?_);refine⟨_,hbs,?_⟩;rintro _ _ ⟨rfl,rfl⟩))
  all_goals(try(conv=>whnf))
  (apply dKq<;>kernel_rfl)
 |succ i=>
  obtain⟨v,hv⟩:∃v,vs[i]?=some v:=⟨_,List.getElem?_eq_getElem (by omega)⟩
  have h0:¬decide (((i+1:Nat):Int)=0)=true:=by simp;omega
  have hw2:IntKind.i64.wrap (((i+1:Nat):Int) - 1)=(i:Int):=by rw[Bf (by omega)];omega
  have hN:Un vs (i+1)=if v.gone=true then(verN,false)else(v,true):=by simp only[Un,hv]
  rw[hN];cases hg:v.gone with
  |true=>
   repeat'((conv=>whnf);first|((with_reducible refine Ax (by(with_reducible assumption)) (fun hb=>?_));(try rw[hb]))|((with_reducible refine Aw (by first|(with_reducible exact Bool.of_not_eq_true (by assumption))|(with_reducible rfl)) (fun hb=>?_));(try rw[hb]);(try simp only[Aa]at hb))|((with_reducible refine Exists.intro ?_ ?_);focus (and_intros<;>first|omega|kernel_rfl|(intro _ hh;cases hh;done)|(simp;done)|decide))|((try dsimp only);rw[hw])|((with_reducible refine CallWp.mk ?_);refine⟨_,hbs,?_⟩;rintro _ _ ⟨rfl,rfl⟩)|((try dsimp only);rw[hw2])|(skip;(rw[B6 hv])))
   all_goals(try(conv=>whnf))
   (apply dKq<;>kernel_rfl)
  |false=>
   repeat'((conv=>whnf);first|((with_reducible refine Aw (by first|(with_reducible assumption)|(with_reducible exact Bool.of_not_eq_true (by assumption))|(with_reducible rfl)) (fun hb=>?_));(try rw[hb]);(try simp only[Aa]at hb))|((with_reducible refine Exists.intro ?_ ?_);focus (and_intros<;>first|omega|kernel_rfl|(intro _ hh;cases hh;done)|(simp;done)|decide))|((try dsimp only);rw[hw])|((with_reducible refine CallWp.mk ?_);refine⟨_,hbs,?_⟩;rintro _ _ ⟨rfl,rfl⟩)|((try dsimp only);rw[hw2])|(skip;(rw[B6 hv])))
   all_goals(try(conv=>whnf))
   (apply dKq<;>kernel_rfl)

open Go.Proofs
def Ep(n:Az)(x:Sp)(rev most:Int):List Hld→List Pr→List Pr × Bool
 | [],out=>(out,false)
 |h::r,out=>if(C1 h.at_).1≠n then(out,false)else if ¬SpH x (C1 h.at_).2.1 then Ep n x rev most r out else
  if(D1 h.vs rev).2=false then Ep n x rev most r out else if(out.length:Int)=most then(out,true)else
  Ep n x rev most r (out++[⟨(C1 h.at_).2.1,(D1 h.vs rev).1.val,(D1 h.vs rev).1.made,(D1 h.vs rev).1.rev⟩])
def Zb:Prop:=∃T1 T2,OfC Tryd.prog Pw Mu T1 T2
structure Sto.Bd(s:Sto):Prop where
 len:s.l.length≤90000
 held:∀h∈s.l,h.at_.length≤1000000∧h.vs≠[]∧h.vs.length≤90000
theorem Ab6(hof:Zb)(s:Sto)(hB:s.Bd)(n:Az)(hn:n.length≤100000)(x:Sp)(rev most:Int)(i:Nat)(hf:s.fi n=some i)(hx:SpR x)(hr:0<rev∧rev≤(s.tal n).rev∧(s.tal n).floor≤rev∧rev≤9000000000000000000)(hm:1≤most∧most≤16)(RES:List Pr × Bool)(hRES:Ep n x rev most (s.l.drop (Km (Kh (B7 n [])) s.l)) []=RES):
 Fn Tryd.prog C9 [sP s,.v (.str n),.v x.toI,.v (ti rev),.v (ti most)] (Is (.tup [.i (.list (RES.1.map Pr.toI)),.i (.bool RES.2),.i (ti 0)]) [sP s,.no,.no,.no,.no]):=by
 obtain⟨T1,T2,hof⟩:=hof;refine D0 ?_ (by simp)
 obtain⟨h1,h2,h3⟩:=Sto.fi_some hf;have hs:=Pu x;rw[decide_eq_true hx]at hs;have hI:=U8 s.l;have hwh:=L1 n [] hn (by simp)
 have hbs:=L0 s.l (B7 n []) (by have:=hB.len;omega)
 obtain⟨A,hA⟩:∃A,A=Km (Kh (B7 n [])) s.l:=⟨_,rfl⟩;obtain⟨B,hB'⟩:∃B,B=bsF (Kh (B7 n [])) (eqH (B7 n [])) s.l:=⟨_,rfl⟩;rw[←hA, ←hB']at hbs;repeat'((conv=>whnf);first|((with_reducible refine Ax (by first|((with_reducible refine decide_eq_true ?_);omega)|(with_reducible rfl)) (fun hb=>?_));(try rw[hb]);(try simp only[Aa]at hb))|((with_reducible refine Aw (by first|((with_reducible refine decide_eq_false ?_);omega)|(with_reducible rfl)) (fun hb=>?_));(try rw[hb]);(try simp only[Aa]at hb))|((with_reducible refine And.intro (fun hb=>?_) (fun hb=>?_))<;>first|(exact absurd hb (by decide))|((try rw[hb]);(try simp only[Aa]at hb)))|((with_reducible refine Exists.intro ?_ ?_);focus (and_intros<;>first|omega|(with_reducible rfl)|kernel_rfl|(intro _ hh;cases hh;done)|(simp;done)|decide))|(with_reducible intro hfact)|((with_reducible refine And.intro ?_ ?_);focus (first|(with_reducible rfl)|decide))|((with_reducible refine Drawn.mkV ?_ ?_ ?_ (fun hfact=>?_));(focus kernel_rfl);(focus kernel_rfl);(focus kernel_rfl);(try simp only[dRS]at hfact))|((refine Au ?_))|((with_reducible refine CallWp.mk ?_);refine⟨_,hs,?_⟩;rintro _ _ ⟨rfl,rfl⟩)|((refine Abo hof ?_))|((with_reducible refine CallWp.mk ?_);refine⟨_,hwh,?_⟩;rintro _ _ ⟨rfl,rfl⟩)|((refine Bj ?_ (by decide)))|((with_reducible refine CallWp.mk ?_);refine⟨_,hbs,?_⟩;rintro _ _ ⟨rfl,rfl⟩)|(((with_reducible apply A9));(focus (simp only[D.at,D.put,D.kid,D.setKid,mkSt,Ap,D.toI,toIs,Ak,Af,h1,h3,hI,Sto.toD,Tal.toI]<;>exact rfl)))|(((with_reducible apply A3));(focus rfl);(focus (simp only[D.at,D.put,D.kid,D.setKid,mkSt,Ap,D.toI,toIs,Ak,Af,h1,h3,hI,Sto.toD,Tal.toI]<;>exact rfl));(try(focus exact rfl))))
 all_goals(try(conv=>whnf))
 have hAl:A≤s.l.length:=by rw[hA];exact Hp _ _
 rw[←hA]at hRES;refine LoopWq.by (X:=Nat × List Pr) (fun y=>[(5,.v (ti (y.1:Int))),(65,.own [] (.ptr (.vec 67 4 ((y.2.map Pr.toI).map D.it))))]) (fun y=>y.1≤s.l.length∧(y.2.length:Int)≤most∧Ep n x rev most (s.l.drop y.1) y.2=RES) (fun y=>s.l.length - y.1) (A,[]) (by kernel_rfl) ⟨hAl,by simp;omega,hRES⟩ ?_
 rintro⟨j,out⟩ ⟨hj,ho,hR⟩;dsimp only at hj ho hR ⊢;have hlen:=hB.len;have hlm:(s.l.map Hld.toD).length=s.l.length:=List.length_map _;have hw:IntKind.i64.wrap ((j:Int)+1)=((j+1:Nat):Int):=Dk (n:=100000) (by omega) (by simp only[maxLen];omega)
 by_cases hjl:j<s.l.length
 case neg=>
  have hlt:¬decide ((j:Int)<(s.l.length:Int))=true:=by simp;omega
  rw[List.drop_eq_nil_of_le (by omega)]at hR
  have hR:(out,false)=RES:=hR;subst hR;repeat'((conv=>whnf);first|((with_reducible refine Aw (by first|(with_reducible exact Bool.of_not_eq_true (by assumption))|((with_reducible refine decide_eq_false ?_);omega)) (fun hb=>?_));(try rw[hb]);(try simp only[Aa]at hb))|((with_reducible refine Exists.intro ?_ ?_);focus (and_intros<;>first|omega|(with_reducible rfl)|kernel_rfl|(simp;done)))|(with_reducible intro hfact)|((with_reducible refine And.intro ?_ ?_);focus ((with_reducible rfl)))|(((with_reducible apply A9));(focus (simp only[D.at,D.put,D.kid,D.setKid,mkSt,Ap,D.toI,toIs,Ak,Af,Sto.toD,hlm]<;>exact rfl))))
  all_goals(try(conv=>whnf))
  (apply dKq<;>kernel_rfl)
 obtain⟨h,he⟩:∃h,s.l[j]?=some h:=⟨_,List.getElem?_eq_getElem hjl⟩;have hlt:¬decide ((j:Int)<(s.l.length:Int))=false:=by simp;omega
 obtain⟨hb1,hb2,hb3⟩:=hB.held h (List.mem_of_getElem? he);have hwho:=L2 h.at_ hb1;have hdr:s.l.drop j=h::s.l.drop (j+1):=by rw[List.drop_eq_getElem_cons hjl];rw[List.getElem?_eq_getElem hjl]at he;cases he;rfl
 rw[hdr]at hR;simp only[Ep]at hR;have hver:=Ns h.at_ h.vs rev (by omega) (by omega)
 have hsh:=Tu x (C1 h.at_).2.1;generalize C1 h.at_=wk at hwho hR hsh;obtain⟨w,k,z⟩:=wk;generalize D1 h.vs rev=vb at hver hR;obtain⟨v,b⟩:=vb;dsimp only at hwho hR hsh hver;have hDI:=Hld.toD_I h;simp only[Hld.toI]at hDI;by_cases hwn:w=n
 case neg=>
  have hnb:¬(!decide (w=n))=false:=by simpa using hwn
  have hnb2:¬decide (w=n)=true:=by simpa using hwn
  rw[if_pos hwn]at hR;subst hR;repeat'((conv=>whnf);first|((with_reducible refine Ax (by first|(with_reducible exact Bool.of_not_eq_false (by assumption))|((with_reducible refine decide_eq_true ?_);omega)|(with_reducible rfl)) (fun hb=>?_));(try rw[hb]);(try simp only[Aa]at hb))|((with_reducible refine Exists.intro ?_ ?_);focus (and_intros<;>first|omega|(with_reducible rfl)|kernel_rfl|(intro _ hh;cases hh;done)|(simp;done)|decide))|(with_reducible intro hfact)|((with_reducible refine And.intro ?_ ?_);focus ((with_reducible rfl)))|((with_reducible refine CallWp.mk ?_);refine⟨_,hwho,?_⟩;rintro _ _ ⟨rfl,rfl⟩)|(((with_reducible apply A9));(focus (simp only[D.at,D.put,D.kid,D.setKid,mkSt,Ap,D.toI,toIs,Ak,Af,Sto.toD,hlm,he]<;>exact rfl)))|(((with_reducible apply A3));(focus rfl);(focus (simp only[D.at,D.put,D.kid,D.setKid,mkSt,Ap,D.toI,toIs,Ak,Af,Sto.toD,hlm,he]<;>exact rfl));(try(focus exact rfl))))
  all_goals(try(conv=>whnf))
  (apply dKq<;>kernel_rfl)
 subst hwn;rw[if_neg (by simp)]at hR
 have hnb:¬(!decide (w=w))=true:=by simp
 have hnb2:¬decide (w=w)=false:=by simp
 by_cases hxk:SpH x k
 case neg=>
  rw[if_pos hxk]at hR;rw[decide_eq_false hxk]at hsh;repeat'((conv=>whnf);first|((with_reducible refine Ax (by first|(with_reducible assumption)|(with_reducible exact Bool.of_not_eq_false (by assumption))|((with_reducible refine decide_eq_true ?_);omega)) (fun hb=>?_));(try rw[hb]);(try simp only[Aa]at hb))|((with_reducible refine Aw (by first|(with_reducible exact Bool.of_not_eq_true (by assumption))|(with_reducible rfl)) (fun hb=>?_));(try rw[hb]);(try simp only[Aa]at hb))|((with_reducible refine And.intro (fun hb=>?_) (fun hb=>?_))<;>first|(exact absurd hb (by decide))|((try rw[hb]);(try simp only[Aa]at hb)))|((with_reducible refine Exists.intro ?_ ?_);focus (and_intros<;>first|omega|(with_reducible rfl)|kernel_rfl|(intro _ hh;cases hh;done)|(simp;done)|decide))|(with_reducible intro hfact)|((with_reducible refine And.intro ?_ ?_);focus (first|(with_reducible rfl)|(exact rfl)))|((with_reducible refine CallWp.mk ?_);refine⟨_,hwho,?_⟩;rintro _ _ ⟨rfl,rfl⟩)|((with_reducible refine CallWp.mk ?_);refine⟨_,hsh,?_⟩;rintro _ _ ⟨rfl,rfl⟩)|((try dsimp only);rw[hw])|(((with_reducible apply A3));(focus rfl);(focus (simp only[D.at,D.put,D.kid,D.setKid,mkSt,Ap,D.toI,toIs,Ak,Af,Sto.toD,hlm,he]<;>exact rfl));(try(focus exact rfl))))
  all_goals(try(conv=>whnf))
  refine Round.by (j+1,out) ?_ ⟨by omega,ho,hR⟩ (by dsimp only;omega)
  try dsimp only
  show norm _ _=upd _ _
  kernel_rfl
 rw[if_neg (by simpa using hxk)]at hR
 rw[decide_eq_true hxk]at hsh;cases b with
 |false=>
  rw[if_pos rfl]at hR;repeat'((conv=>whnf);first|((with_reducible refine Ax (by first|(with_reducible assumption)|(with_reducible exact Bool.of_not_eq_false (by assumption))|((with_reducible refine decide_eq_true ?_);omega)) (fun hb=>?_));(try rw[hb]);(try simp only[Aa]at hb))|((with_reducible refine Aw (by first|(with_reducible exact Bool.of_not_eq_true (by assumption))|(with_reducible rfl)) (fun hb=>?_));(try rw[hb]);(try simp only[Aa]at hb))|((with_reducible refine And.intro (fun hb=>?_) (fun hb=>?_))<;>first|(exact absurd hb (by decide))|((try rw[hb]);(try simp only[Aa]at hb)))|((with_reducible refine Exists.intro ?_ ?_);focus (and_intros<;>first|omega|(with_reducible rfl)|kernel_rfl|(intro _ hh;cases hh;done)|(simp;done)|decide))|(with_reducible intro hfact)|((with_reducible refine And.intro ?_ ?_);focus (first|(with_reducible rfl)|(exact rfl)))|((with_reducible refine Drawn.mkV ?_ ?_ ?_ (fun hfact=>?_));(focus kernel_rfl);(focus kernel_rfl);(focus kernel_rfl);(try simp only[dRS]at hfact))|((with_reducible refine CallWp.mk ?_);refine⟨_,hwho,?_⟩;rintro _ _ ⟨rfl,rfl⟩)|((with_reducible refine CallWp.mk ?_);refine⟨_,hsh,?_⟩;rintro _ _ ⟨rfl,rfl⟩)|((with_reducible refine CallIs.mk ?_);refine⟨_,_,hver,?_⟩)|((try dsimp only);rw[hw])|((try dsimp only);rw[hDI])|(((with_reducible apply Ba));(focus (simp only[D.at,D.put,D.kid,D.setKid,mkSt,Ap,D.toI,toIs,Ak,Af,Sto.toD,hlm,he]<;>exact rfl)))|(((with_reducible apply A3));(focus rfl);(focus (simp only[D.at,D.put,D.kid,D.setKid,mkSt,Ap,D.toI,toIs,Ak,Af,Sto.toD,hlm,he]<;>exact rfl));(try(focus exact rfl))))
  all_goals(try(conv=>whnf))
  refine Round.by (j+1,out) ?_ ⟨by omega,ho,hR⟩ (by dsimp only;omega)
  try dsimp only
  show norm _ _=upd _ _
  kernel_rfl
 |true=>
  rw[if_neg (by simp)]at hR
  have hlo:((out.map Pr.toI).map D.it).length=out.length:=by simp
  by_cases hom:(out.length:Int)=most
  ·rw[if_pos hom]at hR;subst hR;have hom1:decide ((((out.map Pr.toI).map D.it).length:Int)=most)=true:=by rw[hlo];exact decide_eq_true hom
   repeat'((conv=>whnf);first|((with_reducible refine Ax (by first|(with_reducible assumption)|((with_reducible refine decide_eq_true ?_);omega)) (fun hb=>?_));(try rw[hb]);(try simp only[Aa]at hb);(try subst hb))|((with_reducible refine Aw (by first|(with_reducible assumption)|(with_reducible exact Bool.of_not_eq_true (by assumption))|(with_reducible rfl)) (fun hb=>?_));(try rw[hb]);(try simp only[Aa]at hb))|((with_reducible refine And.intro (fun hb=>?_) (fun hb=>?_))<;>first|(exact absurd hb (by decide))|((try rw[hb]);(try simp only[Aa]at hb)))|((with_reducible refine Exists.intro ?_ ?_);focus (and_intros<;>first|omega|(with_reducible rfl)|kernel_rfl|(intro _ hh;cases hh;done)|(simp;done)|decide))|(with_reducible intro hfact)|((with_reducible refine And.intro ?_ ?_);focus (first|(with_reducible rfl)|(exact rfl)))|((with_reducible refine Drawn.mkV ?_ ?_ ?_ (fun hfact=>?_));(focus kernel_rfl);(focus kernel_rfl);(focus kernel_rfl);(try simp only[dRS]at hfact))|((with_reducible refine CallWp.mk ?_);refine⟨_,hwho,?_⟩;rintro _ _ ⟨rfl,rfl⟩)|((with_reducible refine CallWp.mk ?_);refine⟨_,hsh,?_⟩;rintro _ _ ⟨rfl,rfl⟩)|((with_reducible refine CallIs.mk ?_);refine⟨_,_,hver,?_⟩)|((try dsimp only);rw[hDI])|((first|with_reducible apply A9|with_reducible apply Ba);(focus (simp only[D.at,D.put,D.kid,D.setKid,mkSt,Ap,D.toI,toIs,Ak,Af,Sto.toD,hlm,he]<;>exact rfl)))|(((with_reducible apply A3));(focus rfl);(focus (simp only[D.at,D.put,D.kid,D.setKid,mkSt,Ap,D.toI,toIs,Ak,Af,Sto.toD,hlm,he]<;>exact rfl));(try(focus exact rfl))))
   all_goals(try(conv=>whnf))
   (apply dKq<;>kernel_rfl)
  ·rw[if_neg hom]at hR;have hom1:decide ((((out.map Pr.toI).map D.it).length:Int)=most)=false:=by rw[hlo];exact decide_eq_false hom
   repeat'((conv=>whnf);first|((with_reducible refine Ax (by first|(with_reducible assumption)|(with_reducible exact Bool.of_not_eq_false (by assumption))|((with_reducible refine decide_eq_true ?_);omega)) (fun hb=>?_));(try rw[hb]);(try simp only[Aa]at hb))|((with_reducible refine Aw (by first|(with_reducible assumption)|(with_reducible exact Bool.of_not_eq_true (by assumption))|(with_reducible rfl)) (fun hb=>?_));(try rw[hb]);(try simp only[Aa]at hb))|((with_reducible refine And.intro (fun hb=>?_) (fun hb=>?_))<;>first|(exact absurd hb (by decide))|((try rw[hb]);(try simp only[Aa]at hb)))|((with_reducible refine Exists.intro ?_ ?_);focus (and_intros<;>first|omega|(with_reducible rfl)|kernel_rfl|(intro _ hh;cases hh;done)|exact Ah (by rfl)|exact Ag rfl|(simp only[Bu];omega)|(simp;done)|decide))|(with_reducible intro hfact)|((with_reducible refine And.intro ?_ ?_);focus (first|(with_reducible rfl)|(exact rfl)))|((with_reducible refine Drawn.mkV ?_ ?_ ?_ (fun hfact=>?_));(focus kernel_rfl);(focus kernel_rfl);(focus kernel_rfl);(try simp only[dRS]at hfact))|((with_reducible refine CallWp.mk ?_);refine⟨_,hwho,?_⟩;rintro _ _ ⟨rfl,rfl⟩)|((with_reducible refine CallWp.mk ?_);refine⟨_,hsh,?_⟩;rintro _ _ ⟨rfl,rfl⟩)|((with_reducible refine CallIs.mk ?_);refine⟨_,_,hver,?_⟩)|((try dsimp only);rw[hw])|((try dsimp only);rw[hDI])|(((with_reducible apply Ba));(focus (simp only[D.at,D.put,D.kid,D.setKid,mkSt,Ap,D.toI,toIs,Ak,Af,Sto.toD,hlm,he]<;>exact rfl)))|(((with_reducible apply A3));(focus rfl);(focus (simp only[D.at,D.put,D.kid,D.setKid,mkSt,Ap,D.toI,toIs,Ak,Af,Sto.toD,hlm,he]<;>exact rfl));(try(focus exact rfl))))
   all_goals(try(conv=>whnf))
   refine Round.by (j+1,out++[⟨k,v.val,v.made,v.rev⟩]) ?_ ⟨by omega,by simp;omega,hR⟩ (by dsimp only;omega)
   try dsimp only
   simp only[List.map_append,List.map_cons,List.map_nil];show norm _ _=upd _ _
   kernel_rfl
end Go.Ab
