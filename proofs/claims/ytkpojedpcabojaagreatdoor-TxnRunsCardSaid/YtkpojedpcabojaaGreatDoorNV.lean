/- Lemmas -/
import Derived.Test.YtkpojedpcabojaaGreatDoorA1
import Derived.Shelf.Unicode.DecodeAny
set_option linter.unusedVariables false
set_option linter.unusedSimpArgs false
set_option maxRecDepth 100000
set_option maxHeartbeats 4000000
namespace Go.Ab
open Go.Proofs
def E8(s:Az):Bool:=match s with
 | []=>false
 | [c]=>decide (32≤(c.toNat:Int))&&decide ((c.toNat:Int)≤126)&& !decide ((c.toNat:Int)=92)
 | [c,d]=>if(c.toNat:Int)=194 then decide (161≤(d.toNat:Int))else true
 |_=>true
theorem Bcx(s:Az):Fn Tryz.prog A02 [.v (.str s)] (Is (.v (.bool (E8 s))) [.no]):=by
 refine A0y ?_ (by simp)
 rcases s with _|⟨c,_|⟨d,_|⟨e,r⟩⟩⟩
 ·repeat'((conv=>whnf);first|(refine A5 (fun hb=>?_) (fun hb=>?_)<;>first|exact absurd hb (by decide)|(try rw[hb]);try simp only[Aa]at hb)|refine Ac ?_ ?_;focus (and_intros<;>exact rfl)|intro Cq)
  all_goals(try(conv=>whnf))
  exact Am1.mk ⟨rfl,by kernel_rfl⟩ (by kernel_rfl)
 ·have h1:¬decide ((([c]:Az).length:Int)=1)=false:=by simp
  repeat'((conv=>whnf);first|(refine A5 (fun hb=>?_) (fun hb=>?_)<;>first|exact absurd hb (by first|assumption|decide)|(try rw[hb]);try simp only[Aa]at hb)|refine Ac ?_ ?_;focus (and_intros<;>first|omega|exact rfl)|intro Cq)
  all_goals(try(conv=>whnf))
  all_goals(refine Am1.mk ⟨SV.Aju ?_,by kernel_rfl⟩ (by kernel_rfl))
  all_goals(simp[E8]at*;grind)
 ·have h1:¬decide ((([c,d]:Az).length:Int)=1)=true:=by simp
  have h2:¬decide ((([c,d]:Az).length:Int)=2)=false:=by simp
  have h3:¬decide (1<(([c,d]:Az).length:Int))=false:=by simp
  repeat'((conv=>whnf);first|(refine A5 (fun hb=>?_) (fun hb=>?_)<;>first|exact absurd hb (by assumption)|(try rw[hb]);try simp only[Aa]at hb)|refine Ac ?_ ?_;focus (and_intros<;>first|omega|exact rfl)|intro Cq)
  all_goals(try(conv=>whnf))
  all_goals(refine Am1.mk ⟨SV.Aju ?_,by kernel_rfl⟩ (by kernel_rfl))
  all_goals(simp[E8]at*;grind)
 ·have h1:¬decide (((c::d::e::r:Az).length:Int)=1)=true:=by simp;omega
  have h2:¬decide (((c::d::e::r:Az).length:Int)=2)=true:=by simp;omega
  repeat'((conv=>whnf);first|(refine A5 (fun hb=>?_) (fun hb=>?_)<;>first|exact absurd hb (by assumption)|(try rw[hb]);try simp only[Aa]at hb)|refine Ac ?_ ?_;focus (and_intros<;>exact rfl)|intro Cq)
  all_goals(try(conv=>whnf))
  all_goals(refine Am1.mk ⟨SV.Aju ?_,by kernel_rfl⟩ (by kernel_rfl))
  all_goals(simp[E8]at*;try grind)

open Go.Proofs
theorem A71{s:Az}{k:Nat}{lo hi:Int}(h:A8 s k lo hi=true):k<s.length:=by
 unfold A8 at h;split at h
 ·rename_i c hc;have:=(A7.1 hc).1;simpa using this
 ·cases h
theorem A6o{s:Az}{k n:Nat}(h:Fv s k n=true)(hn:0<n):k+n≤s.length:=by
 simp only[Fv,Aia,Agu]at h;have:=A71 (h (n - 1) (by omega))
 omega
theorem Bjf(s:Az):0≤G9 s∧G9 s≤s.length:=by
 unfold G9;split
 ·rename_i h;have:=A71 (k:=0) h;omega
 split
 ·rename_i h;simp only[Ap]at h;have:=A6o h.2 (by omega);omega
 split
 ·rename_i h;simp only[Ap]at h;have:=A6o h.1 (by omega);omega
 split
 ·rename_i h;simp only[Ap]at h;have:=A6o h.1 (by omega);omega
 omega
def A0f(k:Nat)(c:Int)(at':Nat)(piece:Az):Bool:=
 (decide (k=1)&& !((decide (97≤c)&&decide (c≤122))||(decide (48≤c)&&decide (c≤57))||decide (c=95)||(decide (c=45)&&decide (0<at'))))
 ||(decide (1<k)&& !E8 piece)
def Ey:Nat→Az→Nat→Nat→Bool
 |0,_,_,_=>false
 |f+1,s,at',n=>match s[at']? with
  |none=>decide (0<n)
  |some c=>
   let k:=(G9 (s.drop at')).toNat
   if k=0 then false
   else if A0f k c.toNat at' ((s.drop at').take k)=true then false
   else if 24<n+1 then false
   else Ey f s (at'+k) (n+1)
def D9(s:Az):Bool:=Ey (s.length+1) s 0 0
theorem Bhj(s:Az):Fn Tryz.prog A1o [.v (.str s)] (Is (.v (.bool (D9 s))) [.no]):=by
 refine A06 ?_ (by simp)
 (skip)
 all_goals(try(conv=>whnf))
 refine Afm.by (X:=Nat × Nat × Nat) (fun x=>[(3,.v (.int .i64 x.2.2)),(4,.v (.int .i64 x.2.1))]) (fun x=>Ey x.1 s x.2.1 x.2.2=D9 s∧s.length<x.1+x.2.1∧x.2.1≤s.length∧x.2.2≤24) (fun x=>s.length - x.2.1)
  (s.length+1,0,0) (by kernel_rfl) ⟨rfl,by dsimp only;omega,Cr _,Cr _⟩ ?_
 rintro⟨f,p,n⟩ ⟨h1,h2,h3,h4⟩;dsimp only at h1 h2 h3 h4 ⊢;obtain⟨f,rfl⟩:∃g,f=g+1:=⟨f - 1,by omega⟩
 by_cases hp:p<s.length
 case neg=>
  have Ze:¬decide ((p:Int)<(s.length:Int))=true:=by simp;omega
  repeat'((conv=>whnf);first|(refine A5 (fun hb=>?_) (fun hb=>?_)<;>first|exact absurd hb (by assumption)|(try rw[hb]);try simp only[Aa]at hb)|refine Ac ?_ ?_;focus (and_intros<;>exact rfl)|intro Cq)
  all_goals(try(conv=>whnf))
  refine Am1.mk ⟨SV.Aju ?_,by kernel_rfl⟩ (by kernel_rfl)
  rw[←h1,Ey,Aic (by omega)]
  simp
 obtain⟨c,hc⟩:∃c,s[p]?=some c:=⟨_,Ae hp⟩;have hg:s[Int.toNat (p:Int)]?=some c:=hc;have Ze:¬decide ((p:Int)<(s.length:Int))=false:=by simp[hp]
 have Hr:=Bjf (s.drop p);have hs:=Bhk (s.drop p);rw[Ey,hc]at h1;dsimp only at h1;obtain⟨k,hk⟩:∃k:Nat,G9 (s.drop p)=k:=⟨(G9 (s.drop p)).toNat,by omega⟩
 rw[hk]at hs h1 Hr;have hs':Fn Tryz.prog Axa [.v (.str ((s.take s.length).drop p))] (Is (.v (.int .i64 k)) [.no]):=by rw[List.take_length];exact hs
 rw[Ei]at Hr;simp only[Anj]at h1;have hw:s.length≤maxLen→IntKind.i64.wrap ((p:Int)+(k:Int))=((p+k:Nat):Int):=fun hm=>by
  rw[show(p:Int)+(k:Int)=((p+k:Nat):Int)by omega];exact Bf (by simp only[maxLen]at hm;omega)
 have hwn:IntKind.i64.wrap ((n:Int)+1)=((n+1:Nat):Int):=Dk (n:=25) (by omega) (by simp only[maxLen];omega)
 have hpc:((s.drop p).take k)=(s.take (p+k)).drop p:=by rw[List.drop_take];congr 1;omega
 have hit:=Bcx ((s.take (p+k)).drop p);have hpk:((p+k:Nat):Int)≤(s.length:Int):=by omega
 have hpp:(p:Int)≤((p+k:Nat):Int):=by omega
 rw[hpc]at h1;obtain⟨b,hb0⟩:∃b,E8 ((s.take (p+k)).drop p)=b:=⟨_,rfl⟩;rw[hb0]at hit;unfold A0f at h1;rw[hb0]at h1;rcases Nat.lt_or_ge k 1 with hk0|hk0
 ·have n1:¬decide ((k:Int)=0)=false:=by simp;omega
  rw[if_pos (by omega)]at h1
  repeat'((conv=>whnf);first|(refine A5 (fun hb=>?_) (fun hb=>?_)<;>first|exact absurd hb (by assumption)|(try rw[hb]);try simp only[Aa]at hb)|refine Ac ?_ ?_;focus (and_intros<;>first|omega|exact rfl|intro _ hh;cases hh;done|simp;done|decide)|intro Cq|refine Ct.mk ⟨_,hs',?_⟩;rintro _ _ ⟨rfl,rfl⟩)
  all_goals(try(conv=>whnf))
  exact Am1.mk ⟨SV.Aju h1,by kernel_rfl⟩ (by kernel_rfl)
 rw[if_neg (by omega)]at h1
 have n1:¬decide ((k:Int)=0)=true:=by simp;omega
 rcases Nat.lt_or_ge 1 k with hk1|hk1
 ·have n2:¬decide ((k:Int)=1)=true:=by simp;omega
  have n3:¬decide (1<(k:Int))=false:=by simp;omega
  repeat'((conv=>whnf);first|(refine A5 (fun hb=>?_) (fun hb=>?_)<;>first|exact absurd hb (by first|assumption|decide)|(try rw[hb]);(try simp only[Aa]at hb);try subst hb)|refine Ac ?_ ?_;focus (and_intros<;>first|omega|exact rfl|intro _ hh;cases hh;done|simp;done|decide)|intro Cq|(try dsimp only);rw[hg]|refine Ct.mk ⟨_,hs',?_⟩;rintro _ _ ⟨rfl,rfl⟩|refine Ct.mk ⟨_,hit,?_⟩;rintro _ _ ⟨rfl,rfl⟩|(try dsimp only);rw[hw (by assumption)]|skip;rw[hwn])
  all_goals(try(conv=>whnf))
  all_goals first
   |(refine Am1.mk ⟨SV.Aju ?_,by kernel_rfl⟩ (by kernel_rfl);rw[←h1];simp at*;grind)
   |(refine Round.by (f,p+k,n+1) ?_ ⟨?_,by dsimp only;omega,by dsimp only;omega,?_⟩ (by dsimp only;omega)
     ·dsimp only;show norm _ _=Cx _ _
      kernel_rfl
     ·dsimp only;rw[←h1];simp at*;grind
     ·dsimp only;simp at*;omega)
 ·have n2:¬decide ((k:Int)=1)=false:=by simp;omega
  have n3:¬decide (1<(k:Int))=true:=by simp;omega
  repeat'((conv=>whnf);first|(refine A5 (fun hb=>?_) (fun hb=>?_)<;>first|exact absurd hb (by first|assumption|decide)|exfalso;((simp only[An]at hb<;>omega))|(try rw[hb]);try simp only[Aa]at hb)|refine Ac ?_ ?_;focus (and_intros<;>first|omega|exact rfl|intro _ hh;cases hh;done|simp;done|decide)|intro Cq|(try dsimp only);rw[hg]|refine Ct.mk ⟨_,hs',?_⟩;rintro _ _ ⟨rfl,rfl⟩|skip;rw[hw (by assumption)]|skip;rw[hwn])
  all_goals(try(conv=>whnf))
  all_goals first
   |(refine Am1.mk ⟨SV.Aju ?_,by kernel_rfl⟩ (by kernel_rfl);rw[←h1];simp at*;grind)
   |(refine Round.by (f,p+k,n+1) ?_ ⟨?_,by dsimp only;omega,by dsimp only;omega,?_⟩ (by dsimp only;omega)
     ·dsimp only;show norm _ _=Cx _ _
      kernel_rfl
     ·dsimp only;rw[←h1];simp at*;grind
     ·dsimp only;simp at*;omega)

theorem Ajc(s:Az):(G9 s).toNat≤4:=by
 unfold G9;repeat' split
 all_goals decide
theorem Ahv:∀{f:Nat} {s:Az} {a n:Nat},Ey f s a n=true→s.length≤a+4*(24 - n)
 |0,s,a,n,h=>by simp[Ey]at h
 |f+1,s,a,n,h=>by
  unfold Ey at h;split at h
  ·rename_i hs;have:=List.getElem?_eq_none_iff.1 hs;omega
  ·dsimp only at h;have hk:=Ajc (s.drop a);generalize (G9 (s.drop a)).toNat=k at h hk;split at h
   ·cases h
   ·split at h
    ·cases h
    ·split at h
     ·cases h
     ·have:=Ahv h;omega
theorem Aha{s:Az}(h:D9 s=true):s.length<256:=by
 have:=Ahv h;omega
structure Opn where
 k:Int
 n:Az
 l:List Ef
 x:Sp
 rev:Int
 most:Int
def Opn.Bx(o:Opn):I:=.agg [ti o.k,.str o.n,.list (o.l.map Ef.Bx),o.x.Bx,ti o.rev,ti o.most]
def Cn.Ay2(s:Cn)(o:Opn):Cn:=if o.k=0 then(s.Acg o.n o.l).1 else if o.k=2 then(s.Anu o.n o.rev).1 else if o.k=3 then(s.Aqk (D9 o.n) o.n).1 else s
theorem Akb.step{m:Nat}{s:Cn}(h:Akb m s)(o:Opn)(hm:m≤80000):Akb (m+o.l.length+1) (s.Ay2 o):=by
 unfold Cn.Ay2;split
 ·exact h.write _ _
 ·split
  ·exact(h.comp hm _ _).mono (by omega)
  ·split
   ·exact(h.open _ Aha).mono (by omega)
   ·exact h.mono (by omega)
theorem Aiv{s:Cn}{n:Az}:(s.fi n).isSome=true↔n∈s.sp.map (·.1):=by
 unfold Cn.fi;rw[List.findIdx?_isSome,List.any_eq_true];constructor
 ·rintro⟨x,hx,e⟩;exact X4.2 ⟨x,hx,by simpa using e⟩
 ·intro h;obtain⟨x,hx,e⟩:=X4.1 h;exact⟨x,hx,by simpa using e⟩
theorem Ah4{s:Cn}{nm:Bool}{n n':Az}:(s.Aqk nm n).1.Zp n'=s.Zp n'∧(s.Aqk nm n).1.l=s.l:=by
 unfold Cn.Aqk;split
 ·exact⟨rfl,rfl⟩
 ·split
  ·exact⟨rfl,rfl⟩
  ·rename_i hf;split
   ·exact⟨rfl,rfl⟩
   ·exact⟨Aij (by simpa using hf) n',rfl⟩
theorem A4a{β:Type}{g:Zk→Option β}{n:Az}{F:List Ef}{R:Az→Int}{r:Int}(hn:n.length<256)(hr:0≤r)
 (h0:∀k v,r<v.rev→g ⟨B7 n k,[v]⟩=none) (h1:∀(h:Zk) k v,h.at_=B7 n k→VSo (h.vs++[v])→r<v.rev→g ⟨h.at_,h.vs++[v]⟩=g h):
 ∀{KK:List Az} {x:WSt},KK.Nodup→x.t.rev=r→Ayn (Avw n r R KK) x.l→(Ge n F KK x).l.filterMap g=x.l.filterMap g
 | [],x,_,_,_=>rfl
 |k::KK,x,hd,hx,h=>by
  obtain⟨d1,d2⟩:=Hw.1 hd;have h3:=Ag6 (x:=x) (R:=R) (c:=Anv F k) hn d1 (by omega) (by rw[hx];exact h)
  rw[hx]at h3;have ih:=A4a (F:=F) (g:=g) hn hr h0 h1 (KK:=KK) (x:=Dw n k (Anv F k) x) d2 ((Agt _ _ _ _).1.trans hx) h3;change (Ge n F KK (Dw n k (Anv F k) x)).l.filterMap g=_;rw[ih];rcases Q7 n k (Anv F k) x with e|⟨v,e1,e2,_⟩
  ·rw[e]
  ·rw[e2];refine A9o (h0 k v (by omega)) fun y hy e=>?_
   refine h1 y k v e ?_ (by omega)
   obtain⟨_,b2,b3⟩:=h.2 y hy;refine b2.snoc (u:=r) (fun w hw=>?_) (by omega)
   have h4:=(b3 w hw).2;rw[e]at h4;unfold Avw at h4;rw[Mt hn,if_pos rfl,if_pos (B2 ..)]at h4;exact h4
theorem A12{β:Type}{g:Zk→Option β}{m:Nat}{s:Cn}(h:Akb m s)(n:Az)(cs:List Ef) 
 (h0:∀k v,n.length<256→(s.Zp n).rev<v.rev→g ⟨B7 n k,[v]⟩=none) (h1:∀(h:Zk) k v,n.length<256→h.at_=B7 n k→VSo (h.vs++[v])→(s.Zp n).rev<v.rev→g ⟨h.at_,h.vs++[v]⟩=g h):
 (s.Acg n cs).1.l.filterMap g=s.l.filterMap g:=by
 unfold Cn.Acg;split
 ·rfl
 ·rename_i i hi;split
  ·rfl
  ·rename_i F hF;obtain⟨f1,_,_⟩:=Agz hF (by simp) (by simp)
   have hn:=h.name hi;exact A4a (x:=⟨s.Zp n,s.l,false⟩) hn (by have:=h.rv n;omega) (fun k v hv=>h0 k v hn hv) (fun y k v a b c=>h1 y k v hn a b c) (Ahj f1) rfl (h.start n _)
theorem A18{α β:Type}{f g:α→Option β}:∀{l:List α},(∀x∈l,f x=g x)→l.filterMap f=l.filterMap g
 | [],_=>rfl
 |x::r,h=>by
  rw[Fp,Fp,h x (B2 ..),A18 fun y hy=>h y (B4 _ hy)]
theorem A6u{β:Type}{g:Zk→Option β}{s:Cn}(n:Az)(rev:Int)(hg:s.Aw1 n rev=0→(s.fi n).isSome=true→∀h∈s.l,(Pf n rev h).bind g=g h):
 (s.Anu n rev).1.l.filterMap g=s.l.filterMap g:=by
 unfold Cn.Anu;split
 ·rfl
 ·rename_i i hi;split
  ·rename_i he;have hg:=hg he (by rw[hi];rfl)
   obtain⟨c1,_⟩:=Ahp (n:=n) (rev:=rev) (l:=s.l) (x:=⟨[],0⟩);dsimp only;rw[c1,H4,List.filterMap_filterMap];exact A18 hg
  ·rfl
theorem Ar0{n:Az}{rev:Int}{h:Zk}(e:(C1 h.at_).1≠n):gV n rev h=none:=by unfold gV;rw[if_neg (fun c=>e c.1)]
theorem Akb.bd{m:Nat}{s:Cn}(h:Akb m s)(hm:m≤80000):s.Bd:=⟨by have:=h.lb.len;omega,fun x hx=>by obtain⟨a,b,c,_⟩:=h.lb.held x hx;exact⟨a,b,by omega⟩⟩
theorem Aqt{m:Nat}{s:Cn}(h:Akb m s){n:Az}(hf:(s.fi n).isSome=true){x:Sp}(hx:SpR x){rev most:Int}(hr:0≤rev∧rev≤(s.Zp n).rev∧(rev=0∨(s.Zp n).floor≤rev))(hm:1≤most∧most≤16):
 s.An4 n x rev most=((Ee x most (Lh n (if rev=0 then(s.Zp n).rev else rev) s.l) []).1,(Ee x most (Lh n (if rev=0 then(s.Zp n).rev else rev) s.l) []).2,0):=by
 obtain⟨i,hi⟩:=Asz.1 hf;unfold Cn.An4;rw[if_neg (by rw[hi];simp),if_neg (fun c=>c ⟨hx,by omega,by omega,by omega⟩),if_neg (by omega),if_neg (by omega)]
 rw[Am9 (h.name hi) h.wi.1 fun y hy=>(h.wi.2 y hy).1]
set_option maxHeartbeats 40000000

theorem Aik:∀{p k:Az},(p≤k∧k<p++[0])↔k=p
 | [],[]=>by simp
 | [],x::k=>by
   simp only[H4];rw[List.cons_lt_cons_iff];have h1:¬x<0:=by
    intro h;have:=UInt8.lt_iff_toNat_lt.1 h;simp at this
   have h2:¬k<[]:=List.not_lt_nil k;simp[h1,h2]
 |a::p,[]=>by simp
 |a::p,x::k=>by
  have ih:=Aik (p:=p) (k:=k);simp only[H3];rw[List.cons_le_cons_iff,List.cons_lt_cons_iff,Ajg, ←ih];constructor
  ·rintro⟨h3,h4⟩;rcases h3 with h3|⟨rfl,h3⟩
   ·rcases h4 with h4|⟨rfl,_⟩
    ·exact absurd (UInt8.lt_trans h3 h4) (Asw _)
    ·exact absurd h3 (Asw _)
   ·rcases h4 with h4|⟨_,h4⟩
    ·exact absurd h4 (Asw _)
    ·exact⟨rfl,h3,h4⟩
  ·rintro⟨rfl,h3,h4⟩;exact⟨.inr ⟨rfl,h3⟩,.inr ⟨rfl,h4⟩⟩

def A1(vs:List Fk):Fk:=vs.getLast?.getD Akw
def fK(n a:Az)(v:Fk):Int:=if(C1 a).1=n∧v.gone=false then 1 else 0
def fB(n a:Az)(v:Fk):Int:=if(C1 a).1=n∧v.gone=false then((C1 a).2.1.length:Int)+(v.val.length:Int)else 0
def Ao7(f:Az→Fk→Int):List Zk→Int
 | []=>0
 |h::r=>f h.at_ (A1 h.vs)+Ao7 f r
theorem Aim(f:Az→Fk→Int):∀a b:List Zk,Ao7 f (a++b)=Ao7 f a+Ao7 f b
 | [],b=>by simp[Ao7]
 |h::r,b=>by simp only[H3,Ao7,Aim f r b];omega
theorem Aj0{f:Az→Fk→Int}{h:Zk}:∀{l:List Zk} {p:Nat} {e:Zk},l[p]?=some e→Ao7 f (l.set p h)=Ao7 f l - f e.at_ (A1 e.vs)+f h.at_ (A1 h.vs)
 | [],p,e,he=>by simp at he
 |x::r,0,e,he=>by
  simp only[Fa,A0]at he;subst he;simp only[Akm,Ao7];omega
 |x::r,p+1,e,he=>by
  simp only[Du]at he;simp only[Ais,Ao7,Aj0 he];omega
theorem Aj4(vs:List Fk)(v:Fk):A1 (vs++[v])=v:=by simp[A1]
theorem Ai4{l:List Zk}{a:Az}{e:Zk}(hf:bsF (Kh a) (eqH a) l=true)(he:l[Km (Kh a) l]?=some e):Q1 l a=A1 e.vs:=by
 unfold Q1 Cn.A29 Cn.pi Cn.pf;dsimp only;rw[he];dsimp only;rw[if_pos hf];rfl
theorem Gs{f:Az→Fk→Int}{l:List Zk}{a:Az}{v:Fk}(h0:f a Akw=0):Ao7 f (Ath l a v)=Ao7 f l - f a (Q1 l a)+f a v:=by
 unfold Ath A1y;split
 ·rename_i hf;obtain⟨e,h2,h3⟩:=Afp hf;have h4:e.at_=a:=by simpa[eqH]using h3
  rw[Zv h2,Aj0 h2,Ai4 hf h2];dsimp only;rw[Aj4,h4]
 ·rename_i hf;rw[show Q1 l a=Akw from Cn.A3a (s:=⟨[],l⟩) (show bsF (Kh a) (eqH a) l=false by simpa using hf),h0]
  rw[Aim]
  conv=>rhs;rw[←Fj (Km (Kh a) l) l,Aim]
  simp only[Ao7,A1,List.getLast?_singleton,Option.getD_some];omega
theorem Ah8{n k:Az}{v:Fk}(hn:n.length<256):fK n (B7 n k) v=if v.gone=false then 1 else 0:=by
 unfold fK;rw[Mt hn];simp
theorem Ah7{n k:Az}{v:Fk}(hn:n.length<256):fB n (B7 n k) v=if v.gone=false then(k.length:Int)+(v.val.length:Int)else 0:=by
 unfold fB;rw[Mt hn];simp
theorem Akf{n n' k:Az}{v:Fk}(hn:n.length<256)(h:n'≠n):fK n' (B7 n k) v=0:=by
 unfold fK;rw[Mt hn,if_neg (fun c=>h c.1.symm)]
theorem Ake{n n' k:Az}{v:Fk}(hn:n.length<256)(h:n'≠n):fB n' (B7 n k) v=0:=by
 unfold fB;rw[Mt hn,if_neg (fun c=>h c.1.symm)]
theorem Af5{n a:Az}{v:Fk}(h:v.gone=true):fK n a v=0:=by unfold fK;rw[if_neg (fun c=>by rw[h]at c;cases c.2)]
theorem Lq{n a:Az}{v:Fk}(h:v.gone=true):fB n a v=0:=by unfold fB;rw[if_neg (fun c=>by rw[h]at c;cases c.2)]
theorem Ajs{n k:Az}{c:Ef}{x:WSt}(hn:n.length<256)(h1:x.t.keys=Ao7 (fK n) x.l)(h2:x.t.bytes=Ao7 (fB n) x.l):
 (Dw n k c x).t.keys=Ao7 (fK n) (Dw n k c x).l∧(Dw n k c x).t.bytes=Ao7 (fB n) (Dw n k c x).l:=by
 have g0:Akw.gone=true:=rfl;unfold Dw;dsimp only;split
 ·exact⟨h1,h2⟩
 ·rename_i hcw;split
  ·rename_i hc;have hw:(Q1 x.l (B7 n k)).gone=false:=by
    cases h:(Q1 x.l (B7 n k)).gone with
    |false=>rfl
    |true=>exact absurd ⟨hc,h⟩ hcw
   dsimp only;rw[Gs (Af5 g0),Gs (Lq g0),Ah8 hn,Ah8 hn,Ah7 hn,Ah7 hn,hw];simp only[if_true,Bool.true_eq_false,if_false];omega
  ·split
   ·rename_i hw;dsimp only;rw[Gs (Af5 g0),Gs (Lq g0),Ah8 hn,Ah8 hn,Ah7 hn,Ah7 hn,hw];simp only[if_true,Bool.true_eq_false,if_false];omega
   ·rename_i hw;have hw:(Q1 x.l (B7 n k)).gone=false:=by simpa using hw
    dsimp only;rw[Gs (Af5 g0),Gs (Lq g0),Ah8 hn,Ah8 hn,Ah7 hn,Ah7 hn,hw];simp only[if_true,Bool.true_eq_false,if_false];omega
theorem Ajy{n k n':Az}{c:Ef}{x:WSt}(hn:n.length<256)(h:n'≠n):
 Ao7 (fK n') (Dw n k c x).l=Ao7 (fK n') x.l∧Ao7 (fB n') (Dw n k c x).l=Ao7 (fB n') x.l:=by
 have g0:Akw.gone=true:=rfl;rcases Q7 n k c x with e|⟨v,_,e,_⟩
 ·rw[e];exact⟨rfl,rfl⟩
 ·rw[e,Gs (Af5 g0),Gs (Lq g0),Akf hn h,Akf hn h,Ake hn h,Ake hn h];omega
def VK(l:List Zk):Prop:=∀h∈l,(C1 h.at_).2.1.length≤64∧∀v∈h.vs,v.gone=false→1≤v.made∧v.made≤v.rev
theorem VK.put{l:List Zk}{n k:Az}{v:Fk}(h:VK l)(hn:n.length<256)(hk:k.length≤64)(hv:v.gone=false→1≤v.made∧v.made≤v.rev):VK (Ath l (B7 n k) v):=by
 intro x hx;rcases Ajm hx with hx|rfl|⟨e,he,_,rfl⟩
 ·exact h x hx
 ·dsimp only;rw[Mt hn];exact⟨hk,fun w hw=>by simp only[Jd]at hw;subst hw;exact hv⟩
 ·dsimp only;rw[Mt hn];refine⟨hk,fun w hw=>?_⟩
  rcases Bv.1 hw with hw|hw
  ·exact(h e he).2 w hw
  ·simp only[Jd]at hw;subst hw;exact hv
theorem Aj9(l:List Zk)(a:Az):Q1 l a=Akw∨∃e∈l,e.at_=a∧Q1 l a∈e.vs:=by
 cases hf:bsF (Kh a) (eqH a) l with
 |false=>exact .inl (Cn.A3a (s:=⟨[],l⟩) hf)
 |true=>
  obtain⟨e,h2,h3⟩:=Afp hf;rw[Ai4 hf h2];unfold A1;cases hl:e.vs.getLast? with
  |none=>exact .inl rfl
  |some v=>exact .inr ⟨e,Cb h2,by simpa[eqH]using h3,List.mem_of_getLast? hl⟩
theorem Aj1{n k:Az}{c:Ef}{x:WSt}{U:Az→Int}(hn:n.length<256)(hk:k.length≤64)(hr:0≤x.t.rev)(h:VK x.l)(hw:Ayn U x.l)(hU:U (B7 n k)≤x.t.rev):VK (Dw n k c x).l:=by
 unfold Dw;dsimp only;split
 ·exact h
 ·split
  ·exact h.put hn hk (fun c=>by cases c)
  ·split
   ·exact h.put hn hk (fun _=>by dsimp only;omega)
   ·rename_i hg;refine h.put hn hk (fun _=>?_)
    dsimp only;rcases Aj9 x.l (B7 n k)with e|⟨e,he,hea,hm⟩
    ·rw[e]at hg;exact absurd rfl hg
    ·have h3:=(h e he).2 _ hm (by simpa using hg)
     have h4:=((hw.2 e he).2.2 _ hm).2;rw[hea]at h4;omega
theorem Aif{n:Az}{F:List Ef}{R:Az→Int}{r:Int}(hn:n.length<256)(hr:0≤r):∀{KK:List Az} {x:WSt},KK.Nodup→(∀k∈KK,k.length≤64)→x.t.rev=r→Ayn (Avw n r R KK) x.l→VK x.l→x.t.keys=Ao7 (fK n) x.l→x.t.bytes=Ao7 (fB n) x.l→
 VK (Ge n F KK x).l∧(Ge n F KK x).t.keys=Ao7 (fK n) (Ge n F KK x).l∧(Ge n F KK x).t.bytes=Ao7 (fB n) (Ge n F KK x).l∧∀n',n'≠n→Ao7 (fK n') (Ge n F KK x).l=Ao7 (fK n') x.l∧Ao7 (fB n') (Ge n F KK x).l=Ao7 (fB n') x.l
 | [],x,_,_,_,_,h1,h2,h3=>⟨h1,h2,h3,fun _ _=>⟨rfl,rfl⟩⟩
 |k::KK,x,hd,hk,hx,hw,h1,h2,h3=>by
  obtain⟨d1,d2⟩:=Hw.1 hd;have g1:=Ag6 (x:=x) (R:=R) (c:=Anv F k) hn d1 (by omega) (by rw[hx];exact hw)
  rw[hx]at g1;have g2:=Aj1 (c:=Anv F k) hn (hk k (B2 ..)) (by omega) h1 hw (by unfold Avw;rw[Mt hn,if_pos rfl,if_pos (B2 ..)];omega)
  obtain⟨g3,g4⟩:=Ajs (k:=k) (c:=Anv F k) hn h2 h3;obtain⟨i1,i2,i3,i4⟩:=Aif (F:=F) (R:=R) hn hr (KK:=KK) (x:=Dw n k (Anv F k) x) d2 (fun y hy=>hk y (B4 _ hy)) ((Agt _ _ _ _).1.trans hx) g1 g2 g3 g4
  refine⟨i1,i2,i3,fun n' hn'=>?_⟩
  obtain⟨j1,j2⟩:=i4 n' hn';obtain⟨o1,o2⟩:=Ajy (k:=k) (c:=Anv F k) (x:=x) hn hn';exact⟨j1.trans o1,j2.trans o2⟩
structure Atm(s:Cn):Prop where
 cnt:∀n,(s.Zp n).keys=Ao7 (fK n) s.l∧(s.Zp n).bytes=Ao7 (fB n) s.l
 vk:VK s.l
theorem Atm.write{m:Nat}{s:Cn}(h:Akb m s)(hc:Atm s)(n:Az)(cs:List Ef):Atm (s.Acg n cs).1:=by
 unfold Cn.Acg;split
 ·exact hc
 ·rename_i i hi;split
  ·exact hc
  ·rename_i F hF;obtain⟨f1,f2,_⟩:=Agz hF (by simp) (by simp)
   have hn:=h.name hi;obtain⟨g1,g2,g3,g4⟩:=Aif (F:=F) (R:=fun n=>(s.Zp n).rev) (r:=(s.Zp n).rev) hn (by have:=h.rv n;omega) (KK:=Dc (F.map Ef.key)) (x:=⟨s.Zp n,s.l,false⟩) (Ahj f1) (fun k hk=>(Ajq f2 hk).1) rfl (h.start n _) hc.vk (hc.cnt n).1 (hc.cnt n).2
   generalize Ge n F (Dc (F.map Ef.key)) ⟨s.Zp n,s.l,false⟩=Z at*;dsimp only at g1 g2 g3 g4;refine⟨fun n'=>?_,g1⟩
   rw[Mi hi];dsimp only;split
   ·rename_i e;subst e;unfold WSt.fin;split
    ·exact⟨g2,g3⟩
    ·exact⟨g2,g3⟩
   ·rename_i e;obtain⟨o1,o2⟩:=g4 n' e;rw[o1,o2];exact hc.cnt n'
theorem Aj2{r:Int}{vs:List Fk}(h0:vs≠[])(h:vs.length≤Lm r vs):(A1 vs).gone=true:=by
 have h1:=Ve r vs h0;unfold Lm at h;rw[Ae h1]at h;dsimp only at h;split at h
 ·rename_i hg;unfold A1;rw[List.getLast?_eq_getElem?,show vs.length - 1=Eo r vs by omega,Ae h1]
  exact hg.1
 ·omega
theorem Aj3{vs:List Fk}{k:Nat}(h:vs.drop k≠[]):A1 (vs.drop k)=A1 vs:=by
 unfold A1;rw[List.getLast?_drop,if_neg];intro c;exact h (Db c)
theorem Ahm{f:Az→Fk→Int}{n:Az}{r:Int}(hg:∀a v,v.gone=true→f a v=0):∀{l:List Zk},(∀h∈l,h.vs≠[])→Ao7 f (l.filterMap (Pf n r))=Ao7 f l
 | [],_=>rfl
 |h::t,h0=>by
  have ih:=Ahm (n:=n) (r:=r) hg (l:=t) fun x hx=>h0 x (B4 _ hx)
  have hv:=h0 h (B2 ..);rw[Fp];cases e:Pf n r h with
  |none=>
   dsimp only;rw[ih,Ao7];unfold Pf at e;split at e
   ·split at e
    ·rename_i hk;rw[hg _ _ (Aj2 hv hk)];omega
    ·cases e
   ·cases e
  |some h'=>
   obtain⟨a1,k,a2,a3⟩:=Agy e;dsimp only;have h4:=a3 hv;rw[Ao7,Ao7,ih,a1,a2,Aj3 (by rw[←a2];exact h4)]
theorem Atm.comp{m:Nat}{s:Cn}(h:Akb m s)(hc:Atm s)(n:Az)(rev:Int):Atm (s.Anu n rev).1:=by
 unfold Cn.Anu;split
 ·exact hc
 ·rename_i i hi;split
  ·obtain⟨c1,_⟩:=Ahp (n:=n) (rev:=rev) (l:=s.l) (x:=⟨[],0⟩);rw[H4]at c1;generalize Mz n rev s.l ⟨[],0⟩=Z at*;have h0:∀x∈s.l,x.vs≠[]:=fun x hx=>(h.lb.held x hx).2.1
   refine⟨fun n'=>?_,fun x hx=>?_⟩
   ·rw[Mi hi];dsimp only;rw[c1,Ahm (fun a v hg=>Af5 hg) h0,Ahm (fun a v hg=>Lq hg) h0]
    split
    ·rename_i e;subst e;exact hc.cnt n'
    ·exact hc.cnt n'
   ·dsimp only at hx;rw[c1]at hx;obtain⟨y,hy,e⟩:=Ajj.1 hx;obtain⟨a1,k,a2,_⟩:=Agy e;rw[a1,a2];exact⟨(hc.vk y hy).1,fun v hv=>(hc.vk y hy).2 v (Agw hv)⟩
  ·exact hc
theorem Atm.open{s:Cn}(hc:Atm s)(nm:Bool)(n:Az):Atm (s.Aqk nm n).1:=by
 have h2:=(Ah4 (s:=s) (nm:=nm) (n:=n) (n':=[])).2;refine⟨fun n'=>?_,?_⟩
 ·rw[h2,Ah4.1];exact hc.cnt n'
 ·rw[h2];exact hc.vk
theorem Atm.step{m:Nat}{s:Cn}(h:Akb m s)(hc:Atm s)(o:Opn):Atm (s.Ay2 o):=by
 unfold Cn.Ay2;split
 ·exact hc.write h _ _
 ·split
  ·exact hc.comp h _ _
  ·split
   ·exact hc.open _ _
   ·exact hc
theorem Aok:∀{p a b:Az},p++a<p++b↔a<b
 | [],a,b=>by simp
 |c::p,a,b=>by
  simp only[H3];rw[List.cons_lt_cons_iff,Aok (p:=p)];have:¬c<c:=Asw c;simp[this]
theorem Apd{vs:List Fk}{R:Int}(h:VSo vs)(h1:vs≠[])(hR:∀v∈vs,v.rev≤R):D1 vs R=if(A1 vs).gone=true then(A11,false)else(A1 vs,true):=by
 rw[Aix h,List.filter_eq_self.2 (fun v hv=>by simpa using hR v hv)]
 unfold A1;cases hl:vs.getLast? with
 |none=>exact absurd (List.getLast?_eq_none_iff.1 hl) h1
 |some v=>rfl
def Aq2:List (Az × Fk)→Int
 | []=>0
 |p::r=>(p.1.length:Int)+(p.2.val.length:Int)+Aq2 r
theorem Amp{n:Az}{R:Int}:∀{l:List Zk},(∀h∈l,Avh h.at_∧VSo h.vs∧h.vs≠[]∧((C1 h.at_).1=n→∀v∈h.vs,v.rev≤R))→LSo l→VK l→
 ((Lh n R l).length:Int)=Ao7 (fK n) l∧Aq2 (Lh n R l)=Ao7 (fB n) l∧(Lh n R l).Pairwise (fun a b=>a.1<b.1)∧∀p∈Lh n R l,(p.1.length≤64∧(1≤p.2.made∧p.2.made≤p.2.rev∧p.2.rev≤R))∧∃h∈l,h.at_=B7 n p.1
 | [],_,_,_=>⟨rfl,rfl,List.Pairwise.nil,by intro p hp;cases hp⟩
 |h::r,h0,hs,hk=>by
  rw[LSo,Cy,Gr]at hs;obtain⟨i1,i2,i3,i4⟩:=Amp (n:=n) (R:=R) (l:=r) (fun x hx=>h0 x (B4 _ hx)) hs.2 (fun x hx=>hk x (B4 _ hx))
  obtain⟨a1,a2,a3,a4⟩:=h0 h (B2 ..);obtain⟨k1,k2⟩:=hk h (B2 ..);unfold Lh at i1 i2 i3 i4 ⊢;rw[Fp];simp only[Ao7];by_cases hn:(C1 h.at_).1=n
  ·have hv:=Apd a2 a3 (a4 hn);cases hg:(A1 h.vs).gone with
   |true=>
    rw[hg,if_pos rfl]at hv;rw[show gV n R h=none by unfold gV;rw[hv,if_neg (fun c=>by cases c.2)],Af5 hg,Lq hg]
    dsimp only;exact⟨by omega,by omega,i3,fun p hp=>⟨(i4 p hp).1,by obtain⟨y,hy,e⟩:=(i4 p hp).2;exact⟨y,B4 _ hy,e⟩⟩⟩
   |false=>
    rw[hg,if_neg (by simp)]at hv
    have C3:h.at_=B7 n (C1 h.at_).2.1:=by rw[←hn];exact a1.A4t.1
    rw[show gV n R h=some ((C1 h.at_).2.1,A1 h.vs)by unfold gV;rw[hv,if_pos ⟨hn,rfl⟩]]
    have hlm:A1 h.vs∈h.vs:=by
     unfold A1;cases hl:h.vs.getLast? with
     |none=>exact absurd (List.getLast?_eq_none_iff.1 hl) a3
     |some v=>exact List.mem_of_getLast? hl
    have hmr:=k2 _ hlm hg;have hrR:=a4 hn _ hlm;refine⟨?_,?_,?_,?_⟩
    ·rw[show fK n h.at_ (A1 h.vs)=1 by unfold fK;rw[if_pos ⟨hn,hg⟩]]
     simp only[Ho];omega
    ·rw[show fB n h.at_ (A1 h.vs)=((C1 h.at_).2.1.length:Int)+((A1 h.vs).val.length:Int)by unfold fB;rw[if_pos ⟨hn,hg⟩]]
     simp only[Aq2];omega
    ·rw[Gr];refine⟨fun p hp=>?_,i3⟩
     obtain⟨y,hy,e⟩:=(i4 p hp).2;have h5:=hs.1 y.at_ (List.mem_map_of_mem hy);rw[C3,e,Ahd n (C1 h.at_).2.1,Ahd n p.1,Aok]at h5;rw[C3]at h5;rw[Ahd, ←Ahd,Mt (by rw[←hn];exact a1.A4t.2)]at h5
     exact h5
    ·intro p hp;rcases Bg.1 hp with rfl|hp
     ·exact⟨⟨k1,hmr.1,hmr.2,hrR⟩,h,B2 ..,C3⟩
     ·exact⟨(i4 p hp).1,by obtain⟨y,hy,e⟩:=(i4 p hp).2;exact⟨y,B4 _ hy,e⟩⟩
  ·rw[Ar0 hn,show fK n h.at_ (A1 h.vs)=0 by unfold fK;rw[if_neg (fun c=>hn c.1)],show fB n h.at_ (A1 h.vs)=0 by unfold fB;rw[if_neg (fun c=>hn c.1)]]
   dsimp only;exact⟨by omega,by omega,i3,fun p hp=>⟨(i4 p hp).1,by obtain⟨y,hy,e⟩:=(i4 p hp).2;exact⟨y,B4 _ hy,e⟩⟩⟩

open Go.Proofs
abbrev r0:SV:=.own [] (.ptr (.st [.vec 52 4 []]))
abbrev r1(n:Az):SV:=.own [] (.ptr (.it (.agg [.list [.agg [.str n,ti 0,ti 0,.list []]]])))
theorem A8o(a b:List Pr)(ha:a.length≤100000):Fn Tryz.prog Azc [.v (.list (a.map Pr.Bx)),.v (.list (b.map Pr.Bx))] (Is (.v (.bool (decide (a=b)))) [.no,.no]):=by
 refine Azb ?_ (by simp)
 by_cases hl:a.length=b.length
 case neg=>
  have h1:¬(!decide (((a.map Pr.Bx).length:Int)=((b.map Pr.Bx).length:Int)))=false:=by simp;omega
  have h2:decide (a=b)=false:=decide_eq_false (fun e=>hl (by rw[e]))
  rw[h2];repeat'((conv=>whnf);first|(with_reducible refine Ax (by exact Ai (by assumption)) fun hb=>?_);(try rw[hb]);try simp only[Aa]at hb|(with_reducible refine Ac ?_ ?_);focus (and_intros<;>(with_reducible rfl))|with_reducible intro Cq)
  all_goals(try(conv=>whnf))
  (apply Dj<;>kernel_rfl)
 have h1:¬(!decide (((a.map Pr.Bx).length:Int)=((b.map Pr.Bx).length:Int)))=true:=by simp;omega
 repeat'((conv=>whnf);first|(with_reducible refine Aw (by exact Ak (by assumption)) fun hb=>?_);(try rw[hb]);try simp only[Aa]at hb|(with_reducible refine Ac ?_ ?_);focus (and_intros<;>(with_reducible rfl))|with_reducible intro Cq)
 all_goals(try(conv=>whnf))
 refine Afm.by (X:=Nat) (fun j=>[(5,.v (ti (j:Int)))]) (fun j=>j≤a.length∧a.take j=b.take j) (fun j=>a.length - j) 0 (by kernel_rfl) ⟨Cr _,rfl⟩ ?_
 rintro j ⟨hj,hp⟩;dsimp only at hj hp ⊢;have hw:=zwj (j:=j) (by omega)
 by_cases hjl:j<a.length
 case neg=>
  have h3:¬decide ((j:Int)<((a.map Pr.Bx).length:Int))=true:=by simp;omega
  have h4:¬decide ((j:Int)<(a.length:Int))=true:=by simp;omega
  rw[Am2 (by omega),Am2 (by omega)]at hp
  rw[decide_eq_true hp];repeat'((conv=>whnf);first|(with_reducible refine Aw (by exact Ak (by assumption)) fun hb=>?_);(try rw[hb]);try simp only[Aa]at hb|(with_reducible refine Ac ?_ ?_);focus (and_intros<;>(with_reducible rfl))|with_reducible intro Cq)
  all_goals(try(conv=>whnf))
  (apply Dj<;>kernel_rfl)
 obtain⟨x,hx⟩:∃x,a[j]?=some x:=⟨_,Ae hjl⟩;obtain⟨y,hy⟩:∃y,b[j]?=some y:=⟨_,Ae (by omega)⟩
 have h3:¬decide ((j:Int)<((a.map Pr.Bx).length:Int))=false:=by simp;omega
 have h4:¬decide ((j:Int)<(a.length:Int))=false:=by simp;omega
 obtain⟨xk,xv,xm,xr⟩:=x;obtain⟨yk,yv,ym,yr⟩:=y;have hq:(decide (xk=yk)&&(decide (xv=yv)&&(decide (xm=ym)&&(decide (xr=yr)&&true))))=decide (Pr.mk xk xv xm xr=Pr.mk yk yv ym yr):=by rw[Bool.eq_iff_iff];simp
 have hta:a.take (j+1)=a.take j++[Pr.mk xk xv xm xr]:=by rw[Amx,hx];rfl
 have htb:b.take (j+1)=b.take j++[Pr.mk yk yv ym yr]:=by rw[Amx,hy];rfl
 by_cases he:Pr.mk xk xv xm xr=Pr.mk yk yv ym yr
 ·have g:¬(!(decide (xk=yk)&&(decide (xv=yv)&&(decide (xm=ym)&&(decide (xr=yr)&&true)))))=true:=by rw[hq];simp[he]
  have hnx:a.take (j+1)=b.take (j+1):=by rw[hta,htb,hp,he]
  repeat'((conv=>whnf);first|(with_reducible first|refine Ax (by first|assumption|exact Ai (by assumption)) fun hb=>?_|refine Aw (by exact Ak (by assumption)) fun hb=>?_);(try rw[hb]);try simp only[Aa]at hb|(with_reducible refine Ac ?_ ?_);focus (and_intros<;>first|omega|with_reducible rfl|kernel_rfl)|with_reducible intro Cq|(with_reducible refine Ai2.mkV ?_ ?_ ?_ fun Cq=>?_);(iterate 3 focus kernel_rfl);try simp only[zRL]at Cq|(try dsimp only);(first|rw[B6 hx]|rw[B6 hy])|skip;rw[hw])
  all_goals(try(conv=>whnf))
  refine Round.by (j+1) ?_ ⟨by omega,hnx⟩ (by omega)
  try dsimp only
  show norm _ _=Cx _ _
  kernel_rfl
 ·have g:¬(!(decide (xk=yk)&&(decide (xv=yv)&&(decide (xm=ym)&&(decide (xr=yr)&&true)))))=false:=by rw[hq];simp[he]
  have Cf:decide (a=b)=false:=by
   refine decide_eq_false fun e=>he ?_
   rw[e]at hx;exact Aag (hx.symm.trans hy)
  rw[Cf];repeat'((conv=>whnf);first|(with_reducible refine Ax (by exact Ai (by assumption)) fun hb=>?_);(try rw[hb]);try simp only[Aa]at hb|(with_reducible refine Ac ?_ ?_);focus (and_intros<;>first|omega|with_reducible rfl|kernel_rfl)|with_reducible intro Cq|(with_reducible refine Ai2.mkV ?_ ?_ ?_ fun Cq=>?_);(iterate 3 focus kernel_rfl);try simp only[zRL]at Cq|(try dsimp only);(first|rw[B6 hx]|rw[B6 hy]))
  all_goals(try(conv=>whnf))
  (apply Dj<;>kernel_rfl)

def aw1:Cn:=⟨[([116],Ax5)],[]⟩

open Go.RowKit Go.Maps Go.Sort Go.Shelf Go.Proofs
def Abr:Go.Shelf.Ren:=⟨fun|7=>62|10=>93|n=>n,fun|23=>128|26=>9|3=>73|28=>131|0=>0|27=>130|33=>117|4=>4|n=>n,fun|n=>n⟩
theorem Aeo:Go.Proofs.SlLaysZ.n7 Tryz.prog Abr where
 mixed:=by kernel_rfl
 f7:=⟨"maps.Keys[map[string]exchequer/api.Change,string,exchequer/api.Change]",by decide,Tryz.func62.trans (congrArg some (by kernel_rfl))⟩
 f10:=⟨"maps.Keys[map[string]exchequer/api.Change,string,exchequer/api.Change]$1",by decide,Tryz.func93.trans (congrArg some (by kernel_rfl))⟩
 t0:=Tryz.underlying0
 a0:=Tryz.isAgg0
 z0:=Tryz.sizeOf0
 v0:=Tryz.zeroValue0
 t4:=Tryz.underlying4
 a4:=Tryz.isAgg4
 z4:=Tryz.sizeOf4
 v4:=Tryz.zeroValue4
 t23:=Tryz.underlying128
 a23:=Tryz.isAgg128
 z23:=Tryz.sizeOf128
 v23:=Tryz.zeroValue128
 t26:=Tryz.underlying9
 a26:=Tryz.isAgg9
 z26:=Tryz.sizeOf9
 v26:=Tryz.zeroValue9
 t27:=Tryz.underlying130
 a27:=Tryz.isAgg130
 z27:=Tryz.sizeOf130
 v27:=Tryz.zeroValue130
 t28:=Tryz.underlying131
 a28:=Tryz.isAgg131
 z28:=Tryz.sizeOf131
 v28:=Tryz.zeroValue131
 t33:=Tryz.underlying117
 a33:=Tryz.isAgg117
 z33:=Tryz.sizeOf117
 v33:=Tryz.zeroValue117
def Pt:Go.Shelf.Ren:=⟨fun|6=>61|8=>91|9=>92|11=>115|13=>87|12=>116|23=>111|24=>112|14=>126|15=>127|16=>128|17=>129|18=>130|19=>131|20=>132|21=>133|22=>134|25=>137|26=>122|27=>123|28=>138|29=>139|30=>88|31=>141|n=>n,fun|26=>9|28=>131|24=>88|0=>0|3=>3|37=>156|48=>175|50=>177|4=>4|40=>169|39=>168|45=>149|5=>5|9=>9|51=>184|55=>188|57=>200|58=>82|33=>117|n=>n,fun|n=>n⟩
theorem Afh:Go.Proofs.SlLaysZ.n6 Tryz.prog Pt where
 mixed:=by kernel_rfl
 f6:=⟨"slices.Sorted[string]",by decide,Tryz.func61.trans (congrArg some (by kernel_rfl))⟩
 f8:=⟨"slices.Collect[string]",by decide,Tryz.func91.trans (congrArg some (by kernel_rfl))⟩
 f11:=⟨"slices.AppendSeq[[]string,string]",by decide,Tryz.func115.trans (congrArg some (by kernel_rfl))⟩
 t0:=Tryz.underlying0
 a0:=Tryz.isAgg0
 z0:=Tryz.sizeOf0
 v0:=Tryz.zeroValue0
 t24:=Tryz.underlying88
 a24:=Tryz.isAgg88
 z24:=Tryz.sizeOf88
 v24:=Tryz.zeroValue88
 t26:=Tryz.underlying9
 a26:=Tryz.isAgg9
 z26:=Tryz.sizeOf9
 v26:=Tryz.zeroValue9
 t28:=Tryz.underlying131
 a28:=Tryz.isAgg131
 z28:=Tryz.sizeOf131
 v28:=Tryz.zeroValue131
 i26:=by kernel_rfl
def Acs:Go.Shelf.Ren:=⟨fun|6=>92|8=>87|9=>116|19=>111|20=>112|21=>126|22=>127|23=>128|24=>129|25=>130|26=>131|27=>132|28=>133|29=>134|36=>137|31=>122|32=>123|37=>138|38=>139|39=>88|41=>141|n=>n,fun|27=>88|29=>9|3=>3|32=>156|26=>88|0=>0|44=>175|46=>177|4=>4|36=>169|35=>168|41=>149|5=>5|9=>9|53=>184|57=>188|63=>200|64=>82|n=>n,fun|n=>n⟩
theorem Aew:Go.Proofs.SlLaysM.n6 Tryz.prog Acs where
 mixed:=by kernel_rfl
 f6:=⟨"slices.Sort[[]string,string]",by decide,Tryz.func92.trans (congrArg some (by kernel_rfl))⟩
 f8:=Tryz.func87.trans (congrArg some (by kernel_rfl))
 f9:=⟨"slices.pdqsortOrdered[string]",by decide,Tryz.func116.trans (congrArg some (by kernel_rfl))⟩
 f19:=Tryz.func111.trans (congrArg some (by kernel_rfl))
 f20:=Tryz.func112.trans (congrArg some (by kernel_rfl))
 f21:=⟨"slices.insertionSortOrdered[string]",by decide,Tryz.func126.trans (congrArg some (by kernel_rfl))⟩
 f22:=⟨"slices.heapSortOrdered[string]",by decide,Tryz.func127.trans (congrArg some (by kernel_rfl))⟩
 f23:=⟨"slices.breakPatternsOrdered[string]",by decide,Tryz.func128.trans (congrArg some (by kernel_rfl))⟩
 f24:=⟨"slices.choosePivotOrdered[string]",by decide,Tryz.func129.trans (congrArg some (by kernel_rfl))⟩
 f25:=⟨"slices.reverseRangeOrdered[string]",by decide,Tryz.func130.trans (congrArg some (by kernel_rfl))⟩
 f26:=⟨"slices.partialInsertionSortOrdered[string]",by decide,Tryz.func131.trans (congrArg some (by kernel_rfl))⟩
 f27:=⟨"cmp.Less[string]",by decide,Tryz.func132.trans (congrArg some (by kernel_rfl))⟩
 f28:=⟨"slices.partitionEqualOrdered[string]",by decide,Tryz.func133.trans (congrArg some (by kernel_rfl))⟩
 f29:=⟨"slices.partitionOrdered[string]",by decide,Tryz.func134.trans (congrArg some (by kernel_rfl))⟩
 f31:=Tryz.func122.trans (congrArg some (by kernel_rfl))
 f32:=Tryz.func123.trans (congrArg some (by kernel_rfl))
 f36:=⟨"slices.siftDownOrdered[string]",by decide,Tryz.func137.trans (congrArg some (by kernel_rfl))⟩
 f37:=⟨"slices.medianAdjacentOrdered[string]",by decide,Tryz.func138.trans (congrArg some (by kernel_rfl))⟩
 f38:=⟨"slices.medianOrdered[string]",by decide,Tryz.func139.trans (congrArg some (by kernel_rfl))⟩
 f39:=⟨"cmp.isNaN[string]",by decide,Tryz.func88.trans (congrArg some (by kernel_rfl))⟩
 f41:=⟨"slices.order2Ordered[string]",by decide,Tryz.func141.trans (congrArg some (by kernel_rfl))⟩
 t0:=Tryz.underlying0
 a0:=Tryz.isAgg0
 z0:=Tryz.sizeOf0
 v0:=Tryz.zeroValue0
 t3:=Tryz.underlying3
 a3:=Tryz.isAgg3
 z3:=Tryz.sizeOf3
 v3:=Tryz.zeroValue3
 t4:=Tryz.underlying4
 a4:=Tryz.isAgg4
 z4:=Tryz.sizeOf4
 v4:=Tryz.zeroValue4
 t5:=Tryz.underlying5
 a5:=Tryz.isAgg5
 z5:=Tryz.sizeOf5
 v5:=Tryz.zeroValue5
 t9:=Tryz.underlying9
 a9:=Tryz.isAgg9
 z9:=Tryz.sizeOf9
 v9:=Tryz.zeroValue9
 t26:=Tryz.underlying88
 a26:=Tryz.isAgg88
 z26:=Tryz.sizeOf88
 v26:=Tryz.zeroValue88
 t27:=Tryz.underlying88
 a27:=Tryz.isAgg88
 z27:=Tryz.sizeOf88
 v27:=Tryz.zeroValue88
 t29:=Tryz.underlying9
 a29:=Tryz.isAgg9
 z29:=Tryz.sizeOf9
 v29:=Tryz.zeroValue9
 t32:=Tryz.underlying156
 a32:=Tryz.isAgg156
 z32:=Tryz.sizeOf156
 v32:=Tryz.zeroValue156
 t35:=Tryz.underlying168
 a35:=Tryz.isAgg168
 z35:=Tryz.sizeOf168
 v35:=Tryz.zeroValue168
 t36:=Tryz.underlying169
 a36:=Tryz.isAgg169
 z36:=Tryz.sizeOf169
 v36:=Tryz.zeroValue169
 t41:=Tryz.underlying149
 a41:=Tryz.isAgg149
 z41:=Tryz.sizeOf149
 v41:=Tryz.zeroValue149
 t44:=Tryz.underlying175
 a44:=Tryz.isAgg175
 z44:=Tryz.sizeOf175
 v44:=Tryz.zeroValue175
 t46:=Tryz.underlying177
 a46:=Tryz.isAgg177
 z46:=Tryz.sizeOf177
 v46:=Tryz.zeroValue177
 t53:=Tryz.underlying184
 a53:=Tryz.isAgg184
 z53:=Tryz.sizeOf184
 v53:=Tryz.zeroValue184
 t57:=Tryz.underlying188
 a57:=Tryz.isAgg188
 z57:=Tryz.sizeOf188
 v57:=Tryz.zeroValue188
 t63:=Tryz.underlying200
 a63:=Tryz.isAgg200
 z63:=Tryz.sizeOf200
 v63:=Tryz.zeroValue200
 t64:=Tryz.underlying82
 a64:=Tryz.isAgg82
 z64:=Tryz.sizeOf82
 v64:=Tryz.zeroValue82
def Gw:Go.Shelf.Ren:=⟨fun|7=>69|10=>95|n=>n,fun|23=>106|26=>9|3=>105|28=>131|0=>0|27=>130|33=>117|4=>4|n=>n,fun|n=>n⟩
theorem Hj:Go.Proofs.SlLaysZ.n7 Tryz.prog Gw where
 mixed:=by kernel_rfl
 f7:=⟨"maps.Keys[map[string]*exchequer/store.tally,string,*exchequer/store.tally]",by decide,Tryz.func69.trans (congrArg some (by kernel_rfl))⟩
 f10:=⟨"maps.Keys[map[string]*exchequer/store.tally,string,*exchequer/store.tally]$1",by decide,Tryz.func95.trans (congrArg some (by kernel_rfl))⟩
 t0:=Tryz.underlying0
 a0:=Tryz.isAgg0
 z0:=Tryz.sizeOf0
 v0:=Tryz.zeroValue0
 t4:=Tryz.underlying4
 a4:=Tryz.isAgg4
 z4:=Tryz.sizeOf4
 v4:=Tryz.zeroValue4
 t23:=Tryz.underlying106
 a23:=Tryz.isAgg106
 z23:=Tryz.sizeOf106
 v23:=Tryz.zeroValue106
 t26:=Tryz.underlying9
 a26:=Tryz.isAgg9
 z26:=Tryz.sizeOf9
 v26:=Tryz.zeroValue9
 t27:=Tryz.underlying130
 a27:=Tryz.isAgg130
 z27:=Tryz.sizeOf130
 v27:=Tryz.zeroValue130
 t28:=Tryz.underlying131
 a28:=Tryz.isAgg131
 z28:=Tryz.sizeOf131
 v28:=Tryz.zeroValue131
 t33:=Tryz.underlying117
 a33:=Tryz.isAgg117
 z33:=Tryz.sizeOf117
 v33:=Tryz.zeroValue117
theorem Afi(m:Nat):AnyZ.SortsIn Tryz.prog Pt Fence.wide m:=
 ⟨fun blk off cap ss W hH Btc Hr=>callsIn_wide.2 (AnyM.slices_Sort_string Aew blk off cap ss W hH Btc Hr),
  fun p cap W=>callsIn_wide.2 (AnyM.slices_Sort_string_none Aew p cap W)⟩
theorem Aep:Aek 128:=A2z.of Aeo
theorem Adx:∀args w,(callFunc 92 args).run Tryz.prog w= .ok (.enter 92 args) w:=enters_of Tryz.func92 (by kernel_rfl) rfl
theorem Abi:∀args w,(callFunc 93 args).run Tryz.prog w= .ok (.enter 93 args) w:=enters_of Tryz.func93 (by kernel_rfl) rfl
set_option maxHeartbeats 4000000 in
theorem Aex:Aem 9:=by
 have h:=Aym.of Afh Aeo Afi Adx Abi;exact h
set_option maxHeartbeats 4000000 in
theorem ofC:Zb:=by
 refine⟨28,9,fun v1 v2 W h1 h2=>?_⟩
 go_enter Tryz.func42,Tryz.ntmps42
 go_wp2
 all_goals first
  |(go_ret;exact⟨rfl,rfl⟩)
  |(exfalso;simp[Value.oneCell']at h1;done)
  |(exfalso;simp[Value.oneCell']at h2;done)
set_option maxHeartbeats 4000000

open Go.Proofs Go.Shelf
theorem Bak:Lays.n197 Tryz.prog ⟨fun n=>if n=197 then 102 else if n=260 then 120 else n,fun n=>if n=46 then 156 else if n=105 then 165 else if n=119 then 196 else if n=138 then 198 else if n=139 then 199 else n,fun n=>if n=3 then 0 else 1⟩ where
 mixed:=by kernel_rfl
 f197:=by kernel_rfl
 f260:=by kernel_rfl
 t0:=by kernel_rfl
 a0:=fun _=>by kernel_rfl
 z0:=fun _=>by kernel_rfl
 v0:=fun _=>by kernel_rfl
 t3:=by kernel_rfl
 a3:=fun _=>by kernel_rfl
 z3:=fun _=>by kernel_rfl
 v3:=fun _=>by kernel_rfl
 t4:=by kernel_rfl
 a4:=fun _=>by kernel_rfl
 z4:=fun _=>by kernel_rfl
 v4:=fun _=>by kernel_rfl
 t5:=by kernel_rfl
 a5:=fun _=>by kernel_rfl
 z5:=fun _=>by kernel_rfl
 v5:=fun _=>by kernel_rfl
 t9:=by kernel_rfl
 a9:=fun _=>by kernel_rfl
 z9:=fun _=>by kernel_rfl
 v9:=fun _=>by kernel_rfl
 t21:=by kernel_rfl
 a21:=fun _=>by kernel_rfl
 z21:=fun _=>by kernel_rfl
 v21:=fun _=>by kernel_rfl
 t46:=by kernel_rfl
 a46:=fun _=>by kernel_rfl
 z46:=fun _=>by kernel_rfl
 v46:=fun _=>by kernel_rfl
 t105:=by kernel_rfl
 a105:=fun _=>by kernel_rfl
 z105:=fun _=>by kernel_rfl
 v105:=fun _=>by kernel_rfl
 t119:=by kernel_rfl
 a119:=fun _=>by kernel_rfl
 z119:=fun _=>by kernel_rfl
 t138:=by kernel_rfl
 a138:=fun _=>by kernel_rfl
 z138:=fun _=>by kernel_rfl
 v138:=fun _=>by kernel_rfl
 t139:=by kernel_rfl
 a139:=fun _=>by kernel_rfl
 z139:=fun _=>by kernel_rfl
 v139:=fun _=>by kernel_rfl
 g3:=by kernel_rfl
 g4:=by kernel_rfl
abbrev Ex:FuncId:=102
theorem X6(s:Az):Fn Tryz.prog Ex [.v (.str s)] (Is (.tup [.i (.int .i32 (Lib.decodeGo ⟨⟨s⟩⟩).1),.i (.int .i64 (Lib.decodeGo ⟨⟨s⟩⟩).2)]) [.no]):=by
 intro G σ Fr w Ahz H2 hcl Ar2;have hc0:C7 G (.str s) (Ahz.getD 0 undef):=(Ar2 0 _ rfl).2;obtain⟨hc0,_⟩:=C7.str.1 hc0;have hca:Ahz= #[.string ⟨⟨s⟩⟩]:=by
  rw[←hc0];apply Array.ext
  ·simpa using hcl
  ·intro j h1 h2;have:j=0:=by simp at h2;omega
   subst this;simp[Array.getD,h1]
 have Bec:=Any.utf8_DecodeRuneInString Bak ⟨⟨s⟩⟩ w (H2.amb w H2.fixed);rw[hca];refine Calls.mono Bec ?_;rintro e w' ⟨rfl,hb⟩;have Asq:∀(M:Mem),(∀b o,M b=some o→w.heap[b]?=some o)→∀b o,M b=some o→w'.heap[b]?=some o:=by
  intro M hM b o hm;have h1:=hM b o hm;rw[hb.block b (Ht.1 h1).1];exact h1
 refine⟨_,_,_,G,fun _=>none,rfl,⟨rfl,rfl⟩,Mem.le.refl G,⟨Asq G H2.fixed,fun b Gf h=>by(cases h),fun b b' Gf h=>by(cases h),Asq Fr H2.frame,hb.os,hb.tape,hb.output,hb.size,H2.apart,H2.amb⟩,rfl,⟨_,rfl,?_⟩,rfl,?_⟩
 ·exact⟨_,_,rfl,C7.int.2 rfl,_,_,rfl,C7.int.2 rfl,rfl⟩
 intro i sv hi;have:sv= .no:=by
  have:=Cb hi;simpa using this
 subst this;exact⟨rfl,trivial⟩

open Go
theorem E7(l:Az)(k:Nat):(⟨⟨l⟩⟩:ByteArray).get! k=(l[k]?).getD 0:=by
 show(l.toArray)[k]! =_;rw[List.getElem!_toArray,List.getElem!_eq_getElem?_getD];rfl
theorem Gp(s:Az)(p:Nat):Kt s p=Kt (s.drop p) 0:=by
 have hg:∀k,(⟨⟨s⟩⟩:ByteArray).get! (p+k)=(⟨⟨s.drop p⟩⟩:ByteArray).get! (0+k):=fun k=>by
  rw[E7,E7,Ae3,E3]
 have hs:∀k,decide (p+k<(⟨⟨s⟩⟩:ByteArray).size)=decide (0+k<(⟨⟨s.drop p⟩⟩:ByteArray).size):=fun k=>by
  show decide (p+k<s.length)=decide (0+k<(s.drop p).length);rw[Ei]
  congr 1
  rw[eq_iff_iff];omega
 unfold Kt Utf8.decode;simp only[hg,hs]
end Go.Ab
