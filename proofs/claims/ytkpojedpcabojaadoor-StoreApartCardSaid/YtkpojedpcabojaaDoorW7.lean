/- Lemmas -/
import Derived.Test.YtkpojedpcabojaaDoorA2
set_option linter.unusedVariables false
set_option linter.unusedSimpArgs false
set_option maxRecDepth 100000
set_option maxHeartbeats 4000000
namespace Go.Ab
open Go.Proofs
theorem Aia{s:Az}{k:Nat}{lo hi:Int}(h:A8 s k lo hi=true):k<s.length:=by
 unfold A8 at h;split at h
 ·rename_i c hc;have:=(List.getElem?_eq_some_iff.1 hc).1;simpa using this
 ·cases h
theorem Ahx{s:Az}{k n:Nat}(h:Fv s k n=true)(hn:0<n):k+n≤s.length:=by
 simp only[Fv,List.all_eq_true,List.mem_range]at h;have:=Aia (h (n - 1) (by omega))
 omega
theorem Amy(s:Az):0≤G9 s∧G9 s≤s.length:=by
 unfold G9;split
 ·rename_i h;have:=Aia (k:=0) h;omega
 split
 ·rename_i h;simp only[Bool.and_eq_true]at h;have:=Ahx h.2 (by omega);omega
 split
 ·rename_i h;simp only[Bool.and_eq_true]at h;have:=Ahx h.1 (by omega);omega
 split
 ·rename_i h;simp only[Bool.and_eq_true]at h;have:=Ahx h.1 (by omega);omega
 omega
def badR(k:Nat)(c:Int)(at':Nat)(piece:Az):Bool:=
 (decide (k=1)&& !((decide (97≤c)&&decide (c≤122))||(decide (48≤c)&&decide (c≤57))||decide (c=95)||(decide (c=45)&&decide (0<at'))))
 ||(decide (1<k)&& !E8 piece)
def Ey:Nat→Az→Nat→Nat→Bool
 |0,_,_,_=>false
 |f+1,s,at',n=>match s[at']? with
  |none=>decide (0<n)
  |some c=>
   let k:=(G9 (s.drop at')).toNat
   if k=0 then false
   else if badR k c.toNat at' ((s.drop at').take k)=true then false
   else if 24<n+1 then false
   else Ey f s (at'+k) (n+1)
def D9(s:Az):Bool:=Ey (s.length+1) s 0 0
theorem Amo(s:Az):Fn Tryd.prog Ad3 [.v (.str s)] (Is (.v (.bool (D9 s))) [.no]):=by
 refine Ado ?_ (by simp)
 (skip)
 all_goals(try(conv=>whnf))
 refine LoopWq.by (X:=Nat × Nat × Nat) (fun x=>[(3,.v (.int .i64 x.2.2)),(4,.v (.int .i64 x.2.1))]) (fun x=>Ey x.1 s x.2.1 x.2.2=D9 s∧s.length<x.1+x.2.1∧x.2.1≤s.length∧x.2.2≤24) (fun x=>s.length - x.2.1)
  (s.length+1,0,0) (by kernel_rfl) ⟨rfl,by dsimp only;omega,Nat.zero_le _,Nat.zero_le _⟩ ?_
 rintro⟨f,p,n⟩ ⟨h1,h2,h3,h4⟩;dsimp only at h1 h2 h3 h4 ⊢;obtain⟨f,rfl⟩:∃g,f=g+1:=⟨f - 1,by omega⟩
 by_cases hp:p<s.length
 case neg=>
  have hlt:¬decide ((p:Int)<(s.length:Int))=true:=by simp;omega
  repeat'((conv=>whnf);first|(refine aI (fun hb=>?_) (fun hb=>?_)<;>first|(exact absurd hb (by assumption))|((try rw[hb]);(try simp only[Aa]at hb)))|(refine eI ?_ ?_;focus (and_intros<;>exact rfl))|(intro hfact))
  all_goals(try(conv=>whnf))
  refine Done.mk ⟨SV.bool_congr ?_,by kernel_rfl⟩ (by kernel_rfl)
  rw[←h1,Ey,List.getElem?_eq_none (by omega)]
  simp
 obtain⟨c,hc⟩:∃c,s[p]?=some c:=⟨_,List.getElem?_eq_getElem hp⟩;have hg:s[Int.toNat (p:Int)]?=some c:=hc;have hlt:¬decide ((p:Int)<(s.length:Int))=false:=by simp[hp]
 have hsz:=Amy (s.drop p);have hs:=Amq (s.drop p);rw[Ey,hc]at h1;dsimp only at h1;obtain⟨k,hk⟩:∃k:Nat,G9 (s.drop p)=k:=⟨(G9 (s.drop p)).toNat,by omega⟩
 rw[hk]at hs h1 hsz;have hs':Fn Tryd.prog Aah [.v (.str ((s.take s.length).drop p))] (Is (.v (.int .i64 k)) [.no]):=by rw[List.take_length];exact hs
 rw[List.length_drop]at hsz;simp only[Int.toNat_natCast]at h1;have hw:s.length≤maxLen→IntKind.i64.wrap ((p:Int)+(k:Int))=((p+k:Nat):Int):=fun hm=>by
  rw[show(p:Int)+(k:Int)=((p+k:Nat):Int)by omega];exact Bf (by simp only[maxLen]at hm;omega)
 have hwn:IntKind.i64.wrap ((n:Int)+1)=((n+1:Nat):Int):=Dk (n:=25) (by omega) (by simp only[maxLen];omega)
 have hpc:((s.drop p).take k)=(s.take (p+k)).drop p:=by rw[List.drop_take];congr 1;omega
 have hit:=Akr ((s.take (p+k)).drop p);have hpk:((p+k:Nat):Int)≤(s.length:Int):=by omega
 have hpp:(p:Int)≤((p+k:Nat):Int):=by omega
 rw[hpc]at h1;obtain⟨b,hb0⟩:∃b,E8 ((s.take (p+k)).drop p)=b:=⟨_,rfl⟩;rw[hb0]at hit;unfold badR at h1;rw[hb0]at h1;rcases Nat.lt_or_ge k 1 with hk0|hk0
 ·have n1:¬decide ((k:Int)=0)=false:=by simp;omega
  rw[if_pos (by omega)]at h1
  repeat'((conv=>whnf);first|(refine aI (fun hb=>?_) (fun hb=>?_)<;>first|(exact absurd hb (by assumption))|((try rw[hb]);(try simp only[Aa]at hb)))|(refine eI ?_ ?_;focus (and_intros<;>first|omega|exact rfl|(intro _ hh;cases hh;done)|(simp;done)|decide))|(intro hfact)|(refine CallWp.mk ⟨_,hs',?_⟩;rintro _ _ ⟨rfl,rfl⟩))
  all_goals(try(conv=>whnf))
  exact Done.mk ⟨SV.bool_congr h1,by kernel_rfl⟩ (by kernel_rfl)
 rw[if_neg (by omega)]at h1
 have n1:¬decide ((k:Int)=0)=true:=by simp;omega
 rcases Nat.lt_or_ge 1 k with hk1|hk1
 ·have n2:¬decide ((k:Int)=1)=true:=by simp;omega
  have n3:¬decide (1<(k:Int))=false:=by simp;omega
  repeat'((conv=>whnf);first|(refine aI (fun hb=>?_) (fun hb=>?_)<;>first|(exact absurd hb (by first|assumption|decide))|((try rw[hb]);(try simp only[Aa]at hb);(try subst hb)))|(refine eI ?_ ?_;focus (and_intros<;>first|omega|exact rfl|(intro _ hh;cases hh;done)|(simp;done)|decide))|(intro hfact)|((try dsimp only);rw[hg])|(refine CallWp.mk ⟨_,hs',?_⟩;rintro _ _ ⟨rfl,rfl⟩)|(refine CallWp.mk ⟨_,hit,?_⟩;rintro _ _ ⟨rfl,rfl⟩)|((try dsimp only);rw[hw (by assumption)])|(skip;rw[hwn]))
  all_goals(try(conv=>whnf))
  all_goals first
   |(refine Done.mk ⟨SV.bool_congr ?_,by kernel_rfl⟩ (by kernel_rfl);rw[←h1];simp at*;grind)
   |(refine Round.by (f,p+k,n+1) ?_ ⟨?_,by dsimp only;omega,by dsimp only;omega,?_⟩ (by dsimp only;omega)
     ·dsimp only;show norm _ _=upd _ _
      kernel_rfl
     ·dsimp only;rw[←h1];simp at*;grind
     ·dsimp only;simp at*;omega)
 ·have n2:¬decide ((k:Int)=1)=false:=by simp;omega
  have n3:¬decide (1<(k:Int))=true:=by simp;omega
  repeat'((conv=>whnf);first|(refine aI (fun hb=>?_) (fun hb=>?_)<;>first|(exact absurd hb (by first|assumption|decide))|(exfalso;((simp only[LENS]at hb<;>omega)))|((try rw[hb]);(try simp only[Aa]at hb)))|(refine eI ?_ ?_;focus (and_intros<;>first|omega|exact rfl|(intro _ hh;cases hh;done)|(simp;done)|decide))|(intro hfact)|((try dsimp only);rw[hg])|(refine CallWp.mk ⟨_,hs',?_⟩;rintro _ _ ⟨rfl,rfl⟩)|(skip;rw[hw (by assumption)])|(skip;rw[hwn]))
  all_goals(try(conv=>whnf))
  all_goals first
   |(refine Done.mk ⟨SV.bool_congr ?_,by kernel_rfl⟩ (by kernel_rfl);rw[←h1];simp at*;grind)
   |(refine Round.by (f,p+k,n+1) ?_ ⟨?_,by dsimp only;omega,by dsimp only;omega,?_⟩ (by dsimp only;omega)
     ·dsimp only;show norm _ _=upd _ _
      kernel_rfl
     ·dsimp only;rw[←h1];simp at*;grind
     ·dsimp only;simp at*;omega)

abbrev ti(n:Int):I:=.int .i64 n
structure Ver where
 rev:Int
 made:Int
 val:Az
 gone:Bool
 deriving DecidableEq,Inhabited
def Ver.toI(v:Ver):I:=.agg [ti v.rev,ti v.made,.str v.val,.bool v.gone]
structure Hld where
 at_:Az
 vs:List Ver
 deriving DecidableEq,Inhabited
def Hld.toI(h:Hld):I:=.agg [.str h.at_,.list (h.vs.map Ver.toI)]
structure Tal where
 rev:Int
 floor:Int
 bytes:Int
 keys:Int
 vers:Int
 deriving DecidableEq,Inhabited
def Tal.toI(t:Tal):I:=.agg [ti t.rev,ti t.floor,ti t.bytes,ti t.keys,ti t.vers]
structure Sto where
 sp:List (Az × Tal)
 l:List Hld
 deriving DecidableEq,Inhabited
structure Chg where
 key:Az
 val:Az
 gone:Bool
 deriving DecidableEq,Inhabited
def Chg.toI(c:Chg):I:=.agg [.str c.key,.str c.val,.bool c.gone]
structure Pr where
 key:Az
 val:Az
 made:Int
 rev:Int
 deriving DecidableEq,Inhabited
def Pr.toI(p:Pr):I:=.agg [.str p.key,.str p.val,ti p.made,ti p.rev]
structure Kv where
 key:Az
 vs:List Ver
 deriving DecidableEq,Inhabited
def Kv.toI(h:Kv):I:=.agg [.str h.key,.list (h.vs.map Ver.toI)]
structure Spc where
 name:Az
 rev:Int
 floor:Int
 keys:List Kv
 deriving DecidableEq,Inhabited
def Spc.toI(p:Spc):I:=.agg [.str p.name,ti p.rev,ti p.floor,.list (p.keys.map Kv.toI)]
theorem Ver.size(v:Ver):v.toI.size=4:=rfl
theorem Hld.size(h:Hld):h.toI.size=2:=rfl
theorem Chg.size(h:Chg):h.toI.size=3:=rfl
theorem Kv.size(h:Kv):h.toI.size=2:=rfl
theorem Spc.size(h:Spc):h.toI.size=4:=rfl
theorem Pr.size(h:Pr):h.toI.size=4:=rfl
def B7(n k:Az):Az:=UInt8.ofNat (n.length % 256)::n++k
def C1:Az→Az × Az × Bool
 | []=>([],[],false)
 |c::r=>if r.length<c.toNat then([],[],false)else(r.take c.toNat,r.drop c.toNat,true)
theorem Mt{n k:Az}(h:n.length<256):C1 (B7 n k)=(n,k,true):=by
 unfold B7 C1;have h1:(UInt8.ofNat (n.length % 256)).toNat=n.length:=by
  rw[UInt8.toNat_ofNat'];omega
 simp only[List.cons_append,h1,List.length_append];rw[if_neg (by omega),List.take_left,List.drop_left]
def bsGo(lt:Nat→Bool):Nat→Nat→Nat→Nat
 |0,i,_=>i
 |f+1,i,j=>if i<j then(if lt ((i+j) / 2)then bsGo lt f ((i+j) / 2+1) j else bsGo lt f i ((i+j) / 2))else i
theorem K0(lt:Nat→Bool):∀f i j,i≤j→i≤bsGo lt f i j∧bsGo lt f i j≤j
 |0,i,j,h=>⟨Nat.le_refl _,h⟩
 |f+1,i,j,h=>by
  unfold bsGo;split
  ·split
   ·have:=K0 lt f ((i+j) / 2+1) j (by omega);omega
   ·have:=K0 lt f i ((i+j) / 2) (by omega);omega
  ·omega
def Km{α:Type}(lt:α→Bool)(l:List α):Nat:=bsGo (fun h=>(l[h]?).any lt) l.length 0 l.length
def bsF{α:Type}(lt eq:α→Bool)(l:List α):Bool:=(l[Km lt l]?).any eq
theorem Hp{α:Type}(lt:α→Bool)(l:List α):Km lt l≤l.length:=(K0 _ _ _ _ (Nat.zero_le _)).2
theorem Afp{α:Type}{lt eq:α→Bool}{l:List α}(h:bsF lt eq l=true):∃x,l[Km lt l]?=some x∧eq x=true:=by
 unfold bsF at h;cases hx:l[Km lt l]? with
 |none=>rw[hx]at h;cases h
 |some x=>rw[hx]at h;exact⟨x,rfl,by simpa using h⟩
theorem Abw{i j:Nat}(h:i+j≤9223372036854775807):IntKind.i64.wrap (shrI .u64 (IntKind.u64.wrap (IntKind.i64.wrap ((i:Int)+(j:Int)))) 1)=(((i+j) / 2:Nat):Int):=by
 have h1:IntKind.i64.wrap ((i:Int)+(j:Int))=((i+j:Nat):Int):=by rw[IntKind.wrap_i64];omega
 have h2:IntKind.u64.wrap ((i+j:Nat):Int)=((i+j:Nat):Int):=by simp[IntKind.wrap,IntKind.bits,IntKind.signed];omega
 rw[h1,h2];have h3:shrI .u64 ((i+j:Nat):Int) 1=(((i+j) / 2:Nat):Int):=(show Int.fdiv ((i+j:Nat):Int) ((2:Nat):Int)=_ from(Int.ofNat_fdiv _ _).symm);rw[h3,IntKind.wrap_i64];omega

open Go.Proofs
theorem Pu(s:Sp):Fn Tryd.prog Us [.v s.toI] (Is (.v (.bool (decide (SpR s)))) [.no]):=by
 refine T7 ?_ (by simp)
 repeat'((conv=>whnf);first|((with_reducible refine Ax (by(with_reducible rfl)) (fun hb=>?_));(try rw[hb]);(try simp only[Aa]at hb))|((with_reducible refine Aw (by(with_reducible rfl)) (fun hb=>?_));(try rw[hb]);(try simp only[Aa]at hb))|((with_reducible refine And.intro (fun hb=>?_) (fun hb=>?_))<;>(((try rw[hb]);(try simp only[Aa]at hb))))|((with_reducible refine Exists.intro ?_ ?_);focus (and_intros<;>first|omega|(with_reducible rfl)|kernel_rfl|(simp;done)))|(with_reducible intro hfact))
 all_goals(try(conv=>whnf))
 all_goals(refine Done.mk ⟨SV.bool_congr ?_,by kernel_rfl⟩ (by kernel_rfl))
 all_goals(simp[SpR,Kz]at*;grind)
theorem Aa0(k:Az):Fn Tryd.prog Mp [.v (.str k)] (Is (.v (.bool false)) [.no]):=by
 refine Mn ?_ (by simp)
 (skip)
 all_goals(try(conv=>whnf))
 exact Done.mk ⟨SV.bool_congr (by simp),by kernel_rfl⟩ (by kernel_rfl)
def cmpS(a b:Az):Int:=if a<b then -1 else if b<a then 1 else 0
theorem Ww(a b:Az):Fn Tryd.prog Kw [.v (.str a),.v (.str b)] (Is (.v (.int .i64 (cmpS a b))) [.no,.no]):=by
 refine Kk ?_ (by simp)
 repeat'((conv=>whnf);first|((with_reducible refine Aw (by first|(with_reducible assumption)|(with_reducible rfl)) (fun hb=>?_));(try rw[hb]);(try simp only[Aa]at hb))|((with_reducible refine And.intro (fun hb=>?_) (fun hb=>?_))<;>(((try rw[hb]);(try simp only[Aa]at hb))))|((with_reducible refine Exists.intro ?_ ?_);focus (and_intros<;>first|(intro _ hh;cases hh;done)|(simp;done)|decide))|((with_reducible refine CallWp.mk ?_);refine⟨_,Aa0 _,?_⟩;rintro _ _ ⟨rfl,rfl⟩))
 all_goals(try(conv=>whnf))
 all_goals(refine Done.mk ⟨congrArg (fun n=>SV.v (.int .i64 n)) ?_,by kernel_rfl⟩ (by kernel_rfl))
 all_goals(simp[cmpS,Kz]at* <;>grind)
theorem Tu(s:Sp)(k:Az):Fn Tryd.prog Za [.v s.toI,.v (.str k)] (Is (.v (.bool (decide (SpH s k)))) [.no,.no]):=by
 refine Xo ?_ (by simp)
 repeat'((conv=>whnf);first|((with_reducible refine Ax (by(with_reducible rfl)) (fun hb=>?_));(try rw[hb]);(try simp only[Aa]at hb))|((with_reducible refine Aw (by(with_reducible rfl)) (fun hb=>?_));(try rw[hb]);(try simp only[Aa]at hb))|((with_reducible refine And.intro (fun hb=>?_) (fun hb=>?_))<;>(((try rw[hb]);(try simp only[Aa]at hb))))|((with_reducible refine Exists.intro ?_ ?_);focus (and_intros<;>first|omega|kernel_rfl|(simp;done))))
 all_goals(try(conv=>whnf))
 all_goals(refine Done.mk ⟨SV.bool_congr ?_,by kernel_rfl⟩ (by kernel_rfl))
 all_goals(simp[SpH,Kz]at*;grind)
set_option maxHeartbeats 40000000

open Go.Proofs
theorem Aaz(k:Az):Fn Tryd.prog Ty [.v (.str k)] (Is (.v (.bool (decide (1≤k.length∧k.length≤64)))) [.no]):=by
 refine Se ?_ (by simp)
 repeat'((conv=>whnf);first|((with_reducible refine Ax (by(with_reducible rfl)) (fun hb=>?_));(try rw[hb]);(try simp only[Aa]at hb))|((with_reducible refine Aw (by(with_reducible rfl)) (fun hb=>?_));(try rw[hb]);(try simp only[Aa]at hb))|((with_reducible refine And.intro (fun hb=>?_) (fun hb=>?_))<;>(((try rw[hb]);(try simp only[Aa]at hb))))|((with_reducible refine Exists.intro ?_ ?_);focus (and_intros<;>(with_reducible rfl)))|(with_reducible intro hfact))
 all_goals(try(conv=>whnf))
 all_goals(refine Done.mk ⟨SV.bool_congr ?_,by kernel_rfl⟩ (by kernel_rfl))
 all_goals(simp only[decide_eq_decide,decide_eq_true_eq,decide_eq_false_iff_not,Bool.false_eq]at*;omega)
theorem Wx(k:Az):Fn Tryd.prog Qn [.v (.str k)] (Is (.v (.bool (decide (k.length≤256)))) [.no]):=by
 refine Qb ?_ (by simp)
 repeat'((conv=>whnf);first|((with_reducible refine Exists.intro ?_ ?_);focus (and_intros<;>(with_reducible rfl)))|(with_reducible intro hfact))
 all_goals(try(conv=>whnf))
 all_goals(refine Done.mk ⟨SV.bool_congr ?_,by kernel_rfl⟩ (by kernel_rfl))
 all_goals(simp only[decide_eq_decide];omega)
theorem L1(n k:Az)(hn:n.length≤100000)(hk:k.length≤100000):Fn Tryd.prog Tw [.v (.str n),.v (.str k)] (Is (.v (.str (B7 n k))) [.no,.no]):=by
 refine Sc ?_ (by simp)
 repeat'((conv=>whnf);first|((with_reducible refine Exists.intro ?_ ?_);focus (and_intros<;>first|omega|(with_reducible rfl)|kernel_rfl|exact Ah (by rfl)|(simp only[LENS];omega)))|(with_reducible intro hfact))
 all_goals(try(conv=>whnf))
 refine Done.mk ⟨?_,by kernel_rfl⟩ (by kernel_rfl)
 show SV.v (.str _)=SV.v (.str _);have h:IntKind.u8.wrap (n.length:Int)=((n.length % 256:Nat):Int):=by simp[IntKind.wrap,IntKind.bits,IntKind.signed]
 rw[h,Int.toNat_natCast];rfl
theorem L2(s:Az)(hs:s.length≤1000000):Fn Tryd.prog Tx [.v (.str s)] (Is (.tup [.i (.str (C1 s).1),.i (.str (C1 s).2.1),.i (.bool (C1 s).2.2)]) [.no]):=by
 refine Sd ?_ (by simp)
 cases s with
 |nil=>
  repeat'((conv=>whnf);first|((with_reducible refine Ax (by(with_reducible rfl)) (fun hb=>?_));(try rw[hb]);(try simp only[Aa]at hb))|((with_reducible refine And.intro (fun hb=>?_) (fun hb=>?_))<;>first|(exact absurd hb (by decide))|((try rw[hb]);(try simp only[Aa]at hb))))
  all_goals(try(conv=>whnf))
  (apply dKq<;>kernel_rfl)
 |cons c r=>
  have hne:¬decide (c::r=[])=true:=by simp
  simp only[List.length_cons]at hs;have hc:=c.toNat_lt;have hw1:IntKind.i64.wrap (c.toNat:Int)=(c.toNat:Int):=Bf (by omega)
  have hw2:IntKind.i64.wrap (1+(c.toNat:Int))=((1+c.toNat:Nat):Int):=by rw[Bf (by omega)];omega
  have hw3:IntKind.i64.wrap (((c::r).length:Int) - 1)=(r.length:Int):=by rw[List.length_cons,Bf (by omega)];omega
  by_cases hlt:r.length<c.toNat
  ·have h1:¬decide ((r.length:Int)<(c.toNat:Int))=false:=by simp;omega
   have hM:C1 (c::r)=([],[],false):=by simp[C1,hlt]
   rw[hM];repeat'((conv=>whnf);first|((with_reducible refine Ax (by first|(with_reducible exact Bool.of_not_eq_false (by assumption))|((with_reducible refine decide_eq_true ?_);omega)) (fun hb=>?_));(try rw[hb]);(try simp only[Aa]at hb))|((with_reducible refine Aw (by first|(with_reducible exact Bool.of_not_eq_true (by assumption))|(with_reducible rfl)) (fun hb=>?_));(try rw[hb]);(try simp only[Aa]at hb))|((with_reducible refine Exists.intro ?_ ?_);focus (and_intros<;>first|omega|(with_reducible rfl)))|(with_reducible intro hfact)|((try dsimp only);rw[hw1])|(skip;rw[hw3]))
   all_goals(try(conv=>whnf))
   (apply dKq<;>kernel_rfl)
  ·have h1:¬decide ((r.length:Int)<(c.toNat:Int))=true:=by simp;omega
   have hM:C1 (c::r)=(r.take c.toNat,r.drop c.toNat,true):=by simp[C1,hlt]
   rw[hM];repeat'((conv=>whnf);first|((with_reducible refine Aw (by first|(with_reducible exact Bool.of_not_eq_true (by assumption))|((with_reducible refine decide_eq_false ?_);omega)|(with_reducible rfl)) (fun hb=>?_));(try rw[hb]);(try simp only[Aa]at hb))|((with_reducible refine Exists.intro ?_ ?_);focus (and_intros<;>first|omega|(with_reducible rfl)|(simp only[LENS];omega)))|(with_reducible intro hfact)|((with_reducible apply Drawn.by0);(focus kernel_rfl);intro hfact;(try simp only[dRS]at hfact))|((try dsimp only);rw[hw1])|(skip;rw[hw3])|(skip;rw[hw2]))
   all_goals(try(conv=>whnf))
   refine Done.mk ⟨?_,by kernel_rfl⟩ (by kernel_rfl)
   show SV.tup [.i (.str _),.i (.str _),_]=_;simp only[Int.toNat_natCast,Int.toNat_one,List.take_length];rw[Nat.add_comm 1 c.toNat,List.take_succ_cons,List.drop_succ_cons];rfl
theorem X8(n:Int):Fn Tryd.prog Qm [.v (ti n)] (Is (.v (.bool false)) [.no]):=by
 refine Qa ?_ (by simp)
 (skip)
 all_goals(try(conv=>whnf))
 exact Done.mk ⟨SV.bool_congr (by simp),by kernel_rfl⟩ (by kernel_rfl)
def cmpI(a b:Int):Int:=if a<b then -1 else if b<a then 1 else 0
theorem Ua(a b:Int):Fn Tryd.prog Pe [.v (ti a),.v (ti b)] (Is (.v (ti (cmpI a b))) [.no,.no]):=by
 refine Nd ?_ (by simp)
 repeat'((conv=>whnf);first|((with_reducible refine Aw (by(with_reducible rfl)) (fun hb=>?_));(try rw[hb]);(try simp only[Aa]at hb))|((with_reducible refine And.intro (fun hb=>?_) (fun hb=>?_))<;>(((try rw[hb]);(try simp only[Aa]at hb))))|((with_reducible refine Exists.intro ?_ ?_);focus (and_intros<;>first|(intro _ hh;cases hh;done)|(simp;done)|decide))|((with_reducible refine CallWp.mk ?_);refine⟨_,X8 _,?_⟩;rintro _ _ ⟨rfl,rfl⟩))
 all_goals(try(conv=>whnf))
 all_goals(refine Done.mk ⟨congrArg (fun n=>SV.v (.int .i64 n)) ?_,by kernel_rfl⟩ (by kernel_rfl))
 all_goals(simp only[cmpI];grind)
theorem Ka(a:Az)(x:I)(hx:x.size=1)(n:Az):Fn Tryd.prog E4 [.v (.agg [.str a,x]),.v (.str n)] (Is (.v (ti (cmpS a n))) [.no,.no]):=by
 refine J6 ?_ (by simp)
 repeat'((conv=>whnf);first|((with_reducible refine Exists.intro ?_ ?_);focus (and_intros<;>first|omega|kernel_rfl|(intro _ hh;cases hh;done)|(simp;done)|decide))|((with_reducible refine CallWp.mk ?_);refine⟨_,Ww _ _,?_⟩;rintro _ _ ⟨rfl,rfl⟩))
 all_goals(try(conv=>whnf))
 exact Done.mk ⟨rfl,by kernel_rfl⟩ (by kernel_rfl)
theorem Gx(v:Ver)(n:Int):Fn Tryd.prog Ew [.v v.toI,.v (ti n)] (Is (.v (ti (cmpI v.rev n))) [.no,.no]):=by
 refine Jk ?_ (by simp)
 repeat'((conv=>whnf);first|((with_reducible refine Exists.intro ?_ ?_);focus (and_intros<;>first|omega|kernel_rfl|(intro _ hh;cases hh;done)|(simp;done)|decide))|((with_reducible refine CallWp.mk ?_);refine⟨_,Ua _ _,?_⟩;rintro _ _ ⟨rfl,rfl⟩))
 all_goals(try(conv=>whnf))
 exact Done.mk ⟨rfl,by kernel_rfl⟩ (by kernel_rfl)

open Go.Proofs
theorem Adt(a b:Az):decide (cmpS a b<0)=decide (a<b):=by
 unfold cmpS;by_cases h:a<b
 ·simp[h]
 ·by_cases h2:b<a<;>simp[h,h2]
theorem Abe(a b:Az):decide (cmpS a b=0)=decide (a=b):=by
 unfold cmpS;by_cases h:a<b
 ·have:a≠b:=by rintro rfl;exact absurd h (List.lt_irrefl a)
  simp[h,this]
 ·by_cases h2:b<a
  ·have:a≠b:=by rintro rfl;exact absurd h2 (List.lt_irrefl a)
   simp[h,h2,this]
  ·have:a=b:=List.le_antisymm (List.not_lt.1 h2) (List.not_lt.1 h);rw[if_neg h,if_neg h2];simp[this]
theorem Ads(a b:Int):decide (cmpI a b<0)=decide (a<b):=by
 unfold cmpI;by_cases h:a<b
 ·simp[h]
 ·by_cases h2:b<a<;>simp[h,h2]
theorem Abd(a b:Int):decide (cmpI a b=0)=decide (a=b):=by
 unfold cmpI;by_cases h:a<b
 ·simp[h];omega
 ·by_cases h2:b<a
  ·simp[h,h2];omega
  ·simp[h,h2];omega
def Kh(n:Az)(h:Hld):Bool:=decide (h.at_<n)
def eqH(n:Az)(h:Hld):Bool:=decide (h.at_=n)
def ltV(n:Int)(v:Ver):Bool:=decide (v.rev<n)
def eqV(n:Int)(v:Ver):Bool:=decide (v.rev=n)
theorem L0(l:List Hld)(n:Az)(hl:l.length≤100000):Fn Tryd.prog Ck [.v (.list (l.map Hld.toI)),.v (.str n),.v (.fn E4)] (Is (.tup [.i (.int .i64 (Km (Kh n) l)),.i (.bool (bsF (Kh n) (eqH n) l))]) [.no,.no,.no]):=by
 refine Cj ?_ (by simp)
 repeat'((conv=>whnf);first|((with_reducible refine Exists.intro ?_ ?_);focus (and_intros<;>(with_reducible rfl)))|(with_reducible intro hfact))
 all_goals(try(conv=>whnf))
 obtain⟨A,hA⟩:∃A,A=Km (Kh n) l:=⟨_,rfl⟩;have hAF:bsF (Kh n) (eqH n) l=(l[A]?).any (eqH n):=by rw[hA];rfl
 have hAle:A≤l.length:=by rw[hA];exact Hp _ _
 rw[hAF, ←hA];unfold Km at hA;refine LoopWq.by (X:=Nat × Nat × Nat) (fun x=>[(9,.v (.int .i64 x.2.1)),(10,.v (.int .i64 x.2.2))]) (fun x=>x.2.1≤x.2.2∧x.2.2≤l.length∧x.2.2 - x.2.1≤x.1∧bsGo (fun h=>(l[h]?).any (Kh n)) x.1 x.2.1 x.2.2=A) (fun x=>x.2.2 - x.2.1)
  (l.length,0,l.length) (by rw[List.length_map];kernel_rfl) ⟨Nat.zero_le _,Nat.le_refl _,Nat.sub_le _ _,hA.symm⟩ ?_
 rintro⟨f,i,j⟩ ⟨h1,h2,h3,h4⟩;dsimp only at h1 h2 h3 h4 ⊢;by_cases hij:i<j
 case neg=>
  have hlt:¬decide ((i:Int)<(j:Int))=true:=by simp;omega
  obtain rfl:i=A:=by
   rw[←h4];cases f with
   |zero=>rfl
   |succ f=>rw[bsGo,if_neg hij]
  by_cases hil:i<l.length
  ·obtain⟨e,he⟩:∃e,l[i]?=some e:=⟨_,List.getElem?_eq_getElem hil⟩;have hl2:¬decide ((i:Int)<((l.map Hld.toI).length:Int))=false:=by simp[hil]
   have hl3:¬decide ((i:Int)<(l.length:Int))=false:=by simp[hil]
   rw[he];simp only[Option.any_some];repeat'((conv=>whnf);first|((with_reducible refine Ax (by first|(with_reducible exact Bool.of_not_eq_false (by assumption))|(with_reducible rfl)) (fun hb=>?_));(try rw[hb]);(try simp only[Aa]at hb))|((with_reducible refine Aw (by(with_reducible exact Bool.of_not_eq_true (by assumption))) (fun hb=>?_));(try rw[hb]);(try simp only[Aa]at hb))|((with_reducible refine Exists.intro ?_ ?_);focus (and_intros<;>first|omega|kernel_rfl|(intro _ hh;cases hh;done)|(simp;done)|decide))|((try dsimp only);(rw[B6 he]))|((with_reducible refine CallWp.mk ?_);refine⟨_,Ka _ _ rfl _,?_⟩;rintro _ _ ⟨rfl,rfl⟩))
   all_goals(try(conv=>whnf))
   refine Done.mk ⟨?_,by kernel_rfl⟩ (by kernel_rfl)
   rw[show eqH n e=decide (cmpS e.at_ n=0)from(Abe e.at_ n).symm];rfl
  ·have hl2:¬decide ((i:Int)<((l.map Hld.toI).length:Int))=true:=by simp;omega
   have hl3:¬decide ((i:Int)<(l.length:Int))=true:=by simp;omega
   rw[List.getElem?_eq_none (by omega)]
   simp only[Option.any_none];repeat'((conv=>whnf);((with_reducible refine Aw (by first|(with_reducible exact Bool.of_not_eq_true (by assumption))|(with_reducible rfl)) (fun hb=>?_));(try rw[hb]);(try simp only[Aa]at hb)))
   all_goals(try(conv=>whnf))
   (apply dKq<;>kernel_rfl)
 have hlt:¬decide ((i:Int)<(j:Int))=false:=by simp[hij]
 obtain⟨g,rfl⟩:∃g,f=g+1:=⟨f - 1,by omega⟩
 rw[bsGo,if_pos hij]at h4;have hmid:=Abw (i:=i) (j:=j) (by omega)
 obtain⟨h,hh⟩:∃h,h=(i+j) / 2:=⟨_,rfl⟩;rw[←hh]at hmid h4;have hhj:h<j:=by omega
 obtain⟨e,he⟩:∃e,l[h]?=some e:=⟨_,List.getElem?_eq_getElem (by omega)⟩
 have hle:(l[h]?).any (Kh n)=decide (cmpS e.at_ n<0):=by rw[he];exact(Adt e.at_ n).symm
 have hw:IntKind.i64.wrap ((h:Int)+1)=((h+1:Nat):Int):=Dk (n:=1000000) (by omega) (by simp only[maxLen];omega)
 rw[hle]at h4;by_cases hc:cmpS e.at_ n<0
 ·have hb:¬decide (cmpS e.at_ n<0)=false:=by simp[hc]
  rw[if_pos (by simpa using hc)]at h4
  repeat'((conv=>whnf);first|((with_reducible refine Ax (by(with_reducible exact Bool.of_not_eq_false (by assumption))) (fun hb=>?_));(try rw[hb]);(try simp only[Aa]at hb))|((with_reducible refine Exists.intro ?_ ?_);focus (and_intros<;>first|omega|kernel_rfl|(intro _ hh;cases hh;done)|(simp;done)|decide))|((try dsimp only);rw[hmid])|((try dsimp only);(rw[B6 he]))|((with_reducible refine CallWp.mk ?_);refine⟨_,Ka _ _ rfl _,?_⟩;rintro _ _ ⟨rfl,rfl⟩)|(skip;rw[hw]))
  all_goals(try(conv=>whnf))
  refine Round.by (g,h+1,j) ?_ ⟨by dsimp only;omega,h2,by dsimp only;omega,h4⟩ (by dsimp only;omega)
  dsimp only;show norm _ _=upd _ _
  kernel_rfl
 ·have hb:¬decide (cmpS e.at_ n<0)=true:=by simp[hc]
  rw[if_neg (by simpa using hc)]at h4
  repeat'((conv=>whnf);first|((with_reducible refine Ax (by(with_reducible exact Bool.of_not_eq_false (by assumption))) (fun hb=>?_));(try rw[hb]);(try simp only[Aa]at hb))|((with_reducible refine Aw (by(with_reducible exact Bool.of_not_eq_true (by assumption))) (fun hb=>?_));(try rw[hb]);(try simp only[Aa]at hb))|((with_reducible refine Exists.intro ?_ ?_);focus (and_intros<;>first|omega|kernel_rfl|(intro _ hh;cases hh;done)|(simp;done)|decide))|((try dsimp only);rw[hmid])|((try dsimp only);(rw[B6 he]))|((with_reducible refine CallWp.mk ?_);refine⟨_,Ka _ _ rfl _,?_⟩;rintro _ _ ⟨rfl,rfl⟩))
  all_goals(try(conv=>whnf))
  refine Round.by (g,i,h) ?_ ⟨by dsimp only;omega,by dsimp only;omega,by dsimp only;omega,h4⟩ (by dsimp only;omega)
  dsimp only;show norm _ _=upd _ _
  kernel_rfl
theorem Aay(l:List Ver)(n:Int)(hl:l.length≤100000):Fn Tryd.prog Cs [.v (.list (l.map Ver.toI)),.v (ti n),.v (.fn Ew)] (Is (.tup [.i (.int .i64 (Km (ltV n) l)),.i (.bool (bsF (ltV n) (eqV n) l))]) [.no,.no,.no]):=by
 refine Co ?_ (by simp)
 repeat'((conv=>whnf);first|((with_reducible refine Exists.intro ?_ ?_);focus (and_intros<;>(with_reducible rfl)))|(with_reducible intro hfact))
 all_goals(try(conv=>whnf))
 obtain⟨A,hA⟩:∃A,A=Km (ltV n) l:=⟨_,rfl⟩;have hAF:bsF (ltV n) (eqV n) l=(l[A]?).any (eqV n):=by rw[hA];rfl
 have hAle:A≤l.length:=by rw[hA];exact Hp _ _
 rw[hAF, ←hA];unfold Km at hA;refine LoopWq.by (X:=Nat × Nat × Nat) (fun x=>[(9,.v (.int .i64 x.2.1)),(10,.v (.int .i64 x.2.2))]) (fun x=>x.2.1≤x.2.2∧x.2.2≤l.length∧x.2.2 - x.2.1≤x.1∧bsGo (fun h=>(l[h]?).any (ltV n)) x.1 x.2.1 x.2.2=A) (fun x=>x.2.2 - x.2.1)
  (l.length,0,l.length) (by rw[List.length_map];kernel_rfl) ⟨Nat.zero_le _,Nat.le_refl _,Nat.sub_le _ _,hA.symm⟩ ?_
 rintro⟨f,i,j⟩ ⟨h1,h2,h3,h4⟩;dsimp only at h1 h2 h3 h4 ⊢;by_cases hij:i<j
 case neg=>
  have hlt:¬decide ((i:Int)<(j:Int))=true:=by simp;omega
  obtain rfl:i=A:=by
   rw[←h4];cases f with
   |zero=>rfl
   |succ f=>rw[bsGo,if_neg hij]
  by_cases hil:i<l.length
  ·obtain⟨e,he⟩:∃e,l[i]?=some e:=⟨_,List.getElem?_eq_getElem hil⟩;have hl2:¬decide ((i:Int)<((l.map Ver.toI).length:Int))=false:=by simp[hil]
   have hl3:¬decide ((i:Int)<(l.length:Int))=false:=by simp[hil]
   rw[he];simp only[Option.any_some];repeat'((conv=>whnf);first|((with_reducible refine Ax (by first|(with_reducible exact Bool.of_not_eq_false (by assumption))|(with_reducible rfl)) (fun hb=>?_));(try rw[hb]);(try simp only[Aa]at hb))|((with_reducible refine Aw (by(with_reducible exact Bool.of_not_eq_true (by assumption))) (fun hb=>?_));(try rw[hb]);(try simp only[Aa]at hb))|((with_reducible refine Exists.intro ?_ ?_);focus (and_intros<;>first|omega|kernel_rfl|(intro _ hh;cases hh;done)|(simp;done)|decide))|((try dsimp only);(rw[B6 he]))|((with_reducible refine CallWp.mk ?_);refine⟨_,Gx _ _,?_⟩;rintro _ _ ⟨rfl,rfl⟩))
   all_goals(try(conv=>whnf))
   refine Done.mk ⟨?_,by kernel_rfl⟩ (by kernel_rfl)
   rw[show eqV n e=decide (cmpI e.rev n=0)from(Abd e.rev n).symm];rfl
  ·have hl2:¬decide ((i:Int)<((l.map Ver.toI).length:Int))=true:=by simp;omega
   have hl3:¬decide ((i:Int)<(l.length:Int))=true:=by simp;omega
   rw[List.getElem?_eq_none (by omega)]
   simp only[Option.any_none];repeat'((conv=>whnf);((with_reducible refine Aw (by first|(with_reducible exact Bool.of_not_eq_true (by assumption))|(with_reducible rfl)) (fun hb=>?_));(try rw[hb]);(try simp only[Aa]at hb)))
   all_goals(try(conv=>whnf))
   (apply dKq<;>kernel_rfl)
 have hlt:¬decide ((i:Int)<(j:Int))=false:=by simp[hij]
 obtain⟨g,rfl⟩:∃g,f=g+1:=⟨f - 1,by omega⟩
 rw[bsGo,if_pos hij]at h4;have hmid:=Abw (i:=i) (j:=j) (by omega)
 obtain⟨h,hh⟩:∃h,h=(i+j) / 2:=⟨_,rfl⟩;rw[←hh]at hmid h4;have hhj:h<j:=by omega
 obtain⟨e,he⟩:∃e,l[h]?=some e:=⟨_,List.getElem?_eq_getElem (by omega)⟩
 have hle:(l[h]?).any (ltV n)=decide (cmpI e.rev n<0):=by rw[he];exact(Ads e.rev n).symm
 have hw:IntKind.i64.wrap ((h:Int)+1)=((h+1:Nat):Int):=Dk (n:=1000000) (by omega) (by simp only[maxLen];omega)
 rw[hle]at h4;by_cases hc:cmpI e.rev n<0
 ·have hb:¬decide (cmpI e.rev n<0)=false:=by simp[hc]
  rw[if_pos (by simpa using hc)]at h4
  repeat'((conv=>whnf);first|((with_reducible refine Ax (by(with_reducible exact Bool.of_not_eq_false (by assumption))) (fun hb=>?_));(try rw[hb]);(try simp only[Aa]at hb))|((with_reducible refine Exists.intro ?_ ?_);focus (and_intros<;>first|omega|kernel_rfl|(intro _ hh;cases hh;done)|(simp;done)|decide))|((try dsimp only);rw[hmid])|((try dsimp only);(rw[B6 he]))|((with_reducible refine CallWp.mk ?_);refine⟨_,Gx _ _,?_⟩;rintro _ _ ⟨rfl,rfl⟩)|(skip;rw[hw]))
  all_goals(try(conv=>whnf))
  refine Round.by (g,h+1,j) ?_ ⟨by dsimp only;omega,h2,by dsimp only;omega,h4⟩ (by dsimp only;omega)
  dsimp only;show norm _ _=upd _ _
  kernel_rfl
 ·have hb:¬decide (cmpI e.rev n<0)=true:=by simp[hc]
  rw[if_neg (by simpa using hc)]at h4
  repeat'((conv=>whnf);first|((with_reducible refine Ax (by(with_reducible exact Bool.of_not_eq_false (by assumption))) (fun hb=>?_));(try rw[hb]);(try simp only[Aa]at hb))|((with_reducible refine Aw (by(with_reducible exact Bool.of_not_eq_true (by assumption))) (fun hb=>?_));(try rw[hb]);(try simp only[Aa]at hb))|((with_reducible refine Exists.intro ?_ ?_);focus (and_intros<;>first|omega|kernel_rfl|(intro _ hh;cases hh;done)|(simp;done)|decide))|((try dsimp only);rw[hmid])|((try dsimp only);(rw[B6 he]))|((with_reducible refine CallWp.mk ?_);refine⟨_,Gx _ _,?_⟩;rintro _ _ ⟨rfl,rfl⟩))
  all_goals(try(conv=>whnf))
  refine Round.by (g,i,h) ?_ ⟨by dsimp only;omega,by dsimp only;omega,by dsimp only;omega,h4⟩ (by dsimp only;omega)
  dsimp only;show norm _ _=upd _ _
  kernel_rfl
theorem Cf(l:List I)(h:∀u∈l,u.size=4)(hl:l.length≤100000):Fn Tryd.prog Ay [.v (.list l)] (Is (.vec Bb 4 l) [.no]):=by
 refine Ar ?_ (by simp)
 repeat'((conv=>whnf);first|((with_reducible refine And.intro (fun hb=>?_) (fun hb=>?_))<;>(((try rw[hb]);(try subst hb))))|((with_reducible refine Exists.intro ?_ ?_);focus (and_intros<;>first|omega|(with_reducible rfl)|(simp only[LENS];omega)|(simp;done)))|(with_reducible intro hfact))
 all_goals(try(conv=>whnf))
 ·refine Done.mk ⟨congrArg (fun l=>SV.vec Bb 4 l) ?_,by kernel_rfl⟩ (by kernel_rfl)
  exact(hfact rfl).symm
 ·exact Done.mk ⟨congrArg (fun l=>SV.vec Bb 4 l) (List.nil_append _),by kernel_rfl⟩ (by kernel_rfl)

abbrev Pq:=(Nat × SV) × (Nat × SV)
def N1(c:Nat × (Nat × SV)):List Rd→List Pq
 | []=>[]
 | .all _::r=>N1 c r
 | .prj i f o::r=>match Nat.beq i c.1 with
   |true=>(f c.2.1 c.2.2,o)::N1 c r
   |false=>N1 c r
def Qw:Log→List Rd→List Pq
 | [],_=>[]
 |c::L,R=>N1 c R++Qw L R
def P1(rd:Rd):List Rec→List Pq
 | []=>[]
 |e::r=>Qw e.L [rd]++P1 rd r
def badP:Pq:=((0,.no),(1,.no))
abbrev Eqs(l:List Pq):Prop:=∀p∈l,p.1=p.2
theorem Eqs.of:∀{l:List Pq},l.map Prod.fst=l.map Prod.snd→Eqs l
 | [],_=>by intro p hp;cases hp
 |q::l,h=>by
  simp only[List.map_cons,List.cons.injEq]at h;intro p hp;rcases List.mem_cons.1 hp with rfl|hp
  ·exact h.1
  ·exact Eqs.of h.2 p hp
theorem Jn{c:Nat × (Nat × SV)}:∀{R:List Rd},Eqs (N1 c R)→Sj c R
 | [],_=>trivial
 | .all _::r,h=>Jn (R:=r) h
 | .prj i f o::r,h=>by
   simp only[N1]at h;simp only[Sj];cases hb:Nat.beq i c.1 with
   |true=>
    rw[hb]at h;exact⟨h _ (List.mem_cons_self ..),Jn (R:=r) fun p hp=>h p (List.mem_cons_of_mem _ hp)⟩
   |false=>
    rw[hb]at h;exact⟨trivial,Jn (R:=r) h⟩
theorem K7:∀{L:Log} {R:List Rd},Eqs (Qw L R)→Ls L R
 | [],_,_=>trivial
 |c::L,R,h=>⟨Jn fun p hp=>h p (List.mem_append_left _ hp),K7 fun p hp=>h p (List.mem_append_right _ hp)⟩
def okC(d e:Rec):Bool:=Lf (slots d.L) (slots e.L)&&Lf (slots d.L) (fulls e.R)&&Lf (slots e.L) (fulls d.R)
def Re(d:Rec)(m:Nat):Nat→List Rec→Bool
 |n+1,e::r=>(m.testBit n||okC d e)&&Re d m n r
 |_,_=>true
def okV(n:Nat)(rp:List Rec):List Rec→List Nat→Bool
 | [],_=>true
 |d::r,m::ms=>Re d m n rp&&okV (n+1) (d::rp) r ms
 |_::_,[]=>false
def Hy(d:Rec)(m:Nat):Nat→List Rec→List Pq
 |n+1,e::r=>match m.testBit n with
  |true=>Hy d m n r
  |false=>Qw d.L e.R++Hy d m n r
 |_,_=>[]
def Ug(n:Nat)(rp:List Rec):List Rec→List Nat→List Pq
 | [],_=>[]
 |d::r,m::ms=>Hy d m n rp++Ug (n+1) (d::rp) r ms
 |_::_,[]=>[]
def offV(y m:Nat):Nat→List Rec→Bool
 |n+1,e::r=>(m.testBit n|| !(slots e.L).contains y)&&offV y m n r
 |_,_=>true
def F3(st0:St)(n:Nat)(rp:List Rec)(m:Nat):List Rd→List Pq
 | []=>[]
 | .all _::r=>F3 st0 n rp m r
 | .prj y f o::r=>match offV y m n rp with
   |true=>F3 st0 n rp m r
   |false=>(match st0[y]? with
    |some c=>(f c.1 c.2,o)
    |none=>badP)::(P1 (.prj y f o) rp++F3 st0 n rp m r)
def Uf(st0:St)(n:Nat)(rp:List Rec):List Rec→List Nat→List Pq
 | [],_=>[]
 |d::r,m::ms=>F3 st0 n rp m d.R++Uf st0 (n+1) (d::rp) r ms
 |_::_,[]=>[]
theorem Rf{d e:Rec}{m:Nat}:∀{l:List Rec} {k:Nat},N2 d m k (l++[e])=(N2 d m k l&&(m.testBit (k+l.length)||okC d e))
 | [],k=>by simp[N2,okC]
 |x::l,k=>by
  simp only[List.cons_append,N2,List.length_cons];rw[Rf (l:=l) (k:=k+1),show k+1+l.length=k+(l.length+1)by omega]
  simp only[Bool.and_assoc]
theorem S4{d:Rec}{m:Nat}:∀{rp:List Rec},Re d m rp.length rp=N2 d m 0 rp.reverse
 | []=>rfl
 |e::r=>by
  simp only[List.length_cons,Re,List.reverse_cons];rw[Rf,S4 (rp:=r),Nat.zero_add,List.length_reverse,Bool.and_comm]
theorem Ab3:∀{ds rp:List Rec} {ms:List Nat},okV rp.length rp ds ms=Pc rp.reverse ds ms
 | [],_,_=>by simp[okV,Pc]
 |_::_,_,[]=>rfl
 |d::r,rp,m::ms=>by
  simp only[okV,Pc];rw[S4, ←List.reverse_cons, ←Ab3 (rp:=d::rp)];rfl
theorem H0{d e:Rec}{m:Nat}:∀{l:List Rec} {k:Nat},L9 d m k l→(m.testBit (k+l.length)=false→Ls d.L e.R)→L9 d m k (l++[e])
 | [],k,_,h=>by
   simp only[List.nil_append,L9];refine⟨?_,trivial⟩;cases hb:m.testBit k with
   |true=>trivial
   |false=>exact h hb
 |x::l,k,h1,h2=>by
  simp only[List.cons_append,L9]at h1 ⊢;exact⟨h1.1,H0 h1.2 fun hb=>h2 (by rwa [List.length_cons,show k+(l.length+1)=k+1+l.length by omega])⟩
theorem Hz{d:Rec}{m:Nat}:∀{rp:List Rec},Eqs (Hy d m rp.length rp)→L9 d m 0 rp.reverse
 | [],_=>trivial
 |e::r,h=>by
  simp only[List.length_cons,Hy]at h;rw[List.reverse_cons];cases hb:m.testBit r.length with
  |true=>
   rw[hb]at h;exact H0 (Hz (rp:=r) h) fun hb'=>by rw[Nat.zero_add,List.length_reverse,hb]at hb';cases hb'
  |false=>
   rw[hb]at h;exact H0 (Hz (rp:=r) fun p hp=>h p (List.mem_append_right _ hp)) fun _=>K7 fun p hp=>h p (List.mem_append_left _ hp)
theorem Sx:∀{ds rp:List Rec} {ms:List Nat},okV rp.length rp ds ms=true→Eqs (Ug rp.length rp ds ms)→P7 rp.reverse ds ms
 | [],_,_,_,_=>trivial
 |_::_,_,[],h,_=>by cases h
 |d::r,rp,m::ms,hk,h=>by
  simp only[okV,Bool.and_eq_true]at hk;refine⟨Hz fun p hp=>h p (List.mem_append_left _ hp),?_⟩
  rw[←List.reverse_cons];exact Sx (rp:=d::rp) hk.2 fun p hp=>h p (List.mem_append_right _ hp)
theorem Ng{y m:Nat}{e:Rec}:∀{l:List Rec} {k:Nat},K9 y m k (l++[e])=(K9 y m k l&&(m.testBit (k+l.length)|| !(slots e.L).contains y))
 | [],k=>by simp[K9]
 |x::l,k=>by
  simp only[List.cons_append,K9,List.length_cons];rw[Ng (l:=l) (k:=k+1),show k+1+l.length=k+(l.length+1)by omega]
  simp only[Bool.and_assoc]
theorem Yi{y m:Nat}:∀{rp:List Rec},offV y m rp.length rp=K9 y m 0 rp.reverse
 | []=>rfl
 |e::r=>by
  simp only[List.length_cons,offV,List.reverse_cons];rw[Ng,Yi (rp:=r),Nat.zero_add,List.length_reverse,Bool.and_comm]
theorem M5{rd:Rd}{e:Rec}:∀{l:List Rec},Ms rd l→Ls e.L [rd]→Ms rd (l++[e])
 | [],_,h=>⟨h,trivial⟩
 |x::l,h1,h2=>⟨h1.1,M5 h1.2 h2⟩
theorem M4{rd:Rd}:∀{rp:List Rec},Eqs (P1 rd rp)→Ms rd rp.reverse
 | [],_=>trivial
 |e::r,h=>by
  rw[List.reverse_cons];exact M5 (M4 fun p hp=>h p (List.mem_append_right _ hp)) (K7 fun p hp=>h p (List.mem_append_left _ hp))
theorem Fg{st0:St}{rp:List Rec}{m:Nat}:∀{R:List Rd},Eqs (F3 st0 rp.length rp m R)→Mq st0 rp.reverse m R
 | [],_=>trivial
 | .all _::r,h=>Fg (R:=r) h
 | .prj y f o::r,h=>by
   simp only[F3,Yi]at h;simp only[Mq];cases hb:K9 y m 0 rp.reverse with
   |true=>
    rw[hb]at h;exact⟨trivial,Fg (R:=r) h⟩
   |false=>
    rw[hb]at h;have h1:=h _ (List.mem_cons_self ..);refine⟨⟨?_,M4 fun p hp=>h p (List.mem_cons_of_mem _ (List.mem_append_left _ hp))⟩,Fg fun p hp=>h p (List.mem_cons_of_mem _ (List.mem_append_right _ hp))⟩
    cases hs:st0[y]? with
    |some c=>rw[hs]at h1;exact h1
    |none=>rw[hs]at h1;simp[badP]at h1
theorem Sr{st0:St}:∀{ds rp:List Rec} {ms:List Nat},okV rp.length rp ds ms=true→Eqs (Uf st0 rp.length rp ds ms)→P3 st0 rp.reverse ds ms
 | [],_,_,_,_=>trivial
 |_::_,_,[],h,_=>by cases h
 |d::r,rp,m::ms,hk,h=>by
  simp only[okV,Bool.and_eq_true]at hk;refine⟨Fg fun p hp=>h p (List.mem_append_left _ hp),?_⟩
  rw[←List.reverse_cons];exact Sr (rp:=d::rp) hk.2 fun p hp=>h p (List.mem_append_right _ hp)
theorem Drawn.mkV{st0:St}{ms:List Nat}{Q:St→Prop}{ds:List Rec}{st:St}(h:okV 0 [] ds ms=true)(h2:(Ug 0 [] ds ms).map Prod.fst=(Ug 0 [] ds ms).map Prod.snd)
 (h3:(Uf st0 0 [] ds ms).map Prod.fst=(Uf st0 0 [] ds ms).map Prod.snd) (hq:(∀d∈ds,∀p∈d.F,p)→Q st):Drawn st0 ms Q ds st:=
 ⟨by rw[←show okV 0 [] ds ms=Pc [] ds ms from Ab3 (rp:=[])];exact h,Sx (rp:=[]) h (Eqs.of h2),Sr (rp:=[]) h (Eqs.of h3),hq⟩

open Go.Proofs
def Hld.toD(h:Hld):D:=.st [.it (.str h.at_),.vec Bb 4 ((h.vs.map Ver.toI).map D.it)]
def Sto.toD(s:Sto):D:=.st [.map (s.sp.map fun x=>.str x.1) (s.sp.map fun x=>.ptr (.it x.2.toI)),.vec Dr 2 (s.l.map Hld.toD)]
abbrev sP(s:Sto):SV:=.own [] (.ptr s.toD)
theorem Hld.toD_I(h:Hld):h.toD.toI=some h.toI:=by
 simp only[Hld.toD,Hld.toI,D.toI,toIs,Ad]
theorem U8(l:List Hld):toIs (l.map Hld.toD)=some (l.map Hld.toI):=Vg Hld.toD_I l
theorem E5{α:Type}(f:α→Az)(k:Az):∀(l:List α) (i:Nat),Lo k (l.map fun x=>.str (f x)) i=some ((l.findIdx? (fun x=>decide (f x=k))).map (· +i))
 | [],i=>by simp[Lo]
 |x::l,i=>by
  simp only[List.map_cons,Lo,List.findIdx?_cons];by_cases h:f x=k
  ·simp[h]
  ·rw[if_neg h,E5 f k l (i+1)];simp only[h,decide_false,Bool.false_eq_true,if_false,Option.map_map]
   congr 2
   funext a;simp only[Function.comp];omega
def Sto.fi(s:Sto)(n:Az):Option Nat:=s.sp.findIdx? fun x=>decide (x.1=n)
def tal0:Tal:=⟨0,0,0,0,0⟩
def Sto.tal(s:Sto)(n:Az):Tal:=((s.sp.find? fun x=>decide (x.1=n)).map (·.2)).getD tal0
theorem Sto.fi_none{s:Sto}{n:Az}(h:s.fi n=none):Lo n (s.sp.map fun x=>.str x.1) 0=some none∧s.tal n=tal0:=by
 refine⟨by rw[E5 (fun x:Az × Tal=>x.1)];unfold Sto.fi at h;rw[h];rfl,?_⟩
 unfold Sto.fi at h;rw[List.findIdx?_eq_none_iff]at h;unfold Sto.tal;rw[List.find?_eq_none.2 (by simpa using h)]
 rfl
theorem Sto.fi_some{s:Sto}{n:Az}{i:Nat}(h:s.fi n=some i):Lo n (s.sp.map fun x=>.str x.1) 0=some (some i)∧(s.sp.map fun x=>D.ptr (.it x.2.toI))[i]?=some (.ptr (.it (s.tal n).toI))∧s.sp[i]?=some (n,s.tal n):=by
 have h0:=h;unfold Sto.fi at h;have hs:s.sp[i]?=some (n,s.tal n):=by
  obtain⟨hi,h1,h2⟩:=List.findIdx?_eq_some_iff_getElem.1 h;have hf:s.sp.find? (fun x=>decide (x.1=n))=some s.sp[i]:=by
   rw[List.find?_eq_some_iff_getElem];exact⟨h1,i,hi,rfl,fun j hj=>by simpa using h2 j hj⟩
  rw[List.getElem?_eq_getElem hi];simp only[decide_eq_true_eq]at h1;unfold Sto.tal;rw[hf];show some s.sp[i]=some (n,s.sp[i].2);rw[←h1]
 refine⟨by rw[E5 (fun x:Az × Tal=>x.1),h];rfl,by rw[List.getElem?_map,hs];rfl,hs⟩
theorem Au{N:Nat}{os:List Opd}{st:St}{K:SV→St→Prop}(h:litK (En 23 os st) fun st=>F7 Tryd.prog Mk Kq ⟨FinP 23 N 4 5 K,noEx,FinP 23 N 4 5 K⟩ st)(hn:os.length≤23:=by decide):InlWp Tryd.prog 65 N os st K:=
 InlWp.of_bodyP Tryd.func65 rfl Tryd.ntmps65 (by kernel_rfl) (by kernel_rfl) (by decide) (by decide) hn h
theorem Aj6(s:Sto)(n:Az):Fn Tryd.prog Ag2 [sP s,.v (.str n)] (Is (.v (ti (s.tal n).bytes)) [sP s,.no]):=by
 refine Ag0 ?_ (by simp)
 cases hf:s.fi n with
 |none=>
  obtain⟨h1,h2⟩:=Sto.fi_none hf;rw[h2];repeat'((conv=>whnf);first|((with_reducible refine Ax (by(with_reducible rfl)) (fun hb=>?_));(try rw[hb]);(try simp only[Aa]at hb))|((with_reducible refine Aw (by(with_reducible rfl)) (fun hb=>?_));(try rw[hb]);(try simp only[Aa]at hb))|((with_reducible refine Exists.intro ?_ ?_);focus (and_intros<;>first|omega|(with_reducible rfl)|kernel_rfl|(simp;done)))|((refine Au ?_))|(((with_reducible apply A9));(focus (simp only[D.at,D.put,D.kid,D.setKid,mkSt,Jo,D.toI,toIs,Ad,Af,h1,Sto.toD]<;>exact rfl))))
  all_goals(try(conv=>whnf))
  (apply dKq<;>kernel_rfl)
 |some i=>
  obtain⟨h1,h2,h3⟩:=Sto.fi_some hf;repeat'((conv=>whnf);first|((with_reducible refine Ax (by(with_reducible rfl)) (fun hb=>?_));(try rw[hb]);(try simp only[Aa]at hb))|((with_reducible refine Exists.intro ?_ ?_);focus (and_intros<;>first|omega|(with_reducible rfl)|kernel_rfl|(simp;done)))|((with_reducible refine And.intro ?_ ?_);focus (decide))|((refine Au ?_))|(((with_reducible apply A9));(focus (simp only[D.at,D.put,D.kid,D.setKid,mkSt,Jo,D.toI,toIs,Ad,Af,h1,h3,Sto.toD,Tal.toI]<;>exact rfl)))|(((with_reducible apply A3));(focus rfl);(focus (simp only[D.at,D.put,D.kid,D.setKid,mkSt,Jo,D.toI,toIs,Ad,Af,h1,h3,Sto.toD,Tal.toI]<;>exact rfl));(try(focus exact rfl))))
  all_goals(try(conv=>whnf))
  (apply dKq<;>kernel_rfl)
theorem E6(s:Sto)(n:Az):Fn Tryd.prog A6 [sP s,.v (.str n)] (Is (.v (ti (s.tal n).vers)) [sP s,.no]):=by
 refine Cy ?_ (by simp)
 cases hf:s.fi n with
 |none=>
  obtain⟨h1,h2⟩:=Sto.fi_none hf;rw[h2];repeat'((conv=>whnf);first|((with_reducible refine Ax (by(with_reducible rfl)) (fun hb=>?_));(try rw[hb]);(try simp only[Aa]at hb))|((with_reducible refine Aw (by(with_reducible rfl)) (fun hb=>?_));(try rw[hb]);(try simp only[Aa]at hb))|((with_reducible refine Exists.intro ?_ ?_);focus (and_intros<;>first|omega|(with_reducible rfl)|kernel_rfl|(simp;done)))|((refine Au ?_))|(((with_reducible apply A9));(focus (simp only[D.at,D.put,D.kid,D.setKid,mkSt,Jo,D.toI,toIs,Ad,Af,h1,Sto.toD]<;>exact rfl))))
  all_goals(try(conv=>whnf))
  (apply dKq<;>kernel_rfl)
 |some i=>
  obtain⟨h1,h2,h3⟩:=Sto.fi_some hf;repeat'((conv=>whnf);first|((with_reducible refine Ax (by(with_reducible rfl)) (fun hb=>?_));(try rw[hb]);(try simp only[Aa]at hb))|((with_reducible refine Exists.intro ?_ ?_);focus (and_intros<;>first|omega|(with_reducible rfl)|kernel_rfl|(simp;done)))|((with_reducible refine And.intro ?_ ?_);focus (decide))|((refine Au ?_))|(((with_reducible apply A9));(focus (simp only[D.at,D.put,D.kid,D.setKid,mkSt,Jo,D.toI,toIs,Ad,Af,h1,h3,Sto.toD,Tal.toI]<;>exact rfl)))|(((with_reducible apply A3));(focus rfl);(focus (simp only[D.at,D.put,D.kid,D.setKid,mkSt,Jo,D.toI,toIs,Ad,Af,h1,h3,Sto.toD,Tal.toI]<;>exact rfl));(try(focus exact rfl))))
  all_goals(try(conv=>whnf))
  (apply dKq<;>kernel_rfl)

open Go.Proofs
def verN:Ver:=⟨0,0,[],false⟩
def Un(vs:List Ver):Nat→Ver × Bool
 |0=>(verN,false)
 |i+1=>match vs[i]? with
  |some v=>if v.gone=true then(verN,false)else(v,true)
  |none=>(verN,false)
def D1(vs:List Ver)(rev:Int):Ver × Bool:=Un vs (Km (ltV (rev+1)) vs)
theorem Ns(a:Az)(vs:List Ver)(rev:Int)(hr: -1≤rev∧rev≤9000000000000000000)(hl:vs.length≤100000):
 Fn Tryd.prog Ky [.v (.agg [.str a,.list (vs.map Ver.toI)]),.v (ti rev)] (Is (.tup [.i (D1 vs rev).1.toI,.i (.bool (D1 vs rev).2)]) [.no,.no]):=by
 refine Kn ?_ (by simp)
 have hw:IntKind.i64.wrap (rev+1)=rev+1:=Bf (by omega)
 have hbs:=Aay vs (rev+1) hl;have hle:=Hp (ltV (rev+1)) vs;obtain⟨A,hA⟩:∃A,A=Km (ltV (rev+1)) vs:=⟨_,rfl⟩;obtain⟨B,hB⟩:∃B,B=bsF (ltV (rev+1)) (eqV (rev+1)) vs:=⟨_,rfl⟩;have hM:D1 vs rev=Un vs A:=by rw[hA];rfl
 rw[←hA, ←hB]at hbs;rw[←hA]at hle;rw[hM];cases A with
 |zero=>
  have h0:¬decide (((0:Nat):Int)=0)=false:=by simp
  repeat'((conv=>whnf);first|((with_reducible refine Ax (by first|(with_reducible exact Bool.of_not_eq_false (by assumption))|(with_reducible rfl)) (fun hb=>?_));(try rw[hb]);(try simp only[Aa]at hb))|((with_reducible refine Exists.intro ?_ ?_);focus (and_intros<;>first|omega|kernel_rfl|(intro _ hh;cases hh;done)|(simp;done)|decide))|((try dsimp only);rw[hw])|((with_reducible refine CallWp.mk ?_);refine⟨_,hbs,?_⟩;rintro _ _ ⟨rfl,rfl⟩))
  all_goals(try(conv=>whnf))
  (apply dKq<;>kernel_rfl)
 |succ i=>
  obtain⟨v,hv⟩:∃v,vs[i]?=some v:=⟨_,List.getElem?_eq_getElem (by omega)⟩
  have h0:¬decide (((i+1:Nat):Int)=0)=true:=by simp;omega
  have hw2:IntKind.i64.wrap (((i+1:Nat):Int) - 1)=(i:Int):=by rw[Bf (by omega)];omega
  have hN:Un vs (i+1)=if v.gone=true then(verN,false)else(v,true):=by simp only[Un,hv]
  rw[hN];cases hg:v.gone with
  |true=>
   repeat'((conv=>whnf);first|((with_reducible refine Ax (by(with_reducible assumption)) (fun hb=>?_));(try rw[hb]))|((with_reducible refine Aw (by first|(with_reducible exact Bool.of_not_eq_true (by assumption))|(with_reducible rfl)) (fun hb=>?_));(try rw[hb]);(try simp only[Aa]at hb))|((with_reducible refine Exists.intro ?_ ?_);focus (and_intros<;>first|omega|kernel_rfl|(intro _ hh;cases hh;done)|(simp;done)|decide))|((try dsimp only);rw[hw])|((with_reducible refine CallWp.mk ?_);refine⟨_,hbs,?_⟩;rintro _ _ ⟨rfl,rfl⟩)|((try dsimp only);rw[hw2])|(skip;(rw[B6 hv])))
   all_goals(try(conv=>whnf))
   (apply dKq<;>kernel_rfl)
  |false=>
   repeat'((conv=>whnf);first|((with_reducible refine Aw (by first|(with_reducible assumption)|(with_reducible exact Bool.of_not_eq_true (by assumption))|(with_reducible rfl)) (fun hb=>?_));(try rw[hb]);(try simp only[Aa]at hb))|((with_reducible refine Exists.intro ?_ ?_);focus (and_intros<;>first|omega|kernel_rfl|(intro _ hh;cases hh;done)|(simp;done)|decide))|((try dsimp only);rw[hw])|((with_reducible refine CallWp.mk ?_);refine⟨_,hbs,?_⟩;rintro _ _ ⟨rfl,rfl⟩)|((try dsimp only);rw[hw2])|(skip;(rw[B6 hv])))
   all_goals(try(conv=>whnf))
   (apply dKq<;>kernel_rfl)
end Go.Ab
