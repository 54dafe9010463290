/- Lemmas -/
import Derived.Test.YtkpojedpcabojaaGreatDoorWR
set_option linter.unusedVariables false
set_option linter.unusedSimpArgs false
namespace Go.Ab
abbrev ti(n:Int):I:=.int .i64 n
structure Fk where
 rev:Int
 made:Int
 val:Az
 gone:Bool
 deriving DecidableEq,Inhabited
def Fk.Bx(v:Fk):I:=.agg [ti v.rev,ti v.made,.str v.val,.bool v.gone]
structure Zk where
 at_:Az
 vs:List Fk
 deriving DecidableEq,Inhabited
def Zk.Bx(h:Zk):I:=.agg [.str h.at_,.list (h.vs.map Fk.Bx)]
structure Tal where
 rev:Int
 floor:Int
 bytes:Int
 keys:Int
 Aq7:Int
 deriving DecidableEq,Inhabited
def Tal.Bx(t:Tal):I:=.agg [ti t.rev,ti t.floor,ti t.bytes,ti t.keys,ti t.Aq7]
structure Cn where
 sp:List (Az × Tal)
 l:List Zk
 deriving DecidableEq,Inhabited
structure Ef where
 key:Az
 val:Az
 gone:Bool
 deriving DecidableEq,Inhabited
def Ef.Bx(c:Ef):I:=.agg [.str c.key,.str c.val,.bool c.gone]
structure Pr where
 key:Az
 val:Az
 made:Int
 rev:Int
 deriving DecidableEq,Inhabited
def Pr.Bx(p:Pr):I:=.agg [.str p.key,.str p.val,ti p.made,ti p.rev]
structure Kv where
 key:Az
 vs:List Fk
 deriving DecidableEq,Inhabited
def Kv.Bx(h:Kv):I:=.agg [.str h.key,.list (h.vs.map Fk.Bx)]
structure Spc where
 name:Az
 rev:Int
 floor:Int
 keys:List Kv
 deriving DecidableEq,Inhabited
def Spc.Bx(p:Spc):I:=.agg [.str p.name,ti p.rev,ti p.floor,.list (p.keys.map Kv.Bx)]
theorem Fk.size(v:Fk):v.Bx.size=4:=rfl
theorem Zk.size(h:Zk):h.Bx.size=2:=rfl
theorem Ef.size(h:Ef):h.Bx.size=3:=rfl
theorem Kv.size(h:Kv):h.Bx.size=2:=rfl
theorem Spc.size(h:Spc):h.Bx.size=4:=rfl
theorem Pr.size(h:Pr):h.Bx.size=4:=rfl
def B7(n k:Az):Az:=UInt8.ofNat (n.length % 256)::n++k
def C1:Az→Az × Az × Bool
 | []=>([],[],false)
 |c::r=>if r.length<c.toNat then([],[],false)else(r.take c.toNat,r.drop c.toNat,true)
theorem Mt{n k:Az}(h:n.length<256):C1 (B7 n k)=(n,k,true):=by
 unfold B7 C1;have h1:(UInt8.ofNat (n.length % 256)).toNat=n.length:=by
  rw[UInt8.toNat_ofNat'];omega
 simp only[H3,h1,Hq];rw[if_neg (by omega),Amq,Aog]
def Awj(lt:Nat→Bool):Nat→Nat→Nat→Nat
 |0,i,_=>i
 |f+1,i,j=>if i<j then(if lt ((i+j) / 2)then Awj lt f ((i+j) / 2+1) j else Awj lt f i ((i+j) / 2))else i
theorem K0(lt:Nat→Bool):∀f i j,i≤j→i≤Awj lt f i j∧Awj lt f i j≤j
 |0,i,j,h=>⟨Bz _,h⟩
 |f+1,i,j,h=>by
  unfold Awj;split
  ·split
   ·have:=K0 lt f ((i+j) / 2+1) j (by omega);omega
   ·have:=K0 lt f i ((i+j) / 2) (by omega);omega
  ·omega
def Km{α:Type}(lt:α→Bool)(l:List α):Nat:=Awj (fun h=>(l[h]?).any lt) l.length 0 l.length
def bsF{α:Type}(lt eq:α→Bool)(l:List α):Bool:=(l[Km lt l]?).any eq
theorem Hp{α:Type}(lt:α→Bool)(l:List α):Km lt l≤l.length:=(K0 _ _ _ _ (Cr _)).2
theorem Afp{α:Type}{lt eq:α→Bool}{l:List α}(h:bsF lt eq l=true):∃x,l[Km lt l]?=some x∧eq x=true:=by
 unfold bsF at h;cases hx:l[Km lt l]? with
 |none=>rw[hx]at h;cases h
 |some x=>rw[hx]at h;exact⟨x,rfl,by simpa using h⟩
theorem Abw{i j:Nat}(h:i+j≤9223372036854775807):IntKind.i64.wrap (Bfe .u64 (IntKind.u64.wrap (IntKind.i64.wrap ((i:Int)+(j:Int)))) 1)=(((i+j) / 2:Nat):Int):=by
 have h1:IntKind.i64.wrap ((i:Int)+(j:Int))=((i+j:Nat):Int):=by rw[IntKind.wrap_i64];omega
 have h2:IntKind.u64.wrap ((i+j:Nat):Int)=((i+j:Nat):Int):=by simp[IntKind.wrap,IntKind.bits,IntKind.signed];omega
 rw[h1,h2];have h3:Bfe .u64 ((i+j:Nat):Int) 1=(((i+j) / 2:Nat):Int):=(show Int.fdiv ((i+j:Nat):Int) ((2:Nat):Int)=_ from(Int.ofNat_fdiv _ _).symm);rw[h3,IntKind.wrap_i64];omega
set_option maxRecDepth 100000

open Go.Proofs
theorem Pu(s:Sp):Fn Tryz.prog Us [.v s.Bx] (Is (.v (.bool (decide (SpR s)))) [.no]):=by
 refine T7 ?_ (by simp)
 repeat'((conv=>whnf);first|(with_reducible first|refine Ax (by rfl) fun hb=>?_|refine Aw (by rfl) fun hb=>?_);(try rw[hb]);try simp only[Aa]at hb|(with_reducible refine A5 (fun hb=>?_) fun hb=>?_)<;>(((try rw[hb]);(try simp only[Aa]at hb)))|(with_reducible refine Ac ?_ ?_);focus (and_intros<;>first|omega|with_reducible rfl|kernel_rfl|simp;done)|with_reducible intro Cq)
 all_goals(try(conv=>whnf))
 all_goals(refine Am1.mk ⟨SV.Aju ?_,by kernel_rfl⟩ (by kernel_rfl))
 all_goals(simp[SpR,Kz]at*;grind)
theorem A7f(s:Sp):Fn Tryz.prog A2b [.v s.Bx] (Is (.v (.bool (decide (SpR s)))) [.no]):=by
 refine A0r ?_ (by simp)
 repeat'((conv=>whnf);first|(with_reducible first|refine Ax (by rfl) fun hb=>?_|refine Aw (by rfl) fun hb=>?_);(try rw[hb]);try simp only[Aa]at hb|(with_reducible refine A5 (fun hb=>?_) fun hb=>?_)<;>(((try rw[hb]);(try simp only[Aa]at hb)))|(with_reducible refine Ac ?_ ?_);focus (and_intros<;>first|omega|with_reducible rfl|kernel_rfl|simp;done)|with_reducible intro Cq)
 all_goals(try(conv=>whnf))
 all_goals(refine Am1.mk ⟨SV.Aju ?_,by kernel_rfl⟩ (by kernel_rfl))
 all_goals(simp[SpR,Kz]at*;grind)
theorem Bfk(s:Sp)(k:Az):Fn Tryz.prog A2w [.v s.Bx,.v (.str k)] (Is (.v (.bool (decide (Bw s k)))) [.no,.no]):=by
 refine A2o ?_ (by simp)
 repeat'((conv=>whnf);first|(with_reducible first|refine Ax (by rfl) fun hb=>?_|refine Aw (by rfl) fun hb=>?_);(try rw[hb]);try simp only[Aa]at hb|(with_reducible refine A5 (fun hb=>?_) fun hb=>?_)<;>(((try rw[hb]);(try simp only[Aa]at hb)))|(with_reducible refine Ac ?_ ?_);focus (and_intros<;>first|omega|kernel_rfl|simp;done))
 all_goals(try(conv=>whnf))
 all_goals(refine Am1.mk ⟨SV.Aju ?_,by kernel_rfl⟩ (by kernel_rfl))
 all_goals(simp[Bw,Kz]at*;grind)
theorem Aa0(k:Az):Fn Tryz.prog Mp [.v (.str k)] (Is (.v (.bool false)) [.no]):=by
 refine Mn ?_ (by simp)
 (skip)
 all_goals(try(conv=>whnf))
 exact Am1.mk ⟨SV.Aju (by simp),by kernel_rfl⟩ (by kernel_rfl)
def Azg(a b:Az):Int:=if a<b then -1 else if b<a then 1 else 0
theorem Ww(a b:Az):Fn Tryz.prog Kw [.v (.str a),.v (.str b)] (Is (.v (.int .i64 (Azg a b))) [.no,.no]):=by
 refine Kk ?_ (by simp)
 repeat'((conv=>whnf);first|(with_reducible refine Aw (by first|assumption|rfl) fun hb=>?_);(try rw[hb]);try simp only[Aa]at hb|(with_reducible refine A5 (fun hb=>?_) fun hb=>?_)<;>(((try rw[hb]);(try simp only[Aa]at hb)))|(with_reducible refine Ac ?_ ?_);focus (and_intros<;>first|intro _ hh;cases hh;done|simp;done|decide)|(with_reducible refine Ct.mk ?_);refine⟨_,Aa0 _,?_⟩;rintro _ _ ⟨rfl,rfl⟩)
 all_goals(try(conv=>whnf))
 all_goals(refine Am1.mk ⟨congrArg (fun n=>SV.v (.int .i64 n)) ?_,by kernel_rfl⟩ (by kernel_rfl))
 all_goals(simp[Azg,Kz]at* <;>grind)
theorem Tu(s:Sp)(k:Az):Fn Tryz.prog Za [.v s.Bx,.v (.str k)] (Is (.v (.bool (decide (Bw s k)))) [.no,.no]):=by
 refine Xo ?_ (by simp)
 repeat'((conv=>whnf);first|(with_reducible first|refine Ax (by rfl) fun hb=>?_|refine Aw (by rfl) fun hb=>?_);(try rw[hb]);try simp only[Aa]at hb|(with_reducible refine A5 (fun hb=>?_) fun hb=>?_)<;>(((try rw[hb]);(try simp only[Aa]at hb)))|(with_reducible refine Ac ?_ ?_);focus (and_intros<;>first|omega|kernel_rfl|simp;done))
 all_goals(try(conv=>whnf))
 all_goals(refine Am1.mk ⟨SV.Aju ?_,by kernel_rfl⟩ (by kernel_rfl))
 all_goals(simp[Bw,Kz]at*;grind)
theorem Ary(k:Az)(h:k.length≤100000):Fn Tryz.prog Am0 [.v (.str k)] (Is (.v (⟨k,k++[0]⟩:Sp).Bx) [.no]):=by
 refine Apt ?_ (by simp)
 have h1:k.length+[(0:UInt8)].length≤maxLen:=by simp[maxLen];omega
 repeat'((conv=>whnf);((with_reducible refine Ac ?_ ?_);focus (and_intros<;>first|omega|kernel_rfl)))
 all_goals(try(conv=>whnf))
 exact Am1.mk ⟨rfl,by kernel_rfl⟩ (by kernel_rfl)
set_option maxHeartbeats 40000000

open Go.Proofs
theorem Aaz(k:Az):Fn Tryz.prog Ty [.v (.str k)] (Is (.v (.bool (decide (1≤k.length∧k.length≤64)))) [.no]):=by
 refine Se ?_ (by simp)
 repeat'((conv=>whnf);first|(with_reducible first|refine Ax (by rfl) fun hb=>?_|refine Aw (by rfl) fun hb=>?_);(try rw[hb]);try simp only[Aa]at hb|(with_reducible refine A5 (fun hb=>?_) fun hb=>?_)<;>(((try rw[hb]);(try simp only[Aa]at hb)))|(with_reducible refine Ac ?_ ?_);focus (and_intros<;>(with_reducible rfl))|with_reducible intro Cq)
 all_goals(try(conv=>whnf))
 all_goals(refine Am1.mk ⟨SV.Aju ?_,by kernel_rfl⟩ (by kernel_rfl))
 all_goals(simp only[decide_eq_decide,decide_eq_true_eq,decide_eq_false_iff_not,Bool.false_eq]at*;omega)
theorem Wx(k:Az):Fn Tryz.prog Qn [.v (.str k)] (Is (.v (.bool (decide (k.length≤256)))) [.no]):=by
 refine Qb ?_ (by simp)
 repeat'((conv=>whnf);first|(with_reducible refine Ac ?_ ?_);focus (and_intros<;>(with_reducible rfl))|with_reducible intro Cq)
 all_goals(try(conv=>whnf))
 all_goals(refine Am1.mk ⟨SV.Aju ?_,by kernel_rfl⟩ (by kernel_rfl))
 all_goals(simp only[decide_eq_decide];omega)
theorem L1(n k:Az)(hn:n.length≤100000)(hk:k.length≤100000):Fn Tryz.prog Tw [.v (.str n),.v (.str k)] (Is (.v (.str (B7 n k))) [.no,.no]):=by
 refine Sc ?_ (by simp)
 repeat'((conv=>whnf);first|(with_reducible refine Ac ?_ ?_);focus (and_intros<;>first|omega|with_reducible rfl|kernel_rfl|exact Ah (by rfl)|simp only[An];omega)|with_reducible intro Cq)
 all_goals(try(conv=>whnf))
 refine Am1.mk ⟨?_,by kernel_rfl⟩ (by kernel_rfl)
 show SV.v (.str _)=SV.v (.str _);have h:IntKind.u8.wrap (n.length:Int)=((n.length % 256:Nat):Int):=by simp[IntKind.wrap,IntKind.bits,IntKind.signed]
 rw[h,Anj];rfl
theorem L2(s:Az)(hs:s.length≤1000000):Fn Tryz.prog Tx [.v (.str s)] (Is (.tup [.i (.str (C1 s).1),.i (.str (C1 s).2.1),.i (.bool (C1 s).2.2)]) [.no]):=by
 refine Sd ?_ (by simp)
 cases s with
 |nil=>
  repeat'((conv=>whnf);first|(with_reducible refine Ax (by rfl) fun hb=>?_);(try rw[hb]);try simp only[Aa]at hb|((with_reducible refine A5 (fun hb=>?_) fun hb=>?_)<;>first|exact absurd hb (by decide)|(try rw[hb]);try simp only[Aa]at hb))
  all_goals(try(conv=>whnf))
  (apply Dj<;>kernel_rfl)
 |cons c r=>
  have Cf:¬decide (c::r=[])=true:=by simp
  simp only[Ho]at hs;have hc:=c.toNat_lt;have hw1:IntKind.i64.wrap (c.toNat:Int)=(c.toNat:Int):=Bf (by omega)
  have hw2:IntKind.i64.wrap (1+(c.toNat:Int))=((1+c.toNat:Nat):Int):=by rw[Bf (by omega)];omega
  have hw3:IntKind.i64.wrap (((c::r).length:Int) - 1)=(r.length:Int):=by rw[Ho,Bf (by omega)];omega
  by_cases Ze:r.length<c.toNat
  ·have h1:¬decide ((r.length:Int)<(c.toNat:Int))=false:=by simp;omega
   have hM:C1 (c::r)=([],[],false):=by simp[C1,Ze]
   rw[hM];repeat'((conv=>whnf);first|(with_reducible first|refine Ax (by first|exact Ai (by assumption)|refine decide_eq_true ?_;omega) fun hb=>?_|refine Aw (by first|exact Ak (by assumption)|rfl) fun hb=>?_);(try rw[hb]);try simp only[Aa]at hb|(with_reducible refine Ac ?_ ?_);focus (and_intros<;>first|omega|with_reducible rfl)|with_reducible intro Cq|(try dsimp only);rw[hw1]|skip;rw[hw3])
   all_goals(try(conv=>whnf))
   (apply Dj<;>kernel_rfl)
  ·have h1:¬decide ((r.length:Int)<(c.toNat:Int))=true:=by simp;omega
   have hM:C1 (c::r)=(r.take c.toNat,r.drop c.toNat,true):=by simp[C1,Ze]
   rw[hM];repeat'((conv=>whnf);first|(with_reducible refine Aw (by first|exact Ak (by assumption)|refine decide_eq_false ?_;omega|rfl) fun hb=>?_);(try rw[hb]);try simp only[Aa]at hb|(with_reducible refine Ac ?_ ?_);focus (and_intros<;>first|omega|with_reducible rfl|simp only[An];omega)|with_reducible intro Cq|(with_reducible apply Ai2.by0);(focus kernel_rfl);intro Cq;try simp only[zRL]at Cq|(try dsimp only);rw[hw1]|skip;rw[hw3]|skip;rw[hw2])
   all_goals(try(conv=>whnf))
   refine Am1.mk ⟨?_,by kernel_rfl⟩ (by kernel_rfl)
   show SV.tup [.i (.str _),.i (.str _),_]=_;simp only[Anj,Int.toNat_one,List.take_length];rw[Nat.add_comm 1 c.toNat,List.take_succ_cons,List.drop_succ_cons];rfl
theorem X8(n:Int):Fn Tryz.prog Qm [.v (ti n)] (Is (.v (.bool false)) [.no]):=by
 refine Qa ?_ (by simp)
 (skip)
 all_goals(try(conv=>whnf))
 exact Am1.mk ⟨SV.Aju (by simp),by kernel_rfl⟩ (by kernel_rfl)
def Azf(a b:Int):Int:=if a<b then -1 else if b<a then 1 else 0
theorem Ua(a b:Int):Fn Tryz.prog Pe [.v (ti a),.v (ti b)] (Is (.v (ti (Azf a b))) [.no,.no]):=by
 refine Nd ?_ (by simp)
 repeat'((conv=>whnf);first|(with_reducible refine Aw (by rfl) fun hb=>?_);(try rw[hb]);try simp only[Aa]at hb|(with_reducible refine A5 (fun hb=>?_) fun hb=>?_)<;>(((try rw[hb]);(try simp only[Aa]at hb)))|(with_reducible refine Ac ?_ ?_);focus (and_intros<;>first|intro _ hh;cases hh;done|simp;done|decide)|(with_reducible refine Ct.mk ?_);refine⟨_,X8 _,?_⟩;rintro _ _ ⟨rfl,rfl⟩)
 all_goals(try(conv=>whnf))
 all_goals(refine Am1.mk ⟨congrArg (fun n=>SV.v (.int .i64 n)) ?_,by kernel_rfl⟩ (by kernel_rfl))
 all_goals(simp only[Azf];grind)
theorem Ka(a:Az)(x:I)(hx:x.size=1)(n:Az):Fn Tryz.prog E4 [.v (.agg [.str a,x]),.v (.str n)] (Is (.v (ti (Azg a n))) [.no,.no]):=by
 refine J6 ?_ (by simp)
 repeat'((conv=>whnf);first|(with_reducible refine Ac ?_ ?_);focus (and_intros<;>first|omega|kernel_rfl|intro _ hh;cases hh;done|simp;done|decide)|(with_reducible refine Ct.mk ?_);refine⟨_,Ww _ _,?_⟩;rintro _ _ ⟨rfl,rfl⟩)
 all_goals(try(conv=>whnf))
 exact Am1.mk ⟨rfl,by kernel_rfl⟩ (by kernel_rfl)
theorem Gx(v:Fk)(n:Int):Fn Tryz.prog Ew [.v v.Bx,.v (ti n)] (Is (.v (ti (Azf v.rev n))) [.no,.no]):=by
 refine Jk ?_ (by simp)
 repeat'((conv=>whnf);first|(with_reducible refine Ac ?_ ?_);focus (and_intros<;>first|omega|kernel_rfl|intro _ hh;cases hh;done|simp;done|decide)|(with_reducible refine Ct.mk ?_);refine⟨_,Ua _ _,?_⟩;rintro _ _ ⟨rfl,rfl⟩)
 all_goals(try(conv=>whnf))
 exact Am1.mk ⟨rfl,by kernel_rfl⟩ (by kernel_rfl)

open Go.Proofs
theorem Adt(a b:Az):decide (Azg a b<0)=decide (a<b):=by
 unfold Azg;by_cases h:a<b
 ·simp[h]
 ·by_cases h2:b<a<;>simp[h,h2]
theorem Abe(a b:Az):decide (Azg a b=0)=decide (a=b):=by
 unfold Azg;by_cases h:a<b
 ·have:a≠b:=by rintro rfl;exact absurd h (Af9 a)
  simp[h,this]
 ·by_cases h2:b<a
  ·have:a≠b:=by rintro rfl;exact absurd h2 (Af9 a)
   simp[h,h2,this]
  ·have:a=b:=List.le_antisymm (List.not_lt.1 h2) (List.not_lt.1 h);rw[if_neg h,if_neg h2];simp[this]
theorem Ads(a b:Int):decide (Azf a b<0)=decide (a<b):=by
 unfold Azf;by_cases h:a<b
 ·simp[h]
 ·by_cases h2:b<a<;>simp[h,h2]
theorem Abd(a b:Int):decide (Azf a b=0)=decide (a=b):=by
 unfold Azf;by_cases h:a<b
 ·simp[h];omega
 ·by_cases h2:b<a
  ·simp[h,h2];omega
  ·simp[h,h2];omega
def Kh(n:Az)(h:Zk):Bool:=decide (h.at_<n)
def eqH(n:Az)(h:Zk):Bool:=decide (h.at_=n)
def ltV(n:Int)(v:Fk):Bool:=decide (v.rev<n)
def eqV(n:Int)(v:Fk):Bool:=decide (v.rev=n)
theorem L0(l:List Zk)(n:Az)(hl:l.length≤100000):Fn Tryz.prog Ck [.v (.list (l.map Zk.Bx)),.v (.str n),.v (.fn E4)] (Is (.tup [.i (.int .i64 (Km (Kh n) l)),.i (.bool (bsF (Kh n) (eqH n) l))]) [.no,.no,.no]):=by
 refine Cj ?_ (by simp)
 repeat'((conv=>whnf);first|(with_reducible refine Ac ?_ ?_);focus (and_intros<;>(with_reducible rfl))|with_reducible intro Cq)
 all_goals(try(conv=>whnf))
 obtain⟨A,hA⟩:∃A,A=Km (Kh n) l:=⟨_,rfl⟩;have hAF:bsF (Kh n) (eqH n) l=(l[A]?).any (eqH n):=by rw[hA];rfl
 have Bs1:A≤l.length:=by rw[hA];exact Hp _ _
 rw[hAF, ←hA];unfold Km at hA;refine Afm.by (X:=Nat × Nat × Nat) (fun x=>[(9,.v (.int .i64 x.2.1)),(10,.v (.int .i64 x.2.2))]) (fun x=>x.2.1≤x.2.2∧x.2.2≤l.length∧x.2.2 - x.2.1≤x.1∧Awj (fun h=>(l[h]?).any (Kh n)) x.1 x.2.1 x.2.2=A) (fun x=>x.2.2 - x.2.1)
  (l.length,0,l.length) (by rw[Bh];kernel_rfl) ⟨Cr _,Bz _,Nat.sub_le _ _,hA.symm⟩ ?_
 rintro⟨f,i,j⟩ ⟨h1,h2,h3,h4⟩;dsimp only at h1 h2 h3 h4 ⊢;by_cases hij:i<j
 case neg=>
  have Ze:¬decide ((i:Int)<(j:Int))=true:=by simp;omega
  obtain rfl:i=A:=by
   rw[←h4];cases f with
   |zero=>rfl
   |succ f=>rw[Awj,if_neg hij]
  by_cases hil:i<l.length
  ·obtain⟨e,he⟩:∃e,l[i]?=some e:=⟨_,Ae hil⟩;have hl2:¬decide ((i:Int)<((l.map Zk.Bx).length:Int))=false:=by simp[hil]
   have hl3:¬decide ((i:Int)<(l.length:Int))=false:=by simp[hil]
   rw[he];simp only[Option.any_some];repeat'((conv=>whnf);first|(with_reducible first|refine Ax (by first|exact Ai (by assumption)|rfl) fun hb=>?_|refine Aw (by exact Ak (by assumption)) fun hb=>?_);(try rw[hb]);try simp only[Aa]at hb|(with_reducible refine Ac ?_ ?_);focus (and_intros<;>first|omega|kernel_rfl|intro _ hh;cases hh;done|simp;done|decide)|(try dsimp only);rw[B6 he]|(with_reducible refine Ct.mk ?_);refine⟨_,Ka _ _ rfl _,?_⟩;rintro _ _ ⟨rfl,rfl⟩)
   all_goals(try(conv=>whnf))
   refine Am1.mk ⟨?_,by kernel_rfl⟩ (by kernel_rfl)
   rw[show eqH n e=decide (Azg e.at_ n=0)from(Abe e.at_ n).symm];rfl
  ·have hl2:¬decide ((i:Int)<((l.map Zk.Bx).length:Int))=true:=by simp;omega
   have hl3:¬decide ((i:Int)<(l.length:Int))=true:=by simp;omega
   rw[Aic (by omega)]
   simp only[Option.any_none];repeat'((conv=>whnf);((with_reducible refine Aw (by first|(with_reducible exact Ak (by assumption))|(with_reducible rfl)) fun hb=>?_);(try rw[hb]);(try simp only[Aa]at hb)))
   all_goals(try(conv=>whnf))
   (apply Dj<;>kernel_rfl)
 have Ze:¬decide ((i:Int)<(j:Int))=false:=by simp[hij]
 obtain⟨g,rfl⟩:∃g,f=g+1:=⟨f - 1,by omega⟩
 rw[Awj,if_pos hij]at h4;have A6h:=Abw (i:=i) (j:=j) (by omega)
 obtain⟨h,hh⟩:∃h,h=(i+j) / 2:=⟨_,rfl⟩;rw[←hh]at A6h h4;have hhj:h<j:=by omega
 obtain⟨e,he⟩:∃e,l[h]?=some e:=⟨_,Ae (by omega)⟩
 have hle:(l[h]?).any (Kh n)=decide (Azg e.at_ n<0):=by rw[he];exact(Adt e.at_ n).symm
 have hw:IntKind.i64.wrap ((h:Int)+1)=((h+1:Nat):Int):=Dk (n:=1000000) (by omega) (by simp only[maxLen];omega)
 rw[hle]at h4;by_cases hc:Azg e.at_ n<0
 ·have hb:¬decide (Azg e.at_ n<0)=false:=by simp[hc]
  rw[if_pos (by simpa using hc)]at h4
  repeat'((conv=>whnf);first|(with_reducible refine Ax (by exact Ai (by assumption)) fun hb=>?_);(try rw[hb]);try simp only[Aa]at hb|(with_reducible refine Ac ?_ ?_);focus (and_intros<;>first|omega|kernel_rfl|intro _ hh;cases hh;done|simp;done|decide)|(try dsimp only);(first|rw[A6h]|rw[B6 he])|(with_reducible refine Ct.mk ?_);refine⟨_,Ka _ _ rfl _,?_⟩;rintro _ _ ⟨rfl,rfl⟩|skip;rw[hw])
  all_goals(try(conv=>whnf))
  refine Round.by (g,h+1,j) ?_ ⟨by dsimp only;omega,h2,by dsimp only;omega,h4⟩ (by dsimp only;omega)
  dsimp only;show norm _ _=Cx _ _
  kernel_rfl
 ·have hb:¬decide (Azg e.at_ n<0)=true:=by simp[hc]
  rw[if_neg (by simpa using hc)]at h4
  repeat'((conv=>whnf);first|(with_reducible first|refine Ax (by exact Ai (by assumption)) fun hb=>?_|refine Aw (by exact Ak (by assumption)) fun hb=>?_);(try rw[hb]);try simp only[Aa]at hb|(with_reducible refine Ac ?_ ?_);focus (and_intros<;>first|omega|kernel_rfl|intro _ hh;cases hh;done|simp;done|decide)|(try dsimp only);(first|rw[A6h]|rw[B6 he])|(with_reducible refine Ct.mk ?_);refine⟨_,Ka _ _ rfl _,?_⟩;rintro _ _ ⟨rfl,rfl⟩)
  all_goals(try(conv=>whnf))
  refine Round.by (g,i,h) ?_ ⟨by dsimp only;omega,by dsimp only;omega,by dsimp only;omega,h4⟩ (by dsimp only;omega)
  dsimp only;show norm _ _=Cx _ _
  kernel_rfl
theorem Aay(l:List Fk)(n:Int)(hl:l.length≤100000):Fn Tryz.prog Cs [.v (.list (l.map Fk.Bx)),.v (ti n),.v (.fn Ew)] (Is (.tup [.i (.int .i64 (Km (ltV n) l)),.i (.bool (bsF (ltV n) (eqV n) l))]) [.no,.no,.no]):=by
 refine Co ?_ (by simp)
 repeat'((conv=>whnf);first|(with_reducible refine Ac ?_ ?_);focus (and_intros<;>(with_reducible rfl))|with_reducible intro Cq)
 all_goals(try(conv=>whnf))
 obtain⟨A,hA⟩:∃A,A=Km (ltV n) l:=⟨_,rfl⟩;have hAF:bsF (ltV n) (eqV n) l=(l[A]?).any (eqV n):=by rw[hA];rfl
 have Bs1:A≤l.length:=by rw[hA];exact Hp _ _
 rw[hAF, ←hA];unfold Km at hA;refine Afm.by (X:=Nat × Nat × Nat) (fun x=>[(9,.v (.int .i64 x.2.1)),(10,.v (.int .i64 x.2.2))]) (fun x=>x.2.1≤x.2.2∧x.2.2≤l.length∧x.2.2 - x.2.1≤x.1∧Awj (fun h=>(l[h]?).any (ltV n)) x.1 x.2.1 x.2.2=A) (fun x=>x.2.2 - x.2.1)
  (l.length,0,l.length) (by rw[Bh];kernel_rfl) ⟨Cr _,Bz _,Nat.sub_le _ _,hA.symm⟩ ?_
 rintro⟨f,i,j⟩ ⟨h1,h2,h3,h4⟩;dsimp only at h1 h2 h3 h4 ⊢;by_cases hij:i<j
 case neg=>
  have Ze:¬decide ((i:Int)<(j:Int))=true:=by simp;omega
  obtain rfl:i=A:=by
   rw[←h4];cases f with
   |zero=>rfl
   |succ f=>rw[Awj,if_neg hij]
  by_cases hil:i<l.length
  ·obtain⟨e,he⟩:∃e,l[i]?=some e:=⟨_,Ae hil⟩;have hl2:¬decide ((i:Int)<((l.map Fk.Bx).length:Int))=false:=by simp[hil]
   have hl3:¬decide ((i:Int)<(l.length:Int))=false:=by simp[hil]
   rw[he];simp only[Option.any_some];repeat'((conv=>whnf);first|(with_reducible first|refine Ax (by first|exact Ai (by assumption)|rfl) fun hb=>?_|refine Aw (by exact Ak (by assumption)) fun hb=>?_);(try rw[hb]);try simp only[Aa]at hb|(with_reducible refine Ac ?_ ?_);focus (and_intros<;>first|omega|kernel_rfl|intro _ hh;cases hh;done|simp;done|decide)|(try dsimp only);rw[B6 he]|(with_reducible refine Ct.mk ?_);refine⟨_,Gx _ _,?_⟩;rintro _ _ ⟨rfl,rfl⟩)
   all_goals(try(conv=>whnf))
   refine Am1.mk ⟨?_,by kernel_rfl⟩ (by kernel_rfl)
   rw[show eqV n e=decide (Azf e.rev n=0)from(Abd e.rev n).symm];rfl
  ·have hl2:¬decide ((i:Int)<((l.map Fk.Bx).length:Int))=true:=by simp;omega
   have hl3:¬decide ((i:Int)<(l.length:Int))=true:=by simp;omega
   rw[Aic (by omega)]
   simp only[Option.any_none];repeat'((conv=>whnf);((with_reducible refine Aw (by first|(with_reducible exact Ak (by assumption))|(with_reducible rfl)) fun hb=>?_);(try rw[hb]);(try simp only[Aa]at hb)))
   all_goals(try(conv=>whnf))
   (apply Dj<;>kernel_rfl)
 have Ze:¬decide ((i:Int)<(j:Int))=false:=by simp[hij]
 obtain⟨g,rfl⟩:∃g,f=g+1:=⟨f - 1,by omega⟩
 rw[Awj,if_pos hij]at h4;have A6h:=Abw (i:=i) (j:=j) (by omega)
 obtain⟨h,hh⟩:∃h,h=(i+j) / 2:=⟨_,rfl⟩;rw[←hh]at A6h h4;have hhj:h<j:=by omega
 obtain⟨e,he⟩:∃e,l[h]?=some e:=⟨_,Ae (by omega)⟩
 have hle:(l[h]?).any (ltV n)=decide (Azf e.rev n<0):=by rw[he];exact(Ads e.rev n).symm
 have hw:IntKind.i64.wrap ((h:Int)+1)=((h+1:Nat):Int):=Dk (n:=1000000) (by omega) (by simp only[maxLen];omega)
 rw[hle]at h4;by_cases hc:Azf e.rev n<0
 ·have hb:¬decide (Azf e.rev n<0)=false:=by simp[hc]
  rw[if_pos (by simpa using hc)]at h4
  repeat'((conv=>whnf);first|(with_reducible refine Ax (by exact Ai (by assumption)) fun hb=>?_);(try rw[hb]);try simp only[Aa]at hb|(with_reducible refine Ac ?_ ?_);focus (and_intros<;>first|omega|kernel_rfl|intro _ hh;cases hh;done|simp;done|decide)|(try dsimp only);(first|rw[A6h]|rw[B6 he])|(with_reducible refine Ct.mk ?_);refine⟨_,Gx _ _,?_⟩;rintro _ _ ⟨rfl,rfl⟩|skip;rw[hw])
  all_goals(try(conv=>whnf))
  refine Round.by (g,h+1,j) ?_ ⟨by dsimp only;omega,h2,by dsimp only;omega,h4⟩ (by dsimp only;omega)
  dsimp only;show norm _ _=Cx _ _
  kernel_rfl
 ·have hb:¬decide (Azf e.rev n<0)=true:=by simp[hc]
  rw[if_neg (by simpa using hc)]at h4
  repeat'((conv=>whnf);first|(with_reducible first|refine Ax (by exact Ai (by assumption)) fun hb=>?_|refine Aw (by exact Ak (by assumption)) fun hb=>?_);(try rw[hb]);try simp only[Aa]at hb|(with_reducible refine Ac ?_ ?_);focus (and_intros<;>first|omega|kernel_rfl|intro _ hh;cases hh;done|simp;done|decide)|(try dsimp only);(first|rw[A6h]|rw[B6 he])|(with_reducible refine Ct.mk ?_);refine⟨_,Gx _ _,?_⟩;rintro _ _ ⟨rfl,rfl⟩)
  all_goals(try(conv=>whnf))
  refine Round.by (g,i,h) ?_ ⟨by dsimp only;omega,by dsimp only;omega,by dsimp only;omega,h4⟩ (by dsimp only;omega)
  dsimp only;show norm _ _=Cx _ _
  kernel_rfl
theorem A36(l:List I)(h:∀u∈l,u.size=4)(hl:l.length≤100000):Fn Tryz.prog Avc [.v (.list l)] (Is (.vec Bb 4 l) [.no]):=by
 refine Au4 ?_ (by simp)
 repeat'((conv=>whnf);first|(with_reducible refine A5 (fun hb=>?_) fun hb=>?_)<;>(((try rw[hb]);(try subst hb)))|(with_reducible refine Ac ?_ ?_);focus (and_intros<;>first|omega|with_reducible rfl|simp only[An];omega|simp;done)|with_reducible intro Cq)
 all_goals(try(conv=>whnf))
 ·refine Am1.mk ⟨congrArg (fun l=>SV.vec Bb 4 l) ?_,by kernel_rfl⟩ (by kernel_rfl)
  exact(Cq rfl).symm
 ·exact Am1.mk ⟨congrArg (fun l=>SV.vec Bb 4 l) (H4 _),by kernel_rfl⟩ (by kernel_rfl)

abbrev Pq:=(Nat × SV) × (Nat × SV)
def N1(c:Nat × (Nat × SV)):List Rd→List Pq
 | []=>[]
 | .all _::r=>N1 c r
 | .prj i f o::r=>match Nat.beq i c.1 with
   |true=>(f c.2.1 c.2.2,o)::N1 c r
   |false=>N1 c r
def Qw:Log→List Rd→List Pq
 | [],_=>[]
 |c::L,R=>N1 c R++Qw L R
def P1(rd:Rd):List Rec→List Pq
 | []=>[]
 |e::r=>Qw e.L [rd]++P1 rd r
def Bmj:Pq:=((0,.no),(1,.no))
abbrev Eqs(l:List Pq):Prop:=∀p∈l,p.1=p.2
theorem Eqs.of:∀{l:List Pq},l.map Prod.fst=l.map Prod.snd→Eqs l
 | [],_=>by intro p hp;cases hp
 |q::l,h=>by
  simp only[Cy,Ajg]at h;intro p hp;rcases Bg.1 hp with rfl|hp
  ·exact h.1
  ·exact Eqs.of h.2 p hp
theorem Jn{c:Nat × (Nat × SV)}:∀{R:List Rd},Eqs (N1 c R)→Sj c R
 | [],_=>trivial
 | .all _::r,h=>Jn (R:=r) h
 | .prj i f o::r,h=>by
   simp only[N1]at h;simp only[Sj];cases hb:Nat.beq i c.1 with
   |true=>
    rw[hb]at h;exact⟨h _ (B2 ..),Jn (R:=r) fun p hp=>h p (B4 _ hp)⟩
   |false=>
    rw[hb]at h;exact⟨trivial,Jn (R:=r) h⟩
theorem K7:∀{L:Log} {R:List Rd},Eqs (Qw L R)→Ls L R
 | [],_,_=>trivial
 |c::L,R,h=>⟨Jn fun p hp=>h p (Aau _ hp),K7 fun p hp=>h p (Ac6 _ hp)⟩
def okC(d e:Rec):Bool:=Lf (Eb d.L) (Eb e.L)&&Lf (Eb d.L) (Aqj e.R)&&Lf (Eb e.L) (Aqj d.R)
def Re(d:Rec)(m:Nat):Nat→List Rec→Bool
 |n+1,e::r=>(m.testBit n||okC d e)&&Re d m n r
 |_,_=>true
def okV(n:Nat)(rp:List Rec):List Rec→List Nat→Bool
 | [],_=>true
 |d::r,m::ms=>Re d m n rp&&okV (n+1) (d::rp) r ms
 |_::_,[]=>false
def Hy(d:Rec)(m:Nat):Nat→List Rec→List Pq
 |n+1,e::r=>match m.testBit n with
  |true=>Hy d m n r
  |false=>Qw d.L e.R++Hy d m n r
 |_,_=>[]
def Ug(n:Nat)(rp:List Rec):List Rec→List Nat→List Pq
 | [],_=>[]
 |d::r,m::ms=>Hy d m n rp++Ug (n+1) (d::rp) r ms
 |_::_,[]=>[]
def Be6(y m:Nat):Nat→List Rec→Bool
 |n+1,e::r=>(m.testBit n|| !(Eb e.L).contains y)&&Be6 y m n r
 |_,_=>true
def F3(st0:St)(n:Nat)(rp:List Rec)(m:Nat):List Rd→List Pq
 | []=>[]
 | .all _::r=>F3 st0 n rp m r
 | .prj y f o::r=>match Be6 y m n rp with
   |true=>F3 st0 n rp m r
   |false=>(match st0[y]? with
    |some c=>(f c.1 c.2,o)
    |none=>Bmj)::(P1 (.prj y f o) rp++F3 st0 n rp m r)
def Uf(st0:St)(n:Nat)(rp:List Rec):List Rec→List Nat→List Pq
 | [],_=>[]
 |d::r,m::ms=>F3 st0 n rp m d.R++Uf st0 (n+1) (d::rp) r ms
 |_::_,[]=>[]
theorem Rf{d e:Rec}{m:Nat}:∀{l:List Rec} {k:Nat},N2 d m k (l++[e])=(N2 d m k l&&(m.testBit (k+l.length)||okC d e))
 | [],k=>by simp[N2,okC]
 |x::l,k=>by
  simp only[H3,N2,Ho];rw[Rf (l:=l) (k:=k+1),show k+1+l.length=k+(l.length+1)by omega]
  simp only[Bool.and_assoc]
theorem S4{d:Rec}{m:Nat}:∀{rp:List Rec},Re d m rp.length rp=N2 d m 0 rp.reverse
 | []=>rfl
 |e::r=>by
  simp only[Ho,Re,List.reverse_cons];rw[Rf,S4 (rp:=r),E3,List.length_reverse,Bool.and_comm]
theorem Ab3:∀{ds rp:List Rec} {ms:List Nat},okV rp.length rp ds ms=Pc rp.reverse ds ms
 | [],_,_=>by simp[okV,Pc]
 |_::_,_,[]=>rfl
 |d::r,rp,m::ms=>by
  simp only[okV,Pc];rw[S4, ←List.reverse_cons, ←Ab3 (rp:=d::rp)];rfl
theorem H0{d e:Rec}{m:Nat}:∀{l:List Rec} {k:Nat},L9 d m k l→(m.testBit (k+l.length)=false→Ls d.L e.R)→L9 d m k (l++[e])
 | [],k,_,h=>by
   simp only[H4,L9];refine⟨?_,trivial⟩;cases hb:m.testBit k with
   |true=>trivial
   |false=>exact h hb
 |x::l,k,h1,h2=>by
  simp only[H3,L9]at h1 ⊢;exact⟨h1.1,H0 h1.2 fun hb=>h2 (by rwa [Ho,show k+(l.length+1)=k+1+l.length by omega])⟩
theorem Hz{d:Rec}{m:Nat}:∀{rp:List Rec},Eqs (Hy d m rp.length rp)→L9 d m 0 rp.reverse
 | [],_=>trivial
 |e::r,h=>by
  simp only[Ho,Hy]at h;rw[List.reverse_cons];cases hb:m.testBit r.length with
  |true=>
   rw[hb]at h;exact H0 (Hz (rp:=r) h) fun Sy=>by rw[E3,List.length_reverse,hb]at Sy;cases Sy
  |false=>
   rw[hb]at h;exact H0 (Hz (rp:=r) fun p hp=>h p (Ac6 _ hp)) fun _=>K7 fun p hp=>h p (Aau _ hp)
theorem Sx:∀{ds rp:List Rec} {ms:List Nat},okV rp.length rp ds ms=true→Eqs (Ug rp.length rp ds ms)→P7 rp.reverse ds ms
 | [],_,_,_,_=>trivial
 |_::_,_,[],h,_=>by cases h
 |d::r,rp,m::ms,hk,h=>by
  simp only[okV,Ap]at hk;refine⟨Hz fun p hp=>h p (Aau _ hp),?_⟩
  rw[←List.reverse_cons];exact Sx (rp:=d::rp) hk.2 fun p hp=>h p (Ac6 _ hp)
theorem Ng{y m:Nat}{e:Rec}:∀{l:List Rec} {k:Nat},K9 y m k (l++[e])=(K9 y m k l&&(m.testBit (k+l.length)|| !(Eb e.L).contains y))
 | [],k=>by simp[K9]
 |x::l,k=>by
  simp only[H3,K9,Ho];rw[Ng (l:=l) (k:=k+1),show k+1+l.length=k+(l.length+1)by omega]
  simp only[Bool.and_assoc]
theorem Yi{y m:Nat}:∀{rp:List Rec},Be6 y m rp.length rp=K9 y m 0 rp.reverse
 | []=>rfl
 |e::r=>by
  simp only[Ho,Be6,List.reverse_cons];rw[Ng,Yi (rp:=r),E3,List.length_reverse,Bool.and_comm]
theorem M5{rd:Rd}{e:Rec}:∀{l:List Rec},Ms rd l→Ls e.L [rd]→Ms rd (l++[e])
 | [],_,h=>⟨h,trivial⟩
 |x::l,h1,h2=>⟨h1.1,M5 h1.2 h2⟩
theorem M4{rd:Rd}:∀{rp:List Rec},Eqs (P1 rd rp)→Ms rd rp.reverse
 | [],_=>trivial
 |e::r,h=>by
  rw[List.reverse_cons];exact M5 (M4 fun p hp=>h p (Ac6 _ hp)) (K7 fun p hp=>h p (Aau _ hp))
theorem Fg{st0:St}{rp:List Rec}{m:Nat}:∀{R:List Rd},Eqs (F3 st0 rp.length rp m R)→Mq st0 rp.reverse m R
 | [],_=>trivial
 | .all _::r,h=>Fg (R:=r) h
 | .prj y f o::r,h=>by
   simp only[F3,Yi]at h;simp only[Mq];cases hb:K9 y m 0 rp.reverse with
   |true=>
    rw[hb]at h;exact⟨trivial,Fg (R:=r) h⟩
   |false=>
    rw[hb]at h;have h1:=h _ (B2 ..);refine⟨⟨?_,M4 fun p hp=>h p (B4 _ (Aau _ hp))⟩,Fg fun p hp=>h p (B4 _ (Ac6 _ hp))⟩
    cases hs:st0[y]? with
    |some c=>rw[hs]at h1;exact h1
    |none=>rw[hs]at h1;simp[Bmj]at h1
theorem Sr{st0:St}:∀{ds rp:List Rec} {ms:List Nat},okV rp.length rp ds ms=true→Eqs (Uf st0 rp.length rp ds ms)→Av st0 rp.reverse ds ms
 | [],_,_,_,_=>trivial
 |_::_,_,[],h,_=>by cases h
 |d::r,rp,m::ms,hk,h=>by
  simp only[okV,Ap]at hk;refine⟨Fg fun p hp=>h p (Aau _ hp),?_⟩
  rw[←List.reverse_cons];exact Sr (rp:=d::rp) hk.2 fun p hp=>h p (Ac6 _ hp)
theorem Ai2.mkV{st0:St}{ms:List Nat}{Q:St→Prop}{ds:List Rec}{st:St}(h:okV 0 [] ds ms=true)(h2:(Ug 0 [] ds ms).map Prod.fst=(Ug 0 [] ds ms).map Prod.snd)
 (h3:(Uf st0 0 [] ds ms).map Prod.fst=(Uf st0 0 [] ds ms).map Prod.snd) (hq:(∀d∈ds,∀p∈d.F,p)→Q st):Ai2 st0 ms Q ds st:=
 ⟨by rw[←show okV 0 [] ds ms=Pc [] ds ms from Ab3 (rp:=[])];exact h,Sx (rp:=[]) h (Eqs.of h2),Sr (rp:=[]) h (Eqs.of h3),hq⟩

open Go.Proofs
def Zk.toD(h:Zk):D:=.st [.it (.str h.at_),.vec Bb 4 ((h.vs.map Fk.Bx).map D.it)]
def Cn.toD(s:Cn):D:=.st [.map (s.sp.map fun x=>.str x.1) (s.sp.map fun x=>.ptr (.it x.2.Bx)),.vec Dr 2 (s.l.map Zk.toD)]
abbrev sP(s:Cn):SV:=.own [] (.ptr s.toD)
theorem Zk.A96(h:Zk):h.toD.Bx=some h.Bx:=by
 simp only[Zk.toD,Zk.Bx,D.Bx,Js,Ad]
theorem U8(l:List Zk):Js (l.map Zk.toD)=some (l.map Zk.Bx):=Vg Zk.A96 l
theorem E5{α:Type}(f:α→Az)(k:Az):∀(l:List α) (i:Nat),Lo k (l.map fun x=>.str (f x)) i=some ((l.findIdx? (fun x=>decide (f x=k))).map (· +i))
 | [],i=>by simp[Lo]
 |x::l,i=>by
  simp only[Cy,Lo,List.findIdx?_cons];by_cases h:f x=k
  ·simp[h]
  ·rw[if_neg h,E5 f k l (i+1)];simp only[h,decide_false,Ado,if_false,Option.map_map]
   congr 2
   funext a;simp only[Function.comp];omega
def Cn.fi(s:Cn)(n:Az):Option Nat:=s.sp.findIdx? fun x=>decide (x.1=n)
def Ax5:Tal:=⟨0,0,0,0,0⟩
def Cn.Zp(s:Cn)(n:Az):Tal:=((s.sp.find? fun x=>decide (x.1=n)).map (·.2)).getD Ax5
theorem Cn.Ayr{s:Cn}{n:Az}(h:s.fi n=none):Lo n (s.sp.map fun x=>.str x.1) 0=some none∧s.Zp n=Ax5:=by
 refine⟨by rw[E5 (fun x:Az × Tal=>x.1)];unfold Cn.fi at h;rw[h];rfl,?_⟩
 unfold Cn.fi at h;rw[List.findIdx?_eq_none_iff]at h;unfold Cn.Zp;rw[List.find?_eq_none.2 (by simpa using h)]
 rfl
theorem Cn.Ari{s:Cn}{n:Az}{i:Nat}(h:s.fi n=some i):Lo n (s.sp.map fun x=>.str x.1) 0=some (some i)∧(s.sp.map fun x=>D.ptr (.it x.2.Bx))[i]?=some (.ptr (.it (s.Zp n).Bx))∧s.sp[i]?=some (n,s.Zp n):=by
 have h0:=h;unfold Cn.fi at h;have hs:s.sp[i]?=some (n,s.Zp n):=by
  obtain⟨hi,h1,h2⟩:=List.findIdx?_eq_some_iff_getElem.1 h;have hf:s.sp.find? (fun x=>decide (x.1=n))=some s.sp[i]:=by
   rw[List.find?_eq_some_iff_getElem];exact⟨h1,i,hi,rfl,fun j hj=>by simpa using h2 j hj⟩
  rw[Ae hi];simp only[decide_eq_true_eq]at h1;unfold Cn.Zp;rw[hf];show some s.sp[i]=some (n,s.sp[i].2);rw[←h1]
 refine⟨by rw[E5 (fun x:Az × Tal=>x.1),h];rfl,by rw[Ev,hs];rfl,hs⟩
theorem Au{N:Nat}{os:List D6}{st:St}{K:SV→St→Prop}(h:As1 (En 23 os st) fun st=>F7 Tryz.prog Mk noY ⟨A2y 23 N 4 5 K,Atg,A2y 23 N 4 5 K⟩ st)(hn:os.length≤23:=by decide):Aqw Tryz.prog 59 N os st K:=
 Aqw.Bi6 Tryz.func59 rfl Tryz.ntmps59 (by kernel_rfl) (by kernel_rfl) (by decide) (by decide) hn h

open Go.Proofs
def A11:Fk:=⟨0,0,[],false⟩
def Un(vs:List Fk):Nat→Fk × Bool
 |0=>(A11,false)
 |i+1=>match vs[i]? with
  |some v=>if v.gone=true then(A11,false)else(v,true)
  |none=>(A11,false)
def D1(vs:List Fk)(rev:Int):Fk × Bool:=Un vs (Km (ltV (rev+1)) vs)
theorem Ns(a:Az)(vs:List Fk)(rev:Int)(hr: -1≤rev∧rev≤9000000000000000000)(hl:vs.length≤100000):
 Fn Tryz.prog Ky [.v (.agg [.str a,.list (vs.map Fk.Bx)]),.v (ti rev)] (Is (.tup [.i (D1 vs rev).1.Bx,.i (.bool (D1 vs rev).2)]) [.no,.no]):=by
 refine Kn ?_ (by simp)
 have hw:IntKind.i64.wrap (rev+1)=rev+1:=Bf (by omega)
 have hbs:=Aay vs (rev+1) hl;have hle:=Hp (ltV (rev+1)) vs;obtain⟨A,hA⟩:∃A,A=Km (ltV (rev+1)) vs:=⟨_,rfl⟩;obtain⟨B,hB⟩:∃B,B=bsF (ltV (rev+1)) (eqV (rev+1)) vs:=⟨_,rfl⟩;have hM:D1 vs rev=Un vs A:=by rw[hA];rfl
 rw[←hA, ←hB]at hbs;rw[←hA]at hle;rw[hM];cases A with
 |zero=>
  have h0:¬decide (((0:Nat):Int)=0)=false:=by simp
  repeat'((conv=>whnf);first|(with_reducible refine Ax (by first|exact Ai (by assumption)|rfl) fun hb=>?_);(try rw[hb]);try simp only[Aa]at hb|(with_reducible refine Ac ?_ ?_);focus (and_intros<;>first|omega|kernel_rfl|intro _ hh;cases hh;done|simp;done|decide)|(try dsimp only);rw[hw]|(with_reducible refine Ct.mk ?_);refine⟨_,hbs,?_⟩;rintro _ _ ⟨rfl,rfl⟩)
  all_goals(try(conv=>whnf))
  (apply Dj<;>kernel_rfl)
 |succ i=>
  obtain⟨v,hv⟩:∃v,vs[i]?=some v:=⟨_,Ae (by omega)⟩
  have h0:¬decide (((i+1:Nat):Int)=0)=true:=by simp;omega
  have hw2:IntKind.i64.wrap (((i+1:Nat):Int) - 1)=(i:Int):=by rw[Bf (by omega)];omega
  have hN:Un vs (i+1)=if v.gone=true then(A11,false)else(v,true):=by simp only[Un,hv]
  rw[hN];cases hg:v.gone with
  |true=>
   repeat'((conv=>whnf);first|(with_reducible refine Ax (by(assumption)) fun hb=>?_);try rw[hb]|(with_reducible refine Aw (by first|exact Ak (by assumption)|rfl) fun hb=>?_);(try rw[hb]);try simp only[Aa]at hb|(with_reducible refine Ac ?_ ?_);focus (and_intros<;>first|omega|kernel_rfl|intro _ hh;cases hh;done|simp;done|decide)|(try dsimp only);rw[hw]|(with_reducible refine Ct.mk ?_);refine⟨_,hbs,?_⟩;rintro _ _ ⟨rfl,rfl⟩|(try dsimp only);rw[hw2]|skip;rw[B6 hv])
   all_goals(try(conv=>whnf))
   (apply Dj<;>kernel_rfl)
  |false=>
   repeat'((conv=>whnf);first|(with_reducible refine Aw (by first|assumption|exact Ak (by assumption)|rfl) fun hb=>?_);(try rw[hb]);try simp only[Aa]at hb|(with_reducible refine Ac ?_ ?_);focus (and_intros<;>first|omega|kernel_rfl|intro _ hh;cases hh;done|simp;done|decide)|(try dsimp only);rw[hw]|(with_reducible refine Ct.mk ?_);refine⟨_,hbs,?_⟩;rintro _ _ ⟨rfl,rfl⟩|(try dsimp only);rw[hw2]|skip;rw[B6 hv])
   all_goals(try(conv=>whnf))
   (apply Dj<;>kernel_rfl)
end Go.Ab
