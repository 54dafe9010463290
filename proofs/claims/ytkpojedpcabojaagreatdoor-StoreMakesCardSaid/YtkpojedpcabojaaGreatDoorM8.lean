/- Lemmas -/
import Derived.Test.YtkpojedpcabojaaGreatDoorM5
import Derived.Shelf.SlSortCmp.WholeK
import Derived.Shelf.SlSortCmp.NoneTotal
import Derived.Lib.Small
import Derived.Lib.Walk
import Derived.Laws.Cover1
set_option linter.unusedVariables false
set_option linter.unusedSimpArgs false
set_option maxRecDepth 100000
set_option maxHeartbeats 40000000
namespace Go.Ab
open Go.Proofs
theorem Aod(l:List Cv)(hk:∀p∈l,p.keys.length≤1000∧∀h∈p.keys,h.vs.length≤1000):Fn Tryz.prog Ae6 [.v (.list (l.map Cv.Ap))] (Is (.v (.bool (Sz l))) [.no]):=by
 refine Adx ?_ (by simp)
 obtain⟨E3,hR⟩:∃R,Sz l=R:=⟨_,rfl⟩;rw[hR];unfold Sz at hR;have Fk:(l.map Cv.Ap).length=l.length:=An _;by_cases h8:8<l.length
 ·rw[if_pos h8]at hR;subst hR;have g8:¬decide ((8:Int)<(l.length:Int))=false:=by simp;omega
  repeat'((conv=>whnf);first|(with_reducible refine Bv (by first|exact Ae (by assumption)|refine decide_eq_true ?_;omega) fun hb=>?_);(try rw[hb]);try simp only[Am]at hb|(with_reducible refine Aa ?_ ?_);focus (and_intros<;>(with_reducible rfl))|with_reducible intro Av|skip;rw[Fk])
  all_goals(try(conv=>whnf))
  (apply D6<;>kernel_rfl)
 rw[if_neg h8]at hR;have g8:¬decide ((8:Int)<(l.length:Int))=true:=by simp;omega
 repeat'((conv=>whnf);first|(with_reducible refine Bq (by first|exact Ag (by assumption)|refine decide_eq_false ?_;omega) fun hb=>?_);(try rw[hb]);try simp only[Am]at hb|(with_reducible refine Aa ?_ ?_);focus (and_intros<;>(with_reducible rfl))|with_reducible intro Av|(try dsimp only);rw[Fk])
 all_goals(try(conv=>whnf))
 refine Ep.by (X:=Nat × Option A1) (fun y=>[(3,.v (ti (y.1:Int)))]) (fun y=>y.1≤l.length∧((y.1=0→y.2=none)∧∀q,y.1=q+1→∃p,l[q]?=some p∧y.2=some p.name)∧Vg y.2 (l.drop y.1)=E3) (fun y=>l.length - y.1) (0,none) (by kernel_rfl) ⟨A3 _,⟨fun _=>rfl,fun q e=>(by omega)⟩,hR⟩ ?_
 clear hR;rintro⟨j,o⟩ ⟨hj,⟨hw0,Tx⟩,hR⟩
 (try dsimp only at hj hw0 Tx hR ⊢)
 have hw:=zwj (j:=j) (by omega)
 by_cases E6:j<l.length
 case neg=>
  have h3:¬decide ((j:Int)<(l.length:Int))=true:=by simp;omega
  rw[Bo (by omega)]at hR
  have hR:true=E3:=hR;subst hR;repeat'((conv=>whnf);first|(with_reducible refine Bq (by first|exact Ag (by assumption)|refine decide_eq_false ?_;omega) fun hb=>?_);(try rw[hb]);try simp only[Am]at hb|(with_reducible refine Aa ?_ ?_);focus (and_intros<;>(with_reducible rfl))|with_reducible intro Av|skip;rw[Fk])
  all_goals(try(conv=>whnf))
  (apply D6<;>kernel_rfl)
 obtain⟨p,hp⟩:∃x,l[j]?=some x:=⟨_,Ac E6⟩;have h3:¬decide ((j:Int)<(l.length:Int))=false:=by simp;omega
 have K9:l.drop j=p::l.drop (j+1):=by rw[A7 E6];rw[Ac E6]at hp;cases hp;rfl
 rw[K9]at hR;unfold Vg at hR;obtain⟨Tt,Vc⟩:=hk p (Aw hp);have Zt:(j+1=0→some p.name=none)∧∀q,j+1=q+1→∃x,l[q]?=some x∧some p.name=some x.name:=⟨fun e=>by omega,fun q e=>⟨p,by rw[←Nat.succ.inj e];exact hp,rfl⟩⟩
 generalize hX:Vg (some p.name) (l.drop (j+1))=NX at hR;have hrk:=fun h (hh:h∈p.keys)=>Azu h p (C2 (Vc h hh) (by omega))
 obtain⟨qp,hq,Ara⟩:∃qp,l[j - 1]?=some qp∧((j=0∧Pc o p.name=true)∨(0<j∧(Op.bytesLess p.name qp.name||decide (p.name=qp.name))= !Pc o p.name)):=by
  cases j with
  |zero=>exact⟨p,hp,.inl ⟨rfl,by rw[hw0 rfl];rfl⟩⟩
  |succ q=>
   obtain⟨pp,h1,h2⟩:=Tx q rfl;exact⟨pp,h1,.inr ⟨by omega,by rw[Kq,Ao6,h2];rfl⟩⟩
 clear hw0 Tx;obtain⟨pn,Lm,L4,ks⟩:=p;obtain⟨qn,qr,qf,qk⟩:=qp;dsimp only at Tt Vc hR Zt hrk Ara;have hkm:(ks.map Kv.Ap).length=ks.length:=An _;have Qe:=Ay3 pn;unfold Av8 at hR;dsimp only at hR;generalize hNM:Hp pn=NM at*;generalize hAF:Pc o pn=AF at*;generalize hBB:(Op.bytesLess pn qn||decide (pn=qn))=BB at*;by_cases Dj:(NM=true∧AF=true)∧0≤L4∧L4≤Lm∧Lm≤1099511627776
 case neg=>
  have hR:false=E3:=by
   rw[←hR,if_neg];intro c;simp only[Ad,decide_eq_true_eq]at c;exact Dj ⟨⟨c.1.1.1,c.1.2⟩,c.1.1.2⟩
  subst hR;rcases Ara with⟨hj0,hle⟩|⟨hj0,hle⟩
  all_goals first
  |(have g0:¬decide ((0:Int)<(j:Int))=true:=by simp;omega);have Wc:IntKind.i64.wrap 5=5:=Cd (by omega)
  |(have g0:¬decide ((0:Int)<(j:Int))=false:=by simp;omega);have Wc:IntKind.i64.wrap ((j:Int) - 1)=((j - 1:Nat):Int):=(Cd (by omega)).trans (by omega)
  all_goals(try subst hle)
  all_goals cases NM
  all_goals(try cases AF)
  all_goals(try simp only[Bool.not_false,Bool.not_true]at hBB)
  all_goals
   all_goals(
    repeat'((conv=>whnf);first|(with_reducible first|refine Bv (by first|assumption|exact Ae (by assumption)|refine decide_eq_true ?_;omega|rfl) fun hb=>?_|refine Bq (by first|assumption|exact Ag (by assumption)|rfl) fun hb=>?_);(try rw[hb]);try simp only[Am]at hb|((with_reducible refine Ai (fun hb=>?_) fun hb=>?_)<;>first|exact absurd hb (by decide)|(try rw[hb]);try simp only[Am]at hb)|(with_reducible refine Aa ?_ ?_);focus (and_intros<;>first|omega|with_reducible rfl|kernel_rfl|intro _ hh;cases hh;done|simp;done|decide)|with_reducible intro Av|(with_reducible refine Dw.Gx ?_ ?_ ?_ fun Av=>?_);(iterate 3 focus (as_aux_lemma=>kernel_rfl));try simp only[zRL]at Av|(try dsimp only);(first|rw[Be hp]|rw[Be hq]|rw[Fk])|(with_reducible refine Fv.mk ?_);refine⟨_,_,Qe,?_⟩|(try dsimp only);rw[Wc])
    all_goals(try(conv=>whnf)))
   all_goals first
    |(exfalso;simp at Dj;omega)
    |(apply D6<;>kernel_rfl)
 obtain⟨⟨rfl,rfl⟩,b1,b2,b3⟩:=Dj;have hR:(if Rz Lm L4 none ks=true then NX else false)=E3:=by
  rw[←hR,decide_eq_true b1,decide_eq_true b2,decide_eq_true b3];simp
 rcases Ara with⟨hj0,hle⟩|⟨hj0,hle⟩
 all_goals first
  |(have g0:¬decide ((0:Int)<(j:Int))=true:=by simp;omega);have Wc:IntKind.i64.wrap 5=5:=Cd (by omega)
  |(have g0:¬decide ((0:Int)<(j:Int))=false:=by simp;omega);have Wc:IntKind.i64.wrap ((j:Int) - 1)=((j - 1:Nat):Int):=(Cd (by omega)).trans (by omega)
 all_goals(try simp only[Bool.not_true]at hle)
 all_goals(try subst hle)
 all_goals
  all_goals(
   repeat'((conv=>whnf);first|(with_reducible first|refine Bv (by first|assumption|exact Ae (by assumption)|refine decide_eq_true ?_;omega|rfl) fun hb=>?_|refine Bq (by first|assumption|exact Ag (by assumption)|rfl) fun hb=>?_);(try rw[hb]);try simp only[Am]at hb|((with_reducible refine Ai (fun hb=>?_) fun hb=>?_)<;>first|exact absurd hb (by decide)|exfalso;((simp only[Eu]at hb<;>omega))|(try rw[hb]);try simp only[Am]at hb)|(with_reducible refine Aa ?_ ?_);focus (and_intros<;>first|omega|with_reducible rfl|kernel_rfl|intro _ hh;cases hh;done|simp;done|decide)|with_reducible intro Av|(with_reducible refine Dw.Gx ?_ ?_ ?_ fun Av=>?_);(iterate 3 focus (as_aux_lemma=>kernel_rfl));try simp only[zRL]at Av|(try dsimp only);(first|rw[Be hp]|rw[Be hq]|rw[Fk])|(with_reducible refine Fv.mk ?_);refine⟨_,_,Qe,?_⟩|(try dsimp only);rw[Wc])
   all_goals(try(conv=>whnf)))
 all_goals
  refine Ep.by (X:=Nat × Option A1) (fun y=>[(5,.v (ti (y.1:Int)))])
   (fun y=>y.1≤ks.length∧KyO ks y.1 y.2∧(if Rz Lm L4 y.2 (ks.drop y.1)=true then NX else false)=E3) (fun y=>ks.length - y.1) (0,none) (by kernel_rfl)
   ⟨A3 _,⟨fun _=>rfl,fun q e=>(by omega)⟩,hR⟩ ?_
  clear hR;rintro⟨k,ko⟩ ⟨hk,hKO,hR⟩
  (try dsimp only at hk hKO hR ⊢)
  have Sb:=zwj (j:=k) (by omega)
  by_cases L8:k<ks.length
  case neg=>
   have h5:¬decide ((k:Int)<(ks.length:Int))=true:=by simp;omega
   rw[Bo (by omega)]at hR
   have hR:NX=E3:=hR;repeat'((conv=>whnf);first|((with_reducible refine Ai (fun hb=>?_) fun hb=>?_)<;>first|exfalso;((simp only[Eu]at hb<;>omega))|(try rw[hb]);try simp only[Am]at hb)|(with_reducible refine Aa ?_ ?_);focus (and_intros<;>first|omega|with_reducible rfl|kernel_rfl|simp;done)|with_reducible intro Av|(try dsimp only);rw[hkm]|skip;rw[hw])
   all_goals(try(conv=>whnf))
   refine Round.by (j+1,some pn) ?_ ⟨by omega,Zt,hX.trans hR⟩ (by dsimp only;omega)
   try dsimp only
   show norm _ _=Dy _ _
   kernel_rfl
  obtain⟨h,hh⟩:∃x,ks[k]?=some x:=⟨_,Ac L8⟩;have h5:¬decide ((k:Int)<(ks.length:Int))=false:=by simp;omega
  have hdk:ks.drop k=h::ks.drop (k+1):=by rw[A7 L8];rw[Ac L8]at hh;cases hh;rfl
  rw[hdk]at hR;unfold Rz at hR;obtain⟨qh,hqh,Awb⟩:∃qh,ks[k - 1]?=some qh∧((k=0∧Pc ko h.key=true)∨(0<k∧(Op.bytesLess h.key qh.key||decide (h.key=qh.key))= !Pc ko h.key)):=by
   cases k with
   |zero=>exact⟨h,hh,.inl ⟨rfl,by rw[hKO.z rfl];rfl⟩⟩
   |succ q=>
    obtain⟨pp,c1,c2⟩:=hKO.s q rfl;exact⟨pp,c1,.inr ⟨by omega,by rw[Kq,Ao6,c2];rfl⟩⟩
  have Av4:KyO ks (k+1) (some h.key):=⟨fun e=>by omega,fun q e=>⟨h,by rw[←Nat.succ.inj e];exact hh,rfl⟩⟩
  have Bxh:=hrk h (Aw hh);generalize hX2:Rz Lm L4 (some h.key) (ks.drop (k+1))=KG at hR;generalize hKV:Aa7 Lm L4 h=KV at*;obtain⟨Hk,vs⟩:=h;obtain⟨qhk,qhv⟩:=qh;dsimp only at hR Awb Av4 hX2;generalize Bv4:Pc ko Hk=AF2 at*;generalize Bh7:(Op.bytesLess Hk qhk||decide (Hk=qhk))=BB2 at*;rcases Awb with⟨Ts,hle⟩|⟨Ts,hle⟩
  all_goals first
   |(have g1:¬decide ((0:Int)<(k:Int))=true:=by simp;omega);have hwk:IntKind.i64.wrap 5=5:=Cd (by omega)
   |(have g1:¬decide ((0:Int)<(k:Int))=false:=by simp;omega);have hwk:IntKind.i64.wrap ((k:Int) - 1)=((k - 1:Nat):Int):=(Cd (by omega)).trans (by omega)
  all_goals(try subst hle)
  all_goals cases KV
  all_goals(try cases AF2)
  all_goals(try simp only[Bool.not_false,Bool.not_true]at Bh7)
  all_goals simp only[D0,false_and,and_false,and_true,true_and,if_false,if_true]at hR
  all_goals
   all_goals(
    repeat'((conv=>whnf);first|(with_reducible first|refine Bv (by first|assumption|exact Ae (by assumption)|rfl) fun hb=>?_|refine Bq (by first|assumption|exact Ag (by assumption)|rfl) fun hb=>?_);(try rw[hb]);try simp only[Am]at hb|((with_reducible refine Ai (fun hb=>?_) fun hb=>?_)<;>first|exact absurd hb (by decide)|exfalso;((simp only[Eu]at hb<;>omega))|(try rw[hb]);try simp only[Am]at hb)|(with_reducible refine Aa ?_ ?_);focus (and_intros<;>first|omega|with_reducible rfl|kernel_rfl|intro _ hh;cases hh;done|simp;done|decide)|with_reducible intro Av|(with_reducible refine Dw.Gx ?_ ?_ ?_ fun Av=>?_);(iterate 3 focus (as_aux_lemma=>kernel_rfl));try simp only[zRL]at Av|(try dsimp only);(first|rw[Be hh]|rw[Be hqh]|rw[hkm])|(with_reducible refine Fv.mk ?_);refine⟨_,_,Bxh,?_⟩|(try dsimp only);(first|rw[hwk]|rw[Sb]))
    all_goals(try(conv=>whnf)))
   all_goals first
    |(subst hR
      (apply D6<;>kernel_rfl))
    |(refine Round.by (k+1,some Hk) ?_ ⟨by omega,Av4,(by rw[hX2];exact hR)⟩ (by dsimp only;omega)
      try dsimp only
      show norm _ _=Dy _ _
      kernel_rfl)

open Go.Proofs
theorem Bg1(l:List Cv)(o:Cv):l.map Cv.Ap++[o.Ap]=(l++[o]).map Cv.Ap:=by simp
theorem Bjh(l:List Kv)(o:Kv):l.map Kv.Ap++[o.Ap]=(l++[o]).map Kv.Ap:=by simp
theorem Aqi(l:List Cv)(hl:l.length≤1000)(hk:∀p∈l,p.keys.length≤1000∧∀h∈p.keys,h.vs.length≤1000):Fn Tryz.prog Af6 [.v (.list (l.map Cv.Ap))] (Is (.vec Apq 4 (l.map Cv.Ap)) [.no]):=by
 refine Ad0 ?_ (by simp)
 have Fk:(l.map Cv.Ap).length=l.length:=An _;repeat'((conv=>whnf);((with_reducible refine Aa ?_ ?_);focus (and_intros<;>omega)))
 all_goals(try(conv=>whnf))
 refine Ep.by (X:=Nat × List Cv) (fun y=>[(4,.v (ti (y.1:Int))),(3,.vec Apq 4 (y.2.map Cv.Ap))]) (fun y=>y.1≤l.length∧y.2=l.take y.1) (fun y=>l.length - y.1) (0,[]) (by kernel_rfl) ⟨A3 _,rfl⟩ ?_
 rintro⟨j,O⟩ ⟨hj,hO⟩
 (try dsimp only at hj hO ⊢)
 have hw:=zwj (j:=j) (by omega)
 have hOl:(O.map Cv.Ap).length≤1000:=by rw[hO];simp;omega
 have B14:O.length≤1000:=by rw[hO];simp;omega
 by_cases E6:j<l.length
 case neg=>
  have h3:¬decide ((j:Int)<(l.length:Int))=true:=by simp;omega
  rw[C9 (by omega)]at hO
  subst hO;repeat'((conv=>whnf);first|(with_reducible refine Bq (by first|exact Ag (by assumption)|refine decide_eq_false ?_;omega) fun hb=>?_);(try rw[hb]);try simp only[Am]at hb|(with_reducible refine Aa ?_ ?_);focus (and_intros<;>first|omega|with_reducible rfl|simp;done)|with_reducible intro Av|skip;rw[Fk])
  all_goals(try(conv=>whnf))
  (apply D6<;>kernel_rfl)
 obtain⟨p,hp⟩:∃x,l[j]?=some x:=⟨_,Ac E6⟩;have h3:¬decide ((j:Int)<(l.length:Int))=false:=by simp;omega
 obtain⟨Tt,Vc⟩:=hk p (Aw hp);have Zt:O++[p]=l.take (j+1):=by rw[D5,hp,hO];rfl
 obtain⟨pn,Lm,L4,ks⟩:=p;dsimp only at Tt Vc;have hkm:(ks.map Kv.Ap).length=ks.length:=An _;repeat'((conv=>whnf);first|(with_reducible refine Bv (by first|exact Ae (by assumption)|refine decide_eq_true ?_;omega) fun hb=>?_);(try rw[hb]);try simp only[Am]at hb|(with_reducible refine Aa ?_ ?_);focus (and_intros<;>first|omega|with_reducible rfl|kernel_rfl)|with_reducible intro Av|(try dsimp only);(first|rw[Be hp]|rw[Fk]))
 all_goals(try(conv=>whnf))
 refine Ep.by (X:=Nat × List Kv) (fun y=>[(7,.v (ti (y.1:Int))),(6,.vec A9f 2 (y.2.map Kv.Ap))]) (fun y=>y.1≤ks.length∧y.2=ks.take y.1) (fun y=>ks.length - y.1) (0,[]) (by kernel_rfl) ⟨A3 _,rfl⟩ ?_
 rintro⟨q,K⟩ ⟨hq,hK⟩
 (try dsimp only at hq hK ⊢)
 have Sb:=zwj (j:=q) (by omega)
 have hKl:(K.map Kv.Ap).length≤1000:=by rw[hK];simp;omega
 have B12:K.length≤1000:=by rw[hK];simp;omega
 by_cases Sv:q<ks.length
 case neg=>
  have h5:¬decide ((q:Int)<(ks.length:Int))=true:=by simp;omega
  rw[C9 (by omega)]at hK
  subst hK;repeat'((conv=>whnf);first|((with_reducible refine Ai (fun hb=>?_) fun hb=>?_)<;>first|exfalso;((simp only[Eu]at hb<;>omega))|(try rw[hb]);try simp only[Am]at hb)|(with_reducible refine Aa ?_ ?_);focus (and_intros<;>first|omega|with_reducible rfl|kernel_rfl|exact F0 (by rfl)|simp only[Eu];omega|simp;done)|with_reducible intro Av|(try dsimp only);rw[hkm]|skip;rw[hw])
  all_goals(try(conv=>whnf))
  refine Round.by (j+1,O++[(⟨pn,Lm,L4,K⟩:Cv)]) ?_ ⟨by omega,Zt⟩ (by dsimp only;omega)
  try dsimp only
  rw[←Bg1];show norm _ _=Dy _ _
  kernel_rfl
 obtain⟨h,hh⟩:∃x,ks[q]?=some x:=⟨_,Ac Sv⟩;have h5:¬decide ((q:Int)<(ks.length:Int))=false:=by simp;omega
 have Qy:=Vc h (Aw hh);have hnk:K++[h]=ks.take (q+1):=by rw[D5,hh,hK];rfl
 obtain⟨Hk,vs⟩:=h;dsimp only at Qy;have hvm:(vs.map Bt.Ap).length=vs.length:=An _;have Ko:∀u∈vs.map Bt.Ap,u.size=4:=fun u hu=>by obtain⟨x,_,rfl⟩:=Cs.1 hu;rfl
 repeat'((conv=>whnf);first|((with_reducible refine Ai (fun hb=>?_) fun hb=>?_)<;>first|exfalso;((simp only[Eu]at hb<;>omega))|(try rw[hb]);try simp only[Am]at hb)|(with_reducible refine Aa ?_ ?_);focus (and_intros<;>first|exact Ko|omega|with_reducible rfl|kernel_rfl|exact F0 (by rfl)|simp only[Eu];omega|simp;done)|with_reducible intro Av|(with_reducible refine Dw.Gx ?_ ?_ ?_ fun Av=>?_);(iterate 3 focus (as_aux_lemma=>kernel_rfl));try simp only[zRL]at Av|(try dsimp only);(first|rw[Be hh]|rw[hkm])|skip;rw[Sb])
 all_goals(try(conv=>whnf))
 refine Round.by (q+1,K++[(⟨Hk,vs⟩:Kv)]) ?_ ⟨by omega,hnk⟩ (by dsimp only;omega)
 try dsimp only
 rw[←Bjh];show norm _ _=Dy _ _
 kernel_rfl

open Go.RowKit Go.Sort Go.Shelf Go.Proofs Go.Lib
def Bgn:Go.Shelf.Ren:=⟨fun|6=>49|15=>87|14=>86|28=>111|29=>112|20=>103|21=>104|22=>105|23=>106|24=>107|25=>108|26=>109|27=>110|46=>121|47=>122|48=>123|49=>124|50=>125|57=>136|n=>n,fun|22=>107|24=>116|25=>122|3=>3|39=>156|0=>0|53=>175|55=>177|4=>4|46=>169|45=>168|50=>149|5=>5|9=>9|66=>184|70=>188|76=>200|77=>82|n=>n,fun|n=>n⟩
theorem Bns:Go.Proofs.SlLaysF0.n6 Tryz.prog Bgn where
 mixed:=by kernel_rfl
 f6:=⟨"slices.SortFunc[[]exchequer/store.held,exchequer/store.held]",by decide,Tryz.func49.trans (congrArg some (by kernel_rfl))⟩
 f14:=⟨"slices.pdqsortCmpFunc[exchequer/store.held]",by decide,Tryz.func86.trans (congrArg some (by kernel_rfl))⟩
 f15:=Tryz.func87.trans (congrArg some (by kernel_rfl))
 f20:=⟨"slices.insertionSortCmpFunc[exchequer/store.held]",by decide,Tryz.func103.trans (congrArg some (by kernel_rfl))⟩
 f21:=⟨"slices.heapSortCmpFunc[exchequer/store.held]",by decide,Tryz.func104.trans (congrArg some (by kernel_rfl))⟩
 f22:=⟨"slices.breakPatternsCmpFunc[exchequer/store.held]",by decide,Tryz.func105.trans (congrArg some (by kernel_rfl))⟩
 f23:=⟨"slices.choosePivotCmpFunc[exchequer/store.held]",by decide,Tryz.func106.trans (congrArg some (by kernel_rfl))⟩
 f24:=⟨"slices.reverseRangeCmpFunc[exchequer/store.held]",by decide,Tryz.func107.trans (congrArg some (by kernel_rfl))⟩
 f25:=⟨"slices.partialInsertionSortCmpFunc[exchequer/store.held]",by decide,Tryz.func108.trans (congrArg some (by kernel_rfl))⟩
 f26:=⟨"slices.partitionEqualCmpFunc[exchequer/store.held]",by decide,Tryz.func109.trans (congrArg some (by kernel_rfl))⟩
 f27:=⟨"slices.partitionCmpFunc[exchequer/store.held]",by decide,Tryz.func110.trans (congrArg some (by kernel_rfl))⟩
 f28:=Tryz.func111.trans (congrArg some (by kernel_rfl))
 f29:=Tryz.func112.trans (congrArg some (by kernel_rfl))
 f46:=⟨"slices.siftDownCmpFunc[exchequer/store.held]",by decide,Tryz.func121.trans (congrArg some (by kernel_rfl))⟩
 f47:=Tryz.func122.trans (congrArg some (by kernel_rfl))
 f48:=Tryz.func123.trans (congrArg some (by kernel_rfl))
 f49:=⟨"slices.medianAdjacentCmpFunc[exchequer/store.held]",by decide,Tryz.func124.trans (congrArg some (by kernel_rfl))⟩
 f50:=⟨"slices.medianCmpFunc[exchequer/store.held]",by decide,Tryz.func125.trans (congrArg some (by kernel_rfl))⟩
 f57:=⟨"slices.order2CmpFunc[exchequer/store.held]",by decide,Tryz.func136.trans (congrArg some (by kernel_rfl))⟩
 t0:=Tryz.underlying0
 a0:=Tryz.isAgg0
 z0:=Tryz.sizeOf0
 v0:=Tryz.zeroValue0
 t3:=Tryz.underlying3
 a3:=Tryz.isAgg3
 z3:=Tryz.sizeOf3
 v3:=Tryz.zeroValue3
 t4:=Tryz.underlying4
 a4:=Tryz.isAgg4
 z4:=Tryz.sizeOf4
 v4:=Tryz.zeroValue4
 t5:=Tryz.underlying5
 a5:=Tryz.isAgg5
 z5:=Tryz.sizeOf5
 v5:=Tryz.zeroValue5
 t9:=Tryz.underlying9
 a9:=Tryz.isAgg9
 z9:=Tryz.sizeOf9
 v9:=Tryz.zeroValue9
 t22:=Tryz.underlying107
 a22:=Tryz.isAgg107
 z22:=Tryz.sizeOf107
 v22:=Tryz.zeroValue107
 t25:=Tryz.underlying122
 a25:=Tryz.isAgg122
 z25:=Tryz.sizeOf122
 v25:=Tryz.zeroValue122
 t39:=Tryz.underlying156
 a39:=Tryz.isAgg156
 z39:=Tryz.sizeOf156
 v39:=Tryz.zeroValue156
 t45:=Tryz.underlying168
 a45:=Tryz.isAgg168
 z45:=Tryz.sizeOf168
 v45:=Tryz.zeroValue168
 t46:=Tryz.underlying169
 a46:=Tryz.isAgg169
 z46:=Tryz.sizeOf169
 v46:=Tryz.zeroValue169
 t50:=Tryz.underlying149
 a50:=Tryz.isAgg149
 z50:=Tryz.sizeOf149
 v50:=Tryz.zeroValue149
 t53:=Tryz.underlying175
 a53:=Tryz.isAgg175
 z53:=Tryz.sizeOf175
 v53:=Tryz.zeroValue175
 t55:=Tryz.underlying177
 a55:=Tryz.isAgg177
 z55:=Tryz.sizeOf177
 v55:=Tryz.zeroValue177
 t66:=Tryz.underlying184
 a66:=Tryz.isAgg184
 z66:=Tryz.sizeOf184
 v66:=Tryz.zeroValue184
 t70:=Tryz.underlying188
 a70:=Tryz.isAgg188
 z70:=Tryz.sizeOf188
 v70:=Tryz.zeroValue188
 t76:=Tryz.underlying200
 a76:=Tryz.isAgg200
 z76:=Tryz.sizeOf200
 v76:=Tryz.zeroValue200
 t77:=Tryz.underlying82
 a77:=Tryz.isAgg82
 z77:=Tryz.sizeOf82
 v77:=Tryz.zeroValue82
theorem Bfi(x:List UInt8)(w:World):Calls Tryz.prog 88 #[.string ⟨⟨x⟩⟩] w fun e w'=>e= .returned (.bool false)∧w'=w:=by
 go_enter Tryz.func88,Tryz.ntmps88
 go_wp2
 go_ret
 exact⟨by simp,rfl⟩
def Aq2(x y:List UInt8):Int:=if x<y then -1 else if y<x then 1 else 0
theorem A5x(x y:List UInt8)(w:World):Calls Tryz.prog 51 #[.string ⟨⟨x⟩⟩,.string ⟨⟨y⟩⟩] w fun e w'=>e= .returned (.int .i64 (Aq2 x y))∧w'=w:=by
 go_enter Tryz.func51,Tryz.ntmps51
 go_wp2_with (go_at_call 88;refine(Bfi _ _).mono ?_;rintro e w' ⟨rfl,hw⟩;rw[hw])
 all_goals(go_ret;refine⟨?_,rfl⟩)
 ·rename_i h;have hx:x<y:=by rw[Kq]at h;exact of_decide_eq_true h
  show Ending.returned (Value.int .i64 (-1))=_;rw[Aq2,if_pos hx]
 ·rename_i h1 _ _ h;have hx:¬x<y:=by rw[Kq]at h1;exact of_decide_eq_false h1
  have hxy:y<x:=by
   rcases List.le_iff_lt_or_eq.1 (List.not_lt.1 hx)with h2|h2
   ·exact h2
   ·subst h2;simp at h
  show Ending.returned (Value.int .i64 1)=_;rw[Aq2,if_neg hx,if_pos hxy]
 ·rename_i h;have hxy:x=y:=by simpa using h
  subst hxy;show Ending.returned (Value.int .i64 0)=_;rw[Aq2,if_neg (Dt x),if_neg (Dt x)]
abbrev Ele:={e:List UInt8 × Value // e.2.oneCell'=true}
instance:Inhabited Ele:=⟨⟨([],.bool false),rfl⟩⟩
def S8(e:Ele):List Value:=[.string ⟨⟨e.1.1⟩⟩,e.1.2]
def Av0(x y:Ele):Int:=Aq2 x.1.1 y.1.1
set_option maxHeartbeats 1000000 in
theorem Bdd(x y:Ele)(W:World):Calls Tryz.prog 50 #[.agg (S8 x).toArray,.agg (S8 y).toArray] W fun e w'=>e= .returned (.int .i64 (Av0 x y))∧∃q os',w'=grow (W.drewN q) os':=by
 have Big:=fun W'=>A5x x.1.1 y.1.1 W'
 unfold Av0;generalize Aq2 x.1.1 y.1.1=r at Big ⊢;obtain⟨⟨xs,xv⟩,hx⟩:=x;obtain⟨⟨ys,yv⟩,hy⟩:=y;dsimp only[S8]at Big ⊢
 go_enter Tryz.func50,Tryz.ntmps50
 go_wp2_with (go_at_call 51;refine(Big _).mono ?_;rintro e w' ⟨rfl,rfl⟩)
 go_ret
 exact⟨rfl,0,_,by rw[alloc_eq_grow,alloc_eq_grow,grow_grow];rfl⟩
theorem ltE(x y:Ele):ltOf Av0 x y=decide (x.1.1<y.1.1):=by
 unfold ltOf Av0 Aq2;by_cases h1:x.1.1<y.1.1
 ·simp[h1]
 ·by_cases h2:y.1.1<x.1.1<;>simp[h1,h2]
theorem Bx5:SWO (ltOf Av0) where
 irrefl x:=by rw[ltE];exact decide_eq_false (Dt _)
 trans x y z h1 h2:=by rw[ltE]at*;exact decide_eq_true (E2 (of_decide_eq_true h1) (of_decide_eq_true h2))
 ntrans x y z h1 h2:=by
  rw[ltE]at*;exact decide_eq_false (List.not_lt.2 (List.le_trans (List.not_lt.1 (of_decide_eq_false h2)) (List.not_lt.1 (of_decide_eq_false h1))))
theorem Axi:∀(l:List Ele) (t:Nat),t<2*l.length→(Ng (l.map (·.1)))[t]?=some ((S8 l[t / 2]!)[t % 2]!)
 | [],t,h=>by simp at h
 |x::r,0,_=>rfl
 |x::r,1,_=>rfl
 |x::r,t+2,h=>by
  have h1:=Axi r t (by simp at h;omega)
  rw[show(t+2) / 2=t / 2+1 by omega,show(t+2) % 2=t % 2 by omega]
  simpa[Ng]using h1
theorem As3(d:Array Ele):(flatK S8 2 d).toList=Ng (d.toList.map (·.1)):=by
 apply List.ext_getElem?;intro t;have hs:(flatK S8 2 d).size=d.size*2:=size_flatK _ _ _;by_cases ht:t<d.size*2
 ·rw[Axi _ t (by simp;omega),Array.getElem?_toList,Bg (by omega), ←getElem!_pos (flatK S8 2 d) t (by omega),get_flatK _ _ _ _ ht]
  rw[getElem!_pos d (t / 2) (by omega),getElem!_pos d.toList (t / 2) (by rw[Array.length_toList];omega)]
  rfl
 ·rw[D9 (by simp;omega),D9 (by rw[Zo];simp;omega)]
theorem Bgm:A0x Tryz.prog 49 50 where
 some g cap xs cells ty W hg Kc h1 hlen:=by
  let d:Array Ele:=(xs.attach.map fun e=>(⟨e.1,h1 e.1 e.2⟩:Ele)).toArray
  have hd:d.toList.map (·.1)=xs:=by
   show(xs.attach.map _).map _=xs;rw[List.map_map];exact List.attach_map_subtype_val xs
  have hds:d.size=xs.length:=by simp[d]
  generalize d=d at hd hds;have hgl:g<W.heap.size:=(C3.1 hg).1;have hfl:(flatK S8 2 d).size=d.size*2:=size_flatK _ _ _;have Eh:∀j,j<d.size*2→cells[j]?=some (flatK S8 2 d)[j]! :=fun j hj=>by
   have e1:(cells.toList.take (2*xs.length))[j]?=cells[j]?:=by rw[List.getElem?_take_of_lt (by omega),Array.getElem?_toList]
   rw[←e1,Kc, ←hd, ←As3,Array.getElem?_toList,Bg (by omega), ←getElem!_pos (flatK S8 2 d) j (by omega)]
  have hH:HoldsK S8 2 W g 0 d:=fun j hj=>by
   rw[hfl]at hj;refine⟨?_,?_⟩
   ·simp only[World.cell?,hg,Bm];exact Eh j hj
   ·simp only[World.frozen?,hg];simp
  have h2:=AnyQ.slices_SortFunc Bns 2 Tryz.isAgg116 Tryz.sizeOf116 S8 (fun _=>rfl) (fun x v hv=>by
   simp only[S8,Ah,Ax,or_false]at hv;rcases hv with rfl|rfl
   ·rfl
   ·exact x.2) Av0 Bx5 50 #[] g 0 cap d W (enters_of Tryz.func50 (by kernel_rfl) rfl) (fun _ _ _ _ x y=>Bdd x y _) hH hgl (by omega)
  rw[hds]at h2;refine h2.mono ?_;rintro e w' ⟨rfl,d',n,os,hp,hso,rfl⟩;obtain⟨Cq,_,hpm⟩:=hp;rw[Array.extract_eq_self_of_le (by omega),Array.extract_eq_self_of_le (by omega)]at hpm
  refine⟨rfl,d'.toList.map (·.1),?_,?_,?_⟩
  ·rw[←hd];exact(hpm.map _).symm
  ·rw[List.pairwise_map,Jf];intro i j hi hj L7;have h3:=hso i j (A3 _) L7 (by simp at hj;omega)
   rw[ltE]at h3;have h4:=of_decide_eq_false h3;rw[getElem!_pos d' i (by simpa using hi),getElem!_pos d' j (by simpa using hj)]at h4
   simpa using h4
  ·have B18:(flatK S8 2 d').size=d'.size*2:=size_flatK _ _ _;have Acf:putCells id 0 (flatK S8 2 d') cells=(Ng (d'.toList.map (·.1))++cells.toList.drop (2*xs.length)).toArray:=by
    apply Array.ext_getElem?;intro k;simp only[putCells,Array.getElem?_mapIdx,List.getElem?_toArray];rw[←As3];by_cases hk:k<d'.size*2
    ·rw[B0 (by rw[Array.length_toList];omega),Array.getElem?_toList,Bg (xs:=flatK S8 2 d') (by omega), ←getElem!_pos (flatK S8 2 d') k (by omega),Eh k (by omega),Bx,if_pos ⟨A3 _,by omega⟩]
     rfl
    ·rw[Cf (by rw[Array.length_toList];omega),Ei]
     simp only[Array.length_toList];rw[Array.getElem?_toList];rw[show 2*xs.length+(k - (flatK S8 2 d').size)=k by omega]
     cases cells[k]? with
     |none=>rfl
     |some y=>rw[Bx,if_neg (by omega)]
   refine⟨rfl,rfl,rfl,?_,fun k hk _=>?_⟩
   ·show(W.heap.setIfInBounds _ _).size≤((W.heap.modify _ _)++os).size;simp
   ·have hk:k<W.heap.size:=by simpa[Hg]using hk
    show((W.heap.modify g (onCells _))++os)[k]?=(W.heap.setIfInBounds g _)[k]?;rw[D4 (by simpa using hk),Array.getElem?_modify,E4]
    by_cases hkg:g=k
    ·subst hkg;rw[if_pos rfl,if_pos rfl,if_pos hgl,hg, ←Acf];rfl
    ·rw[if_neg hkg,if_neg hkg]
 none W:=by
  refine(AnyF.slices_SortFunc_none Bns none 0 (.func (.func 50) #[] #[]) W).mono ?_;rintro e w' ⟨rfl,rfl⟩;exact⟨rfl,⟨rfl,rfl,rfl,Ay _,fun _ _ _=>rfl⟩⟩

open Go.Proofs
def Ajq(ks:List Kv):Nat:=(ks.map fun h=>h.vs.length).sum
theorem Avf{ks:List Kv}{k:Nat}{h:Kv}(hh:ks[k]?=some h):Ajq (ks.take (k+1))=Ajq (ks.take k)+h.vs.length:=by
 unfold Ajq;rw[D5,hh,B5,List.sum_append];simp
theorem Aji:∀{l:List Cv} {j:Nat} {p:Cv},l[j]?=some p→Rk (l.take (j+1))=Rk (l.take j)+(p.keys.length+Ajq p.keys)
 |q::r,0,p,h=>by
  obtain rfl:q=p:=by simpa using h
  simp[Rk,Ajq]
 |q::r,j+1,p,h=>by
  have:=Aji (l:=r) (j:=j) (p:=p) (by simpa using h)
  simp only[List.take_succ_cons,Rk,this];omega
def Lng(l:List Cv):Prop:=∀p∈l,p.keys.length≤1000000000000000∧∀h∈p.keys,h.vs.length≤1000000000000000
theorem Bax(l:List Cv)(ops:List K6)(hL:Lng l)(hR:Sz l=false):Fn Tryz.prog Ye [.v (.list (l.map Cv.Ap)),.v (.list (ops.map K6.Ap))] (Is (.v (.bool true)) [.no,.no]):=by
 refine X2 ?_ (by simp)
 have h1:=Aob ops;have Fk:(l.map Cv.Ap).length=l.length:=An _;repeat'((conv=>whnf);first|((with_reducible refine Ai (fun hb=>?_) fun hb=>?_)<;>first|exact absurd hb (by decide)|(try rw[hb]);try simp only[Am]at hb)|(with_reducible refine Aa ?_ ?_);focus (and_intros<;>first|with_reducible rfl|intro _ hh;cases hh;done|decide)|with_reducible intro Av|(with_reducible refine A5.mk ?_);refine⟨_,Aoa,?_⟩;rintro _ _ ⟨rfl,rfl⟩|(try dsimp only);rw[Fk])
 all_goals(try(conv=>whnf))
 refine Ep.by (X:=Nat × Nat) (fun y=>[(18,.v (ti (y.1:Int))),(5,.v (ti (y.2:Int)))]) (fun y=>y.1≤l.length∧y.2=Rk (l.take y.1)∧y.2≤200∧(0<y.1→l.length≤20)) (fun y=>l.length - y.1) (0,0) (by kernel_rfl) ⟨A3 _,rfl,A3 _,fun h=>by omega⟩ ?_
 rintro⟨j,n⟩ ⟨hj,hn,Vf,A2f⟩
 (try dsimp only at hj hn Vf A2f ⊢)
 have hw:=zwj (j:=j) (by omega)
 by_cases E6:j<l.length
 ·obtain⟨p,hp⟩:∃x,l[j]?=some x:=⟨_,Ac E6⟩;have h3:¬decide ((j:Int)<(l.length:Int))=false:=by simp;omega
  have hsn:=Aji hp;obtain⟨Bio,A2c⟩:=hL p (Aw hp);obtain⟨pn,Lm,L4,ks⟩:=p;dsimp only at hsn Bio A2c;have hkm:(ks.map Kv.Ap).length=ks.length:=An _;have Qf:IntKind.i64.wrap ((n:Int)+(ks.length:Int))=((n+ks.length:Nat):Int):=(Cd (by omega)).trans (by omega)
  repeat'((conv=>whnf);first|(with_reducible first|refine Bv (by first|exact Ae (by assumption)|rfl) fun hb=>?_|refine Bq (by first|assumption|rfl) fun hb=>?_);(try rw[hb]);try simp only[Am]at hb|(with_reducible refine Ai (fun hb=>?_) fun hb=>?_)<;>(((try rw[hb]);(try simp only[Am]at hb)))|(with_reducible refine Aa ?_ ?_);focus (and_intros<;>first|omega|with_reducible rfl|kernel_rfl)|with_reducible intro Av|(try dsimp only);(first|rw[Be hp]|rw[Fk]|rw[hkm])|skip;rw[Qf])
  all_goals(try(conv=>whnf))
  all_goals first
   |(apply D6<;>kernel_rfl)
   |skip
  refine Ep.by (X:=Nat × Nat) (fun y=>[(42,.v (ti (y.1:Int))),(5,.v (ti (y.2:Int)))]) (fun y=>y.1≤ks.length∧y.2=n+ks.length+Ajq (ks.take y.1)∧y.2≤200) (fun y=>ks.length - y.1) (0,n+ks.length) (by kernel_rfl) ⟨A3 _,rfl,by omega⟩ ?_
  rintro⟨k,m⟩ ⟨hk,hm,hm2⟩
  (try dsimp only at hk hm hm2 ⊢)
  have Sb:=zwj (j:=k) (by omega)
  by_cases L8:k<ks.length
  ·obtain⟨h,hh⟩:∃x,ks[k]?=some x:=⟨_,Ac L8⟩;have h5:¬decide ((k:Int)<(ks.length:Int))=false:=by simp;omega
   have Nr:=Avf hh;have hvb:=A2c h (Aw hh);obtain⟨Hk,vs⟩:=h;dsimp only at Nr hvb;have hvm:(vs.map Bt.Ap).length=vs.length:=An _;have Wc:IntKind.i64.wrap ((m:Int)+(vs.length:Int))=((m+vs.length:Nat):Int):=(Cd (by omega)).trans (by omega)
   repeat'((conv=>whnf);first|(with_reducible refine Bv (by exact Ae (by assumption)) fun hb=>?_);(try rw[hb]);try simp only[Am]at hb|(with_reducible refine Ai (fun hb=>?_) fun hb=>?_)<;>(((try rw[hb]);(try simp only[Am]at hb)))|(with_reducible refine Aa ?_ ?_);focus (and_intros<;>first|omega|with_reducible rfl|kernel_rfl)|with_reducible intro Av|(try dsimp only);(first|rw[Be hp]|rw[Be hh]|rw[hvm])|skip;rw[Sb]|skip;rw[Wc])
   all_goals(try(conv=>whnf))
   all_goals first
    |(apply D6<;>kernel_rfl)
    |skip
   refine Round.by (k+1,m+vs.length) ?_ ⟨by dsimp only;omega,by dsimp only;omega,by dsimp only;omega⟩ (by dsimp only;omega)
   try dsimp only
   show norm _ _=Dy _ _
   kernel_rfl
  have h5:¬decide ((k:Int)<(ks.length:Int))=true:=by simp;omega
  obtain rfl:k=ks.length:=by omega
  rw[Hb]at hm;repeat'((conv=>whnf);first|(with_reducible refine Bq (by first|assumption|exact Ag (by assumption)) fun hb=>?_);(try rw[hb]);try simp only[Am]at hb|skip;rw[hw])
  all_goals(try(conv=>whnf))
  refine Round.by (j+1,m) ?_ ⟨by dsimp only;omega,by dsimp only;omega,by dsimp only;omega,fun _=>(by omega)⟩ (by dsimp only;omega)
  try dsimp only
  show norm _ _=Dy _ _
  kernel_rfl
 have h3:¬decide ((j:Int)<(l.length:Int))=true:=by simp;omega
 obtain rfl:j=l.length:=by omega
 rw[Hb]at hn;have A2f:l.length≤20:=by omega
 have Cq:Rk l≤200:=by omega
 have hkb:∀p∈l,p.keys.length≤1000∧∀h∈p.keys,h.vs.length≤1000:=fun p hp=>by
  have h1:=Wj hp;exact⟨by omega,fun h hh=>by have h2:=Ahc (f:=fun h:Kv=>h.vs.length) hh;omega⟩
 have W4:Az2 l:=⟨by omega,fun p hp=>⟨by have:=(hkb p hp).1;omega,fun h hh=>by have:=(hkb p hp).2 h hh;omega⟩⟩
 cases hg:Ru 0 ops with
 |true=>
  rw[hg]at h1;repeat'((conv=>whnf);first|(with_reducible first|refine Bv (by first|assumption|rfl) fun hb=>?_|refine Bq (by first|assumption|exact Ag (by assumption)) fun hb=>?_);(try rw[hb]);try simp only[Am]at hb|(with_reducible refine Aa ?_ ?_);focus (and_intros<;>first|intro _ hh;cases hh;done|simp;done|decide)|(with_reducible refine A5.mk ?_);refine⟨_,h1,?_⟩;rintro _ _ ⟨rfl,rfl⟩)
  all_goals(try(conv=>whnf))
  all_goals((apply D6<;>kernel_rfl))
 |false=>
  rw[hg]at h1;have hcp:=Aqi l (by omega) hkb
  have hmk:Fn Tryz.prog Z6 [.v (.list (l.map Cv.Ap))] (Is (.Mp [.it .Ra,.it (.bool false)]) [.no]):=by
   have h2:=Ay2 Bgm l (by omega)
   unfold Ba1 at h2;rw[hR]at h2;exact h2
  have hsm:=Aqj l l W4 W4;rw[decide_eq_true rfl]at hsm;have hrt:=Aod l hkb;rw[hR]at hrt;repeat'((conv=>whnf);first|(with_reducible first|refine Bv (by rfl) fun hb=>?_|refine Bq (by first|assumption|exact Ag (by assumption)|rfl) fun hb=>?_);(try rw[hb]);try simp only[Am]at hb|((with_reducible refine Ai (fun hb=>?_) fun hb=>?_)<;>first|exact absurd hb (by decide)|(try rw[hb]);try simp only[Am]at hb)|(with_reducible refine Aa ?_ ?_);focus (and_intros<;>first|omega|intro _ hh;cases hh;done|simp;done|decide)|(with_reducible refine A5.mk ?_);(first|refine⟨_,h1,?_⟩|refine⟨_,hcp,?_⟩|refine⟨_,hmk,?_⟩|refine⟨_,hsm,?_⟩|refine⟨_,hrt,?_⟩);rintro _ _ ⟨rfl,rfl⟩)
  all_goals(try(conv=>whnf))
  all_goals((apply D6<;>kernel_rfl))

open Go.Proofs
structure Mde(j:Nat)(s:A6):Prop where
 j1:j≤100
 s1:G6 (200+41*j) s
 c1:Ro s
 v1:Vu s
 l1:s.sp.length≤8
theorem Bjr{j:Nat}{s:A6}(h:Mde j s):Fn Tryz.prog Zk [sP s] (Is (.v (.list (s.ref.map Cv.Ap))) [sP s]):=by
 obtain⟨hj,h,hc,hv,h8⟩:=h;have Mx:=A62 s h.nd (by omega)
 have hin:∀n∈s.names,n.length≤1000∧(s.fi n).isSome=true:=fun n hn=>by
  have hf:=Ann.1 hn;refine⟨?_,hf⟩;obtain⟨i,hi⟩:=Jr.1 hf;have:=h.name hi;omega
 have hd:=Bdk ofC s (h.bd (by omega)) s.names hin (by unfold A6.names;rw[Aex,An];omega) Mx
 rw[show s.names.map s.Ad5=s.ref from List.map_congr_left fun n hn=>by
  unfold A6.Ad5 A6.Hm;obtain⟨i,hi⟩:=Jr.1 (hin n hn).2;rw[Bdj (h.name hi) h.wi.1 fun y hy=>(h.wi.2 y hy).1]]at hd
 exact hd
theorem Bjs{j:Nat}{s:A6}(h:Mde j s)(hj:j<100)(o:K6)(o1:o.l.length≤40)(o2:o.n.length≤1000):
 Fn Tryz.prog Jp [sP s,rT s.ref,.v o.Ap] (Is (.v (.bool true)) [sP (s.Nk o),rT (s.Nk o).ref,.no])∧Fn Tryz.prog Mr [sP (s.Nk o),rT (s.Nk o).ref,.v (.str o.n)] (Is (.v (.bool true)) [sP (s.Nk o),rT (s.Nk o).ref,.no])∧Mde (j+1) (s.Nk o):=by
 obtain⟨_,h,hc,hv,h8⟩:=h;have h':G6 (200+41*(j+1)) (s.Nk o):=(h.step o (by omega)).mono (by omega)
 have hc':=hc.step h o;have Na:=hv.step h o;have h8':=Bjo h8 o;exact⟨Bht h (by omega) h8 hc o (by omega) o2,A9o h' (by omega) h8' hc' Na o.n,by omega,h',hc',Na,h8'⟩
theorem Bjq{l:List Cv}(hR:Sz l=true)(Cq:Rk l≤200):Fn Tryz.prog Z6 [.v (.list (l.map Cv.Ap))] fun r outs=>∃s:A6,(Mde 0 s∧s.ref=l)∧r= .Mp [.ptr s.Dp,.it (.bool true)]∧outs=[.no]:=by
 intro G σ Fr w Fj hw hz Ms;refine(Ay2 Bgm l (by omega) G σ Fr w Fj hw hz Ms).mono ?_
 rintro e w' ⟨r,outs,c,G',σ',he,⟨hr,rfl⟩,Az8⟩;refine⟨r,_,c,G',σ',he,?_,Az8⟩;rw[hR]at hr;obtain⟨d,hd,hs,rfl⟩:=hr;obtain⟨i1,i2,i3,i4,i5⟩:=Bjp (Aye hR) Cq hd hs;exact⟨Wh l d,⟨⟨by omega,i1,i2,i3,i5⟩,i4⟩,rfl,rfl⟩
theorem Bay(l:List Cv)(ops:List K6)(hL:Lng l)(hR:Sz l=true):Fn Tryz.prog Yf [.v (.list (l.map Cv.Ap)),.v (.list (ops.map K6.Ap))] (Is (.v (.bool true)) [.no,.no]):=by
 refine X3 ?_ (by simp)
 have h1:=Aob ops;have Fk:(l.map Cv.Ap).length=l.length:=An _;repeat'((conv=>whnf);first|((with_reducible refine Ai (fun hb=>?_) fun hb=>?_)<;>first|exact absurd hb (by decide)|(try rw[hb]);try simp only[Am]at hb)|(with_reducible refine Aa ?_ ?_);focus (and_intros<;>first|with_reducible rfl|intro _ hh;cases hh;done|decide)|with_reducible intro Av|(with_reducible refine A5.mk ?_);refine⟨_,Aoa,?_⟩;rintro _ _ ⟨rfl,rfl⟩|(try dsimp only);rw[Fk])
 all_goals(try(conv=>whnf))
 refine Ep.by (X:=Nat × Nat) (fun y=>[(18,.v (ti (y.1:Int))),(5,.v (ti (y.2:Int)))]) (fun y=>y.1≤l.length∧y.2=Rk (l.take y.1)∧y.2≤200∧(0<y.1→l.length≤20)) (fun y=>l.length - y.1) (0,0) (by kernel_rfl) ⟨A3 _,rfl,A3 _,fun h=>by omega⟩ ?_
 rintro⟨j,n⟩ ⟨hj,hn,Vf,A2f⟩
 (try dsimp only at hj hn Vf A2f ⊢)
 have hw:=zwj (j:=j) (by omega)
 by_cases E6:j<l.length
 ·obtain⟨p,hp⟩:∃x,l[j]?=some x:=⟨_,Ac E6⟩;have h3:¬decide ((j:Int)<(l.length:Int))=false:=by simp;omega
  have hsn:=Aji hp;obtain⟨Bio,A2c⟩:=hL p (Aw hp);obtain⟨pn,Lm,L4,ks⟩:=p;dsimp only at hsn Bio A2c;have hkm:(ks.map Kv.Ap).length=ks.length:=An _;have Qf:IntKind.i64.wrap ((n:Int)+(ks.length:Int))=((n+ks.length:Nat):Int):=(Cd (by omega)).trans (by omega)
  repeat'((conv=>whnf);first|(with_reducible first|refine Bv (by first|assumption|exact Ae (by assumption)|rfl) fun hb=>?_|refine Bq (by rfl) fun hb=>?_);(try rw[hb]);try simp only[Am]at hb|(with_reducible refine Ai (fun hb=>?_) fun hb=>?_)<;>(((try rw[hb]);(try simp only[Am]at hb)))|(with_reducible refine Aa ?_ ?_);focus (and_intros<;>first|omega|with_reducible rfl|kernel_rfl)|with_reducible intro Av|(try dsimp only);(first|rw[Be hp]|rw[Fk]|rw[hkm])|skip;rw[Qf])
  all_goals(try(conv=>whnf))
  all_goals first
   |(apply D6<;>kernel_rfl)
   |skip
  refine Ep.by (X:=Nat × Nat) (fun y=>[(42,.v (ti (y.1:Int))),(5,.v (ti (y.2:Int)))]) (fun y=>y.1≤ks.length∧y.2=n+ks.length+Ajq (ks.take y.1)∧y.2≤200) (fun y=>ks.length - y.1) (0,n+ks.length) (by kernel_rfl) ⟨A3 _,rfl,by omega⟩ ?_
  rintro⟨k,m⟩ ⟨hk,hm,hm2⟩
  (try dsimp only at hk hm hm2 ⊢)
  have Sb:=zwj (j:=k) (by omega)
  by_cases L8:k<ks.length
  ·obtain⟨h,hh⟩:∃x,ks[k]?=some x:=⟨_,Ac L8⟩;have h5:¬decide ((k:Int)<(ks.length:Int))=false:=by simp;omega
   have Nr:=Avf hh;have hvb:=A2c h (Aw hh);obtain⟨Hk,vs⟩:=h;dsimp only at Nr hvb;have hvm:(vs.map Bt.Ap).length=vs.length:=An _;have Wc:IntKind.i64.wrap ((m:Int)+(vs.length:Int))=((m+vs.length:Nat):Int):=(Cd (by omega)).trans (by omega)
   repeat'((conv=>whnf);first|(with_reducible refine Bv (by first|assumption|exact Ae (by assumption)) fun hb=>?_);(try rw[hb]);try simp only[Am]at hb|(with_reducible refine Ai (fun hb=>?_) fun hb=>?_)<;>(((try rw[hb]);(try simp only[Am]at hb)))|(with_reducible refine Aa ?_ ?_);focus (and_intros<;>first|omega|with_reducible rfl|kernel_rfl)|with_reducible intro Av|(try dsimp only);(first|rw[Be hp]|rw[Be hh]|rw[hvm])|skip;rw[Sb]|skip;rw[Wc])
   all_goals(try(conv=>whnf))
   all_goals first
    |(apply D6<;>kernel_rfl)
    |skip
   refine Round.by (k+1,m+vs.length) ?_ ⟨by dsimp only;omega,by dsimp only;omega,by dsimp only;omega⟩ (by dsimp only;omega)
   try dsimp only
   show norm _ _=Dy _ _
   kernel_rfl
  have h5:¬decide ((k:Int)<(ks.length:Int))=true:=by simp;omega
  obtain rfl:k=ks.length:=by omega
  rw[Hb]at hm;repeat'((conv=>whnf);first|(with_reducible refine Bq (by exact Ag (by assumption)) fun hb=>?_);(try rw[hb]);try simp only[Am]at hb|skip;rw[hw])
  all_goals(try(conv=>whnf))
  refine Round.by (j+1,m) ?_ ⟨by dsimp only;omega,by dsimp only;omega,by dsimp only;omega,fun _=>(by omega)⟩ (by dsimp only;omega)
  try dsimp only
  show norm _ _=Dy _ _
  kernel_rfl
 have h3:¬decide ((j:Int)<(l.length:Int))=true:=by simp;omega
 obtain rfl:j=l.length:=by omega
 rw[Hb]at hn;have A2f:l.length≤20:=by omega
 have Cq:Rk l≤200:=by omega
 have hkb:∀p∈l,p.keys.length≤1000∧∀h∈p.keys,h.vs.length≤1000:=fun p hp=>by
  have h1:=Wj hp;exact⟨by omega,fun h hh=>by have h2:=Ahc (f:=fun h:Kv=>h.vs.length) hh;omega⟩
 have W4:Az2 l:=⟨by omega,fun p hp=>⟨by have:=(hkb p hp).1;omega,fun h hh=>by have:=(hkb p hp).2 h hh;omega⟩⟩
 cases hg:Ru 0 ops with
 |true=>
  rw[hg]at h1;repeat'((conv=>whnf);first|(with_reducible first|refine Bv (by first|assumption|rfl) fun hb=>?_|refine Bq (by exact Ag (by assumption)) fun hb=>?_);(try rw[hb]);try simp only[Am]at hb|(with_reducible refine Aa ?_ ?_);focus (and_intros<;>first|intro _ hh;cases hh;done|simp;done|decide)|(with_reducible refine A5.mk ?_);refine⟨_,h1,?_⟩;rintro _ _ ⟨rfl,rfl⟩)
  all_goals(try(conv=>whnf))
  all_goals((apply D6<;>kernel_rfl))
 |false=>
  rw[hg]at h1;obtain⟨hol,hoo⟩:=A1q hg (by omega)
  have hcp:=Aqi l (by omega) hkb
  have hsm:=Aqj l l W4 W4;rw[decide_eq_true rfl]at hsm;have hrt:=Aod l hkb;rw[hR]at hrt;have hmk:=Bjq hR Cq;repeat'((conv=>whnf);first|(with_reducible refine Bq (by first|assumption|exact Ag (by assumption)|rfl) fun hb=>?_);(try rw[hb]);try simp only[Am]at hb|(with_reducible refine Aa ?_ ?_);focus (and_intros<;>first|omega|intro _ hh;cases hh;done|simp;done|decide)|(with_reducible refine A5.mk ?_);(first|refine⟨_,h1,?_⟩|refine⟨_,hcp,?_⟩);rintro _ _ ⟨rfl,rfl⟩)
  all_goals(try(conv=>whnf))
  with_reducible refine A5.mk ?_
  refine⟨_,hmk,?_⟩;rintro _ _ ⟨s,⟨hM,hSR⟩,rfl,rfl⟩;have hdu:=Bjr hM;rw[hSR]at hdu;repeat'((conv=>whnf);first|(with_reducible refine Bq (by first|assumption|rfl) fun hb=>?_);(try rw[hb]);try simp only[Am]at hb|((with_reducible refine Ai (fun hb=>?_) fun hb=>?_)<;>first|exact absurd hb (by decide)|(try rw[hb]);try simp only[Am]at hb)|(with_reducible refine Aa ?_ ?_);focus (and_intros<;>first|omega|with_reducible rfl|kernel_rfl|intro _ hh;cases hh;done|simp;done|decide)|with_reducible intro Av|(with_reducible refine A5.mk ?_);(first|refine⟨_,hsm,?_⟩|refine⟨_,hrt,?_⟩|refine⟨_,hdu,?_⟩);rintro _ _ ⟨rfl,rfl⟩)
  all_goals(try(conv=>whnf))
  refine Ep.by (X:=Nat × A6) (fun y=>[(101,.v (ti (y.1:Int))),(9,sP y.2),(11,rT y.2.ref)]) (fun y=>y.1≤ops.length∧Mde y.1 y.2) (fun y=>ops.length - y.1) (0,s) (by subst hSR;kernel_rfl) ⟨A3 _,hM⟩ ?_
  clear hdu hmk hM hSR;rename A6=>s0
  rintro⟨j,s⟩ ⟨hj,hM⟩
  (try dsimp only at hj hM ⊢)
  have hw:=zwj (j:=j) (by omega)
  have hom:(ops.map K6.Ap).length=ops.length:=An _;by_cases E6:j<ops.length
  ·obtain⟨o,ho⟩:∃x,ops[j]?=some x:=⟨_,Ac E6⟩;have h3:¬decide ((j:Int)<((ops.map K6.Ap).length:Int))=false:=by simp;omega
   have h4:¬decide ((j:Int)<(ops.length:Int))=false:=by simp;omega
   obtain⟨o1,o2⟩:=hoo o (Aw ho);obtain⟨hd,hc,hM2⟩:=Bjs hM (by omega) o o1 o2
   generalize s.Nk o=s' at hd hc hM2;generalize hR1:s.ref=R1 at*;generalize hR2:s'.ref=R2 at*;obtain⟨k,n,cl,⟨xf,xt⟩,rev,most⟩:=o;repeat'((conv=>whnf);first|(with_reducible first|refine Bv (by first|assumption|exact Ae (by assumption)) fun hb=>?_|refine Bq (by first|assumption|rfl) fun hb=>?_);(try rw[hb]);try simp only[Am]at hb|((with_reducible refine Ai (fun hb=>?_) fun hb=>?_)<;>first|exact absurd hb (by decide)|(try rw[hb]);try simp only[Am]at hb)|(with_reducible refine Aa ?_ ?_);focus (and_intros<;>first|omega|kernel_rfl|intro _ hh;cases hh;done|simp;done|decide)|(try dsimp only);rw[Be ho]|(with_reducible refine A5.mk ?_);(first|refine⟨_,hd,?_⟩|refine⟨_,hc,?_⟩);rintro _ _ ⟨rfl,rfl⟩|(try dsimp only);rw[hw]|skip;rw[hom])
   all_goals(try(conv=>whnf))
   refine Round.by (j+1,s') ?_ ⟨by dsimp only;omega,hM2⟩ (by dsimp only;omega)
   try dsimp only
   rw[hR2];show norm _ _=Dy _ _
   kernel_rfl
  have h3:¬decide ((j:Int)<((ops.map K6.Ap).length:Int))=true:=by simp;omega
  have h4:¬decide ((j:Int)<(ops.length:Int))=true:=by simp;omega
  repeat'((conv=>whnf);first|(with_reducible refine Bq (by first|assumption|exact Ag (by assumption)) fun hb=>?_);(try rw[hb]);try simp only[Am]at hb|skip;rw[hom])
  all_goals(try(conv=>whnf))
  (apply D6<;>kernel_rfl)

open Go.Proofs
theorem Bfs(l:List Cv)(ops:List K6)(hL:Lng l):Fn Tryz.prog 4 [.v (.list (l.map Cv.Ap)),.v (.list (ops.map K6.Ap))] (Is (.v (.bool true)) [.no,.no]):=by
 cases hR:Sz l with
 |false=>exact Bax l ops hL hR
 |true=>exact Bay l ops hL hR
end Go.Ab
