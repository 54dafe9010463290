/- Lemmas -/
import Derived.Test.YtgcccllpegilnaaGreatDoorA11
import Derived.Shelf.SlSortCmp.WholeK
import Derived.Laws.Cover1
set_option linter.unusedVariables false
set_option linter.unusedSimpArgs false
set_option maxRecDepth 100000
namespace Go.Ab
open Go.Proofs Go.Shelf
def Atb:Ren:=⟨fun n=>if n=6 then 140 else if n=14 then 148 else if n=15 then 149 else if n=20 then 153 else if n=21 then 154 else if n=22 then 155 else if n=23 then 156 else if n=24 then 157 else if n=25 then 158 else if n=26 then 159 else if n=27 then 160 else if n=28 then 161 else if n=29 then 162 else if n=46 then 163 else if n=47 then 164 else if n=48 then 165 else if n=49 then 166 else if n=50 then 167 else if n=57 then 168 else n,fun n=>if n=0 then 0 else if n=3 then 3 else if n=4 then 4 else if n=5 then 5 else if n=9 then 9 else if n=22 then 97 else if n=24 then 34 else if n=25 then 181 else if n=39 then 145 else if n=45 then 194 else if n=46 then 195 else if n=50 then 117 else if n=53 then 141 else if n=55 then 114 else if n=66 then 202 else if n=70 then 206 else if n=76 then 208 else if n=77 then 209 else n,fun n=>n⟩
theorem Bgi:SlLaysF0.n6 Tryz.prog Atb where
 mixed:=by kernel_rfl
 f6:=⟨Tryz.f140.name,by kernel_rfl,by kernel_rfl⟩
 f14:=⟨Tryz.f148.name,by kernel_rfl,by kernel_rfl⟩
 f15:=by kernel_rfl
 f20:=⟨Tryz.f153.name,by kernel_rfl,by kernel_rfl⟩
 f21:=⟨Tryz.f154.name,by kernel_rfl,by kernel_rfl⟩
 f22:=⟨Tryz.f155.name,by kernel_rfl,by kernel_rfl⟩
 f23:=⟨Tryz.f156.name,by kernel_rfl,by kernel_rfl⟩
 f24:=⟨Tryz.f157.name,by kernel_rfl,by kernel_rfl⟩
 f25:=⟨Tryz.f158.name,by kernel_rfl,by kernel_rfl⟩
 f26:=⟨Tryz.f159.name,by kernel_rfl,by kernel_rfl⟩
 f27:=⟨Tryz.f160.name,by kernel_rfl,by kernel_rfl⟩
 f28:=by kernel_rfl
 f29:=by kernel_rfl
 f46:=⟨Tryz.f163.name,by kernel_rfl,by kernel_rfl⟩
 f47:=by kernel_rfl
 f48:=by kernel_rfl
 f49:=⟨Tryz.f166.name,by kernel_rfl,by kernel_rfl⟩
 f50:=⟨Tryz.f167.name,by kernel_rfl,by kernel_rfl⟩
 f57:=⟨Tryz.f168.name,by kernel_rfl,by kernel_rfl⟩
 t0:=by kernel_rfl
 a0:=fun _=>by kernel_rfl
 z0:=fun _=>by kernel_rfl
 v0:=fun _=>by kernel_rfl
 t3:=by kernel_rfl
 a3:=fun _=>by kernel_rfl
 z3:=fun _=>by kernel_rfl
 v3:=fun _=>by kernel_rfl
 t4:=by kernel_rfl
 a4:=fun _=>by kernel_rfl
 z4:=fun _=>by kernel_rfl
 v4:=fun _=>by kernel_rfl
 t5:=by kernel_rfl
 a5:=fun _=>by kernel_rfl
 z5:=fun _=>by kernel_rfl
 v5:=fun _=>by kernel_rfl
 t9:=by kernel_rfl
 a9:=fun _=>by kernel_rfl
 z9:=fun _=>by kernel_rfl
 v9:=fun _=>by kernel_rfl
 t22:=by kernel_rfl
 a22:=fun _=>by kernel_rfl
 z22:=fun _=>by kernel_rfl
 v22:=fun _=>by kernel_rfl
 t25:=by kernel_rfl
 a25:=fun _=>by kernel_rfl
 z25:=fun _=>by kernel_rfl
 v25:=fun _=>by kernel_rfl
 t39:=by kernel_rfl
 a39:=fun _=>by kernel_rfl
 z39:=fun _=>by kernel_rfl
 v39:=fun _=>by kernel_rfl
 t45:=by kernel_rfl
 a45:=fun _=>by kernel_rfl
 z45:=fun _=>by kernel_rfl
 v45:=fun _=>by kernel_rfl
 t46:=by kernel_rfl
 a46:=fun _=>by kernel_rfl
 z46:=fun _=>by kernel_rfl
 v46:=fun _=>by kernel_rfl
 t50:=by kernel_rfl
 a50:=fun _=>by kernel_rfl
 z50:=fun _=>by kernel_rfl
 v50:=fun _=>by kernel_rfl
 t53:=by kernel_rfl
 a53:=fun _=>by kernel_rfl
 z53:=fun _=>by kernel_rfl
 v53:=fun _=>by kernel_rfl
 t55:=by kernel_rfl
 a55:=fun _=>by kernel_rfl
 z55:=fun _=>by kernel_rfl
 v55:=fun _=>by kernel_rfl
 t66:=by kernel_rfl
 a66:=fun _=>by kernel_rfl
 z66:=fun _=>by kernel_rfl
 v66:=fun _=>by kernel_rfl
 t70:=by kernel_rfl
 a70:=fun _=>by kernel_rfl
 z70:=fun _=>by kernel_rfl
 v70:=fun _=>by kernel_rfl
 t76:=by kernel_rfl
 a76:=fun _=>by kernel_rfl
 z76:=fun _=>by kernel_rfl
 v76:=fun _=>by kernel_rfl
 t77:=by kernel_rfl
 a77:=fun _=>by kernel_rfl
 z77:=fun _=>by kernel_rfl
 v77:=fun _=>by kernel_rfl

open Go.Proofs Go.Shelf Go.RowKit Go.Lib Go.Sort
set_option maxHeartbeats 1000000 in
theorem Baz(x:ByteArray)(w:World):Calls Tryz.prog 129 #[.string x] w fun e w'=>e= .returned (.bool false)∧w'=w:=by
 go_enter Tryz.func129,Tryz.ntmps129
 go_wp2
 go_ret
 exact⟨by simp,rfl⟩
set_option maxHeartbeats 1000000 in
theorem A26(x y:Ai)(w:World):Calls Tryz.prog 111 #[.string ⟨⟨x⟩⟩,.string ⟨⟨y⟩⟩] w fun e w'=>e= .returned (.int .i64 (G6 x y))∧w'=w:=by
 go_enter Tryz.func111,Tryz.ntmps111
 go_wp2_with (go_at_call 129;refine(Baz _ _).mono ?_;rintro e w' ⟨rfl,hw⟩;rw[hw])
 all_goals(go_ret;refine⟨?_,rfl⟩)
 all_goals(refine congrArg (fun n=>Ending.returned (Value.int .i64 n)) ?_)
 all_goals(simp[G6,G5]at*)
 all_goals grind
def Ej(s:Sp):List Value:=[.string ⟨⟨s.f⟩⟩,.string ⟨⟨s.t⟩⟩]
set_option maxHeartbeats 1000000 in
theorem Bjs(x y:Sp)(w:World):Calls Tryz.prog 141 #[.agg (Ej x).toArray,.agg (Ej y).toArray] w fun e w'=>e= .returned (.int .i64 (G6 x.f y.f))∧∃q os',w'=grow (w.drewN q) os':=by
 have Bio:=fun W'=>A26 x.f y.f W'
 generalize G6 x.f y.f=r at Bio ⊢;unfold Ej
 go_enter Tryz.func141,Tryz.ntmps141
 go_wp2_with (go_at_call 111;refine(Bio _).mono ?_;rintro e w' ⟨rfl,rfl⟩)
 go_ret
 exact⟨rfl,0,_,by rw[alloc_eq_grow,alloc_eq_grow,grow_grow];rfl⟩
instance:Inhabited Sp:=⟨⟨[],[]⟩⟩
theorem Bee(Sm off size:Nat)(w:World):CmpLays Tryz.prog 141 #[] Ej 2 (fun x y=>G6 x.f y.f) Sm off size w:=
 fun _ _ _ _ x y=>Bjs x y _
theorem ltF(x y:Sp):ltOf (fun x y:Sp=>G6 x.f y.f) x y=decide (x.f<y.f):=by
 unfold ltOf G6;by_cases h:x.f<y.f
 ·simp[h]
 ·by_cases h2:y.f<x.f<;>simp[h,h2]
theorem Bpk:SWO (ltOf fun x y:Sp=>G6 x.f y.f) where
 irrefl x:=by rw[ltF];simp
 trans x y z h1 h2:=by rw[ltF]at*;simp at*;grind
 ntrans x y z h1 h2:=by rw[ltF]at*;simp at*;grind
set_option maxHeartbeats 1000000

open Go.Proofs
theorem A0j{l:List I}{n:Nat}{y u:I}(h:l[n]?=some y):Nf l [n] u=l.set n u:=by
 have:y.put [] u=u:=by cases y<;>rfl
 simp[Nf,h,this]
def Ju(s:Sp):Bool:=decide (Dk s)
theorem Aua:∀{l:List Sp} {k:Nat},Uz Un k l= -1→l.filter Ju=l
 | [],_,_=>rfl
 |s::r,k,h=>by
  unfold Uz at h;split at h
  ·omega
  ·rename_i hs;have hg:Ju s=true:=by simpa[Un,Ju]using hs
   rw[List.filter_cons,if_pos hg,Aua h]
theorem Aub:∀{l:List Sp} {k:Nat},Uz Un k l≠ -1→∃i:Nat,Uz Un k l=k+i∧i<l.length∧(l.take i).filter Ju=l.take i∧∃s,l[i]?=some s∧Un s=true
 | [],k,h=>by simp[Uz]at h
 |s::r,k,h=>by
  unfold Uz at h ⊢;split
  ·rename_i hs;exact⟨0,by simp,by simp,rfl,s,rfl,hs⟩
  ·rename_i hs;rw[if_neg hs]at h;obtain⟨i,h1,h2,h3,h4⟩:=Aub h;have hg:Ju s=true:=by simpa[Un,Ju]using hs
   refine⟨i+1,by rw[h1];simp;omega,by simpa using h2,?_,by simpa using h4⟩
   rw[List.take_succ_cons,List.filter_cons,if_pos hg,h3]
theorem A3w(l:List Sp)(hl:l.length≤1000000):Fn Tryz.prog Ms [.vec 34 2 (Cj l),.v (.fn 139)] (Is (.vec 34 2 (Cj (l.filter Ju))) [.no,.no]):=by
 refine Md ?_ (by simp)
 have Acs:=A8t l hl;by_cases hn:Uz Un 0 l= -1
 ·rw[hn]at Acs;repeat'((conv=>whnf);first|(apply aI<;>intro hb<;>first|exact absurd hb (by decide)|((try rw[hb]);(try simp only[Ad]at hb)))|(refine eI ?_ ?_;focus (and_intros<;>first|omega|exact rfl|(simp;done)))|(refine Ac.mk ⟨_,Acs,?_⟩;rintro _ _ ⟨rfl,rfl⟩))
  all_goals(try(conv=>whnf))
  exact Bd.mk ⟨by rw[Aua hn],by kernel_rfl⟩ (by kernel_rfl)
 obtain⟨i0,Mv,Asc,hf0,b0,Y0,A6r⟩:=Aub hn;rw[Mv,show((0:Nat):Int)+(i0:Int)=(i0:Int)from by omega]at Acs
 have n1:¬decide ((i0:Int)= -1)=true:=by simp
 have hw0:IntKind.i64.wrap ((i0:Int)+1)=((i0+1:Nat):Int):=(Cf (by omega)).trans (by omega)
 repeat'((conv=>whnf);first|(apply aI<;>intro hb<;>first|exact absurd hb (by assumption)|((try rw[hb]);(try simp only[Ad]at hb)))|(refine eI ?_ ?_;focus (and_intros<;>first|omega|(simp;done)))|(refine Ac.mk ⟨_,Acs,?_⟩;rintro _ _ ⟨rfl,rfl⟩)|((try dsimp only);rw[hw0]))
 all_goals(try(conv=>whnf))
 have Gb:l.length≤maxLen:=by simp only[maxLen];omega
 refine Bq.by (X:=Nat × Nat × List Sp) (fun x=>[(42,.vec 34 2 (Cj x.2.2)),(5,.v (.int .i64 x.2.1)),(6,.v (.int .i64 x.1))])
  (fun x=>x.2.1<x.1∧x.1≤l.length∧x.2.2.length=l.length∧x.2.2.drop x.1=l.drop x.1∧x.2.2.take x.2.1=(l.take x.1).filter Ju) (fun x=>l.length - x.1)
  (i0+1,i0,l) (by kernel_rfl) ⟨Nat.lt_succ_self _,Asc,rfl,rfl,by
    have hbg:¬Ju b0=true:=by simpa[Un,Ju]using A6r
    rw[List.take_add_one,Y0,List.filter_append,hf0];simp[hbg]⟩ ?_
 rintro⟨j,i,c⟩ ⟨h1,h2,h3,h4,h5⟩;dsimp only at h1 h2 h3 h4 h5 ⊢;by_cases hj:j<l.length
 case neg=>
  have Bb:¬decide ((j:Int)<((Cj c).length:Int))=true:=by simp;omega
  have hle:(i:Int)≤((Cj c).length:Int):=by simp;omega
  have Box:Int.toNat (i:Int)≤(Cj c).length:=by simp;omega
  rw[show l.take j=l from List.take_of_length_le (by omega)]at h5
  have Bi8:(i:Int)≤(((Cj c).take (i:Int).toNat++List.replicate ((Cj c).length - (i:Int).toNat) (I.agg [I.str [],I.str []])).length:Int):=by
   simp only[List.length_append,List.length_take,List.length_replicate,List.length_map];omega
  repeat'((conv=>whnf);first|(apply aI<;>intro hb<;>first|exact absurd hb (by assumption)|((try rw[hb]);(try simp only[Ad]at hb)))|(refine eI ?_ ?_;focus (and_intros<;>first|omega|exact rfl|(simp;done)))|(intro Aa))
  all_goals(try(conv=>whnf))
  refine Bd.mk ⟨congrArg (fun l=>SV.vec 34 2 l) ?_,by kernel_rfl⟩ (by kernel_rfl)
  rw[←h5,Int.toNat_natCast,List.take_append_of_le_length (by simp;omega),List.take_take,Nat.min_self]
  simp[Cj]
 obtain⟨e,he⟩:∃e,l[j]?=some e:=⟨_,List.getElem?_eq_getElem hj⟩;have hce:c[j]?=some e:=by
  have:=congrArg (fun q=>q[0]?) h4
  simp only[List.getElem?_drop,Nat.add_zero]at this;rw[this,he]
 have Bb:¬decide ((j:Int)<((Cj c).length:Int))=false:=by simp;omega
 have hgc:(Cj c)[Int.toNat (j:Int)]?=some e.Ae:=Vg hce;have hh:=V1 (e:=34) (sz:=2) hgc;have Nq:Int.toNat (j:Int)<(Cj c).length:=by simp;omega
 have hki:Int.toNat (i:Int)<(Cj c).length:=by simp;omega
 obtain⟨y,hy⟩:∃y,c[i]?=some y:=⟨_,List.getElem?_eq_getElem (by omega)⟩
 have hgi:(Cj c)[Int.toNat (i:Int)]?=some y.Ae:=Vg hy;have hhi:=V1 (e:=34) (sz:=2) hgi;have Di:l.length - (j+1)<l.length - j:=by omega
 have hwj:IntKind.i64.wrap ((j:Int)+1)=((j+1:Nat):Int):=(Cf (by omega)).trans (by omega)
 have hwi:IntKind.i64.wrap ((i:Int)+1)=((i+1:Nat):Int):=(Cf (by omega)).trans (by omega)
 have htk:(l.take (j+1)).filter Ju=(l.take j).filter Ju++[e].filter Ju:=by rw[List.take_add_one,he,List.filter_append];rfl
 by_cases hr:Dk e
 ·have n2:¬(!(!decide (Dk e)))=false:=by simp[hr]
  have hg2:Ju e=true:=by simp[Ju,hr]
  repeat'((conv=>whnf);first|(apply aI<;>intro hb<;>first|exact absurd hb (by assumption)|((try rw[hb]);(try simp only[Ad]at hb)))|(refine eI ?_ ?_;focus (and_intros<;>first|omega|exact rfl|(intro _ hh;cases hh;done)|(simp;done)|decide))|(intro Aa)|((try dsimp only);rw[hh])|((try dsimp only);rw[hhi])|(refine Ac.mk ⟨_,Atj _,?_⟩;rintro _ _ ⟨rfl,rfl⟩))
  all_goals(try(conv=>whnf))
  refine Round.by (j+1,i+1,c.set i e) ?_ ⟨by dsimp only;omega,hj,by simp[h3],?_,?_⟩ Di
  ·have Fe:Cj (c.set i e)=Nf (Cj c) [Int.toNat (i:Int)] ((I.agg [I.str [],I.str []]).put [] e.Ae):=by
    rw[A0j hgi,Int.toNat_natCast];simp only[Cj,List.map_set];rfl
   dsimp only;rw[hwj,hwi,Fe];show norm _ _=Bt _ _
   kernel_rfl
  ·dsimp only;have:=congrArg (List.drop 1) h4;rw[List.drop_set_of_lt (by omega)]
   simpa[List.drop_drop]using this
  ·dsimp only;rw[htk, ←h5,List.take_add_one,List.getElem?_set_self (by omega),List.take_set_of_le (by omega)]
   simp[hg2]
 ·have n2:¬(!(!decide (Dk e)))=true:=by simp[hr]
  have hg2:¬Ju e=true:=by simp[Ju,hr]
  repeat'((conv=>whnf);first|(apply aI<;>intro hb<;>first|exact absurd hb (by assumption)|((try rw[hb]);(try simp only[Ad]at hb)))|(refine eI ?_ ?_;focus (and_intros<;>first|omega|exact rfl|(intro _ hh;cases hh;done)|(simp;done)|decide))|(intro Aa)|((try dsimp only);rw[hh])|(refine Ac.mk ⟨_,Atj _,?_⟩;rintro _ _ ⟨rfl,rfl⟩))
  all_goals(try(conv=>whnf))
  refine Round.by (j+1,i,c) ?_ ⟨by dsimp only;omega,hj,h3,?_,?_⟩ Di
  ·rw[hwj];show norm _ _=Bt _ _
   kernel_rfl
  ·have:=congrArg (List.drop 1) h4;simpa[List.drop_drop]using this
  ·rw[htk,h5];simp[hg2]

open Go.Proofs Go.Shelf Go.RowKit Go.Lib Go.Sort
theorem Anq:∀(l:List Sp) (t:Nat),t<l.length*2→((l.map Ej).flatten)[t]?=some ((Ej (l[t / 2]!))[t % 2]!)
 | [],t,h=>by simp at h
 |s::r,0,_=>by simp[Ej]
 |s::r,1,_=>by simp[Ej]
 |s::r,t+2,h=>by
  have:=Anq r t (by simp at h;omega)
  rw[show(t+2) / 2=t / 2+1 by omega,show(t+2) % 2=t % 2 by omega]
  simp only[List.map_cons,List.flatten_cons];rw[List.getElem?_append_right (by simp[Ej])]
  simpa[Ej]using this
theorem Acq:∀l:List Sp,((l.map Ej).flatten).length=l.length*2
 | []=>rfl
 |s::r=>by
  simp only[List.map_cons,List.flatten_cons,List.length_append,Acq r,List.length_cons];simp[Ej];omega
theorem A9q(l:List Sp):(flatK Ej 2 l.toArray).toList=(l.map Ej).flatten:=by
 apply List.ext_getElem?;intro t;by_cases h:t<l.length*2
 ·rw[Anq l t h];have hs:t<(flatK Ej 2 l.toArray).size:=by simpa using h
  have:=get_flatK Ej 2 l.toArray t (by simpa using h)
  rw[getElem!_pos _ t hs]at this;rw[Array.getElem?_toList,Array.getElem?_eq_getElem hs,this];simp
 ·rw[List.getElem?_eq_none (by simp;omega),List.getElem?_eq_none (by rw[Acq];omega)]
theorem Bbd{G:Mem}{s:Sp}{cs:List Value}:A1 G s.Ae cs↔cs=Ej s∧s.f.length≤maxLen∧s.t.length≤maxLen:=by
 unfold Sp.Ae Ej;simp only[A1,A0];constructor
 ·rintro⟨c,d,rfl,⟨rfl,h1⟩,c',d',rfl,⟨rfl,h2⟩,rfl⟩;exact⟨rfl,h1,h2⟩
 ·rintro⟨rfl,h1,h2⟩;exact⟨_,_,rfl,⟨rfl,h1⟩,_,_,rfl,⟨rfl,h2⟩,rfl⟩
theorem Ak6{G:Mem}:∀{l:List Sp} {cs:List Value},A0 G (Cj l) cs↔cs=(l.map Ej).flatten∧∀s∈l,s.f.length≤maxLen∧s.t.length≤maxLen
 | [],cs=>by simp[A0,Cj]
 |s::r,cs=>by
  simp only[Cj,List.map_cons,A0,List.flatten_cons];constructor
  ·rintro⟨c,d,rfl,h1,h2⟩;obtain⟨rfl,h3⟩:=Bbd.1 h1;obtain⟨rfl,h4⟩:=Ak6.1 h2;refine⟨rfl,fun x hx=>?_⟩
   rcases List.mem_cons.1 hx with rfl|hx
   ·exact h3
   ·exact h4 x hx
  ·rintro⟨rfl,h⟩;exact⟨_,_,rfl,Bbd.2 ⟨rfl,h s (List.mem_cons_self ..)⟩,Ak6.2 ⟨rfl,fun x hx=>h x (List.mem_cons_of_mem _ hx)⟩⟩
theorem Ap2{w:World}{g:Nat}{cur:Array Value}{e:TypeId}{l:List Sp}(hb:w.heap[g]?=some (.cells cur e (0,0)))(ht:cur.toList.take (l.length*2)=(l.map Ej).flatten):HoldsK Ej 2 w g 0 l.toArray:=by
 intro j hj;have Kt:j<l.length*2:=by simpa using hj
 refine⟨?_,by simp[World.frozen?,hb]⟩
 have h1:(cur.toList.take (l.length*2))[j]?=((l.map Ej).flatten)[j]?:=by rw[ht]
 rw[List.getElem?_take_of_lt Kt,Anq l j Kt]at h1;simp only[World.cell?,hb,Nat.zero_add];simp only[Option.isSome_none,Bool.false_eq_true,if_false];rw[←Array.getElem?_toList,h1,get_flatK Ej 2 l.toArray j (by simpa using Kt)]
 simp
theorem Ayt{w:World}{g n:Nat}{os:Array Obj}{cur:Array Value}{e:TypeId}{fr:Nat × Nat}(d:Array Sp)(hb:w.heap[g]?=some (.cells cur e fr)):
 (sortWorldK Ej 2 w g 0 n d os).heap[g]?=some (.cells (putCells id 0 (flatK Ej 2 d) cur) e fr):=by
 have hg:g<w.heap.size:=(Array.getElem?_eq_some_iff.1 hb).1;unfold sortWorldK putRowK;rw[heap_grow_old _ _ (by simpa using hg)]
 simp[putRow,mapBlock,Sort.ahead,Array.getElem?_modify,hb,onCells]
theorem Apj{w:World}{g n:Nat}{os:Array Obj}(d:Array Sp):w.grownBy (sortWorldK Ej 2 w g 0 n d os) (some g):=by
 unfold sortWorldK putRowK;refine⟨rfl,rfl,rfl,by simp,fun k hk Aw=>?_⟩
 rw[heap_grow_old _ _ (by simpa using hk)]
 have:g≠k:=fun e=>Aw (by rw[e])
 simp[putRow,mapBlock,Sort.ahead,Array.getElem?_modify,this]
theorem Atk(cur:Array Value)(F:Array Value)(h:F.size≤cur.size):(putCells id 0 F cur).toList.take F.size=F.toList:=by
 apply List.ext_getElem?;intro j;by_cases hj:j<F.size
 ·rw[List.getElem?_take_of_lt hj,Array.getElem?_toList];simp[putCells,hj,show j<cur.size by omega]
 ·rw[List.getElem?_take_eq_none (by omega),List.getElem?_eq_none (by simp;omega)]
theorem Bcm(l:List Sp)(Aw:l≠[])(hlen:l.length≤1000000):Fn Tryz.prog 140 [.vec 34 2 (Cj l),.v (.fn 141)]
 (fun r outs=>∃p:List Sp,p.Perm l∧(p.Pairwise fun x y=>x.f≤y.f)∧r= .Dv []∧outs=[.vec 34 2 (Cj p),.no]):=by
 intro G σ Fr w B6 Bu C4 E6;have W0:=(E6 0 _ rfl).2;have Lm:Aq G (.fn 141) (B6.getD 1 undef):=(E6 1 _ rfl).2;rw[Aq.fn]at Lm;have Rv:B6= #[B6.getD 0 undef,.func (.func 141) #[] #[]]:=by
  rw[←Lm];apply Array.ext
  ·simpa using C4
  ·intro j h1 h2;have:j=0∨j=1:=by simp at h2;omega
   rcases this with rfl|rfl<;>simp[Array.getD,h1]
 generalize B6.getD 0 undef=c0 at W0 Rv;obtain⟨xs,Cy,Ay,Bk,Li⟩:=(show Cw G σ w (0,0) 34 2 (Cj l) c0 from W0);obtain⟨hxs,Bku⟩:=Ak6.1 Ay;have hlm:(Cj l).length=l.length:=List.length_map ..;rcases Cy.2 with⟨_,h0⟩|⟨g,cap,cur,rfl,_,Gj,hn,Np,Lh,htk⟩
 ·rw[hlm]at h0;exact absurd (List.eq_nil_of_length_eq_zero h0) Aw
 have hg:=Gj.to (by decide)
 rw[hlm]at hn htk;have hgs:g<w.heap.size:=(Array.getElem?_eq_some_iff.1 hg).1;have hH:HoldsK Ej 2 w g 0 l.toArray:=Ap2 hg (by rw[htk,hxs])
 have hlb:σ g=some (0,0):=Li g rfl;have eg:∀args w,(callFunc 141 args).run Tryz.prog w= .ok (.enter 141 args) w:=enters_of Tryz.func141 (by kernel_rfl) rfl
 have aE:∀w,(isAgg (Atb.t 24)).run Tryz.prog w= .ok true w:=fun _=>by kernel_rfl
 have zE:∀w,(Go.sizeOf (Atb.t 24)).run Tryz.prog w= .ok 2 w:=fun _=>by kernel_rfl
 have Abc:=AnyQ.slices_SortFunc Bgi 2 aE zE Ej (fun _=>rfl) (fun x v hv=>by simp[Ej]at hv;rcases hv with rfl|rfl<;>rfl) (fun x y=>G6 x.f y.f) Bpk 141 #[] g 0 cap l.toArray w eg (Bee g 0 _ w) hH hgs (by simp;omega)
 rw[Rv];rw[hlm];have A60:l.toArray.size=l.length:=by simp
 rw[A60]at Abc;refine Calls.mono Abc ?_;rintro e w' ⟨rfl,d',n,os,Qr,Bhb,rfl⟩;obtain⟨W3,_,hpp⟩:=Qr;have hd:d'.size=l.length:=by rw[W3];simp
 have hp:d'.toList.Perm l:=by
  have e1:(d'.extract 0 l.length).toList=d'.toList:=by
   rw[←hd];simp
  have e2:(l.toArray.extract 0 l.length).toList=l:=by simp
  rw[e1,e2]at hpp;exact hpp
 have Gm:=Apj (w:=w) (g:=g) (n:=n) (os:=os) d';have Dw:=Ayt (n:=n) (os:=os) d' hg;have Rw:d'=d'.toList.toArray:=by simp
 have Bf3:d'.toList.length=l.length:=by simpa using hd
 have K1:Dt G σ Fr ⟨w,0, #[]⟩ (sortWorldK Ej 2 w g 0 n d' os):=by
  refine⟨?_,?_,Bu.inj,?_,Gm.os,Gm.tape,Gm.output,Gm.size,Bu.apart,Bu.Jd⟩
  ·intro b o hb;have:=Bu.fixed b o hb;rw[Gm.block b (Array.getElem?_eq_some_iff.1 this).1 (by rintro e;cases e;rw[(Bu.own g _ hlb).1]at hb;cases hb)]
   exact this
  ·intro b Bg hb;obtain⟨h1,h2,h3⟩:=Bu.own b Bg hb;exact⟨h1,h2,Nat.lt_of_lt_of_le h3 Gm.size⟩
  ·intro b o hb;have:=Bu.frame b o hb;rw[Gm.block b (Array.getElem?_eq_some_iff.1 this).1 (by rintro e;cases e;rw[(Bu.own g _ hlb).2.1]at hb;cases hb)]
   exact this
 refine⟨_,_,_,G,σ,rfl,⟨d'.toList,hp,?_,rfl,rfl⟩,Mem.le.refl G,K1,rfl,⟨#[],rfl,rfl⟩,by simp,?_⟩
 ·rw[List.pairwise_iff_getElem];intro i j hi hj Gv;have:=Bhb i j (Nat.zero_le _) Gv (by simpa[hd]using hj)
  rw[ltF]at this;have Fh:i<d'.size:=by simpa using hi
  have Kt:j<d'.size:=by simpa using hj
  rw[getElem!_pos d' j Kt,getElem!_pos d' i Fh]at this;simp at this;simpa using this
 ·intro i sv hi;have hi2:i=0∨i=1:=by
   have:=(List.getElem?_eq_some_iff.1 hi).1;simp at this;omega
  rcases hi2 with rfl|rfl
  ·cases hi;refine⟨rfl,?_⟩;have Hz:(Cj d'.toList).length=l.length:=by rw[List.length_map,Bf3]
   show Cw G σ _ (0,0) 34 2 (Cj d'.toList) _;refine⟨(d'.toList.map Ej).flatten,⟨by rw[Acq,Hz,Bf3],.inr ⟨g,cap,_,by rw[Hz];rfl,Nat.zero_le _,Row.of Dw,by rw[Hz];exact hn,Np,by simpa[putCells]using Lh,?_⟩⟩,Ak6.2 ⟨rfl,fun s hs=>Bku s (hp.mem_iff.1 hs)⟩,Vh _,fun b hb=>?_⟩
   ·have hF:(flatK Ej 2 d').size=l.length*2:=by simp[hd]
    have:=Atk cur (flatK Ej 2 d') (by rw[hF,Lh];exact Nat.mul_le_mul_right _ hn)
    rw[Hz, ←hF,this]
    conv=>lhs;rw[Rw]
    rw[A9q]
   ·cases hb;exact hlb
  ·cases hi;exact⟨rfl,trivial⟩
set_option maxHeartbeats 2000000

open Go.Proofs
theorem Ut(a b:Ai):0<Nn a b↔Gr a b:=by
 unfold Nn Gr G6;have h1:a<b∨a=b∨b<a:=by grind
 split
 ·simp_all
 ·split
  ·simp_all
  ·split
   ·simp_all
   ·split
    ·simp_all;grind
    ·split<;>simp_all
def A4e:Prop:=Fn Tryz.prog 140 [.v (.list []),.v (.fn 141)] (Is (.Dv []) [.no,.no])
theorem Ac.sort{l:List Sp}{args:List SV}{Q:SV→List SV→Prop}(h:Fn Tryz.prog 140 args fun r outs=>∃p:List Sp,p.Perm l∧(p.Pairwise fun x y=>x.f≤y.f)∧r= .Dv []∧outs=[.vec 34 2 (Cj p),.no])
 (k:∀p:List Sp,p.Perm l→(p.Pairwise fun x y=>x.f≤y.f)→Q (.Dv []) [.vec 34 2 (Cj p),.no]):Ac Tryz.prog 140 args Q:=by
 refine Ac.mk ⟨_,h,?_⟩;rintro _ _ ⟨p,h1,h2,rfl,rfl⟩;exact k p h1 h2
theorem Bmc(u:Sp):u.Ae.sub [1]=some (1+0,.str u.t):=rfl
theorem Bfv{e:Nat}{l:List I}{n:Nat}{u:Sp}(h:l[n]?=some u.Ae):(SV.vec e 2 l).hit 0 ([n]++[1])=some (n*2+(1+0),.item (.str u.t)):=by
 simp[SV.hit,Ajk,h,Acu,Bmc]
theorem Bf9{l:List I}{n:Nat}{u:Sp}{s:Ai}(h:l[n]?=some u.Ae):Nf l ([n]++[1]) (.str s)=l.set n (⟨u.f,s⟩:Sp).Ae:=by
 simp[Nf,h];rfl
theorem A8z(Kv:A4e)(l:List Sp)(hl:l.length≤1000):Fn Tryz.prog Axg [.v (.list (Cj l))] (Is (.v (.list (Cj (Uh l)))) [.no]):=by
 refine Awc ?_ (by simp)
 have C4:=A38 l (by omega)
 have Rw:=A3w l (by omega)
 have hql:(l.filter Ju).length≤1000:=Nat.le_trans (List.length_filter_le ..) hl;rcases hq:l.filter Ju with _|⟨q0,q'⟩
 ·rw[hq]at Rw;have hu:Uh l=[]:=by
   unfold Uh;have:(l.filter fun s=>decide (Dk s))=[]:=hq
   rw[this,List.mergeSort_nil];rfl
  rw[hu];repeat'((conv=>whnf);first|(refine eI ?_ ?_;focus (and_intros<;>first|omega|exact rfl|(intro _ hh;cases hh;done)|(simp;done)|decide))|(intro Aa)|(refine Ac.mk ⟨_,C4,?_⟩;rintro _ _ ⟨rfl,rfl⟩)|(refine Ac.mk ⟨_,Rw,?_⟩;rintro _ _ ⟨rfl,rfl⟩)|(refine Ac.mk ⟨_,Kv,?_⟩;rintro _ _ ⟨rfl,rfl⟩))
  all_goals(try(conv=>whnf))
  refine Bq.by (X:=Unit) (fun _=>[]) (fun _=>True) (fun _=>0) () (by kernel_rfl) trivial ?_
  rintro _ _;repeat'((conv=>whnf);first|(apply aI<;>intro hb<;>first|exact absurd hb (by decide)|((try rw[hb]);(try simp only[Ad]at hb)))|(refine eI ?_ ?_;focus (and_intros<;>first|omega|exact rfl|(simp;done))))
  all_goals(try(conv=>whnf))
  exact Bd.mk ⟨rfl,by kernel_rfl⟩ (by kernel_rfl)
 ·rw[hq]at Rw hql;have Bk1:=Bcm (q0::q') (by simp) (by omega)
  repeat'((conv=>whnf);first|(refine eI ?_ ?_;focus (and_intros<;>first|omega|exact rfl|(intro _ hh;cases hh;done)|(simp;done)|decide))|(intro Aa)|(refine Ac.mk ⟨_,C4,?_⟩;rintro _ _ ⟨rfl,rfl⟩)|(refine Ac.mk ⟨_,Rw,?_⟩;rintro _ _ ⟨rfl,rfl⟩)|(refine Ac.sort Bk1 (fun p hp1 hp2=>?_)))
  all_goals(try(conv=>whnf))
  have Hz:p.length≤1000:=by rw[hp1.length_eq];exact hql
  have Gb:p.length≤maxLen:=by simp only[maxLen];omega
  have Asf:S2 p=Uh l:=Bcv (by rw[show(l.filter fun s=>decide (Dk s))=l.filter Ju from rfl,hq];exact hp1) hp2
  refine Bq.by (X:=Nat × List Sp) (fun x=>[(3,.vec 34 2 (Cj x.2)),(14,.v (.int .i64 x.1))]) (fun x=>x.1≤p.length∧x.2=S2 (p.take x.1)∧x.2.length≤x.1) (fun x=>p.length - x.1)
   (0,[]) (by kernel_rfl) ⟨Nat.zero_le _,rfl,Nat.le_refl _⟩ ?_
  rintro⟨k,out⟩ ⟨h1,h2,h3⟩;dsimp only at h1 h2 h3 ⊢;by_cases hk:k<p.length
  case neg=>
   have Bb:¬decide ((k:Int)<((Cj p).length:Int))=true:=by simp;omega
   rw[show p.take k=p from List.take_of_length_le (by omega),Asf]at h2
   subst h2;repeat'((conv=>whnf);first|(apply aI<;>intro hb<;>first|exact absurd hb (by assumption)|((try rw[hb]);(try simp only[Ad]at hb)))|(refine eI ?_ ?_;focus (and_intros<;>first|omega|exact rfl|(simp;done))))
   all_goals(try(conv=>whnf))
   exact Bd.mk ⟨rfl,by kernel_rfl⟩ (by kernel_rfl)
  obtain⟨e,he⟩:∃e,p[k]?=some e:=⟨_,List.getElem?_eq_getElem hk⟩;have Bb:¬decide ((k:Int)<((Cj p).length:Int))=false:=by simp[hk]
  have hg:(Cj p)[Int.toNat (k:Int)]?=some e.Ae:=Vg he;have hh:=V1 (e:=34) (sz:=2) hg;have Nq:Int.toNat (k:Int)<(Cj p).length:=by simp[hk]
  have Di:p.length - (k+1)<p.length - k:=by omega
  have Ek:S2 (p.take (k+1))=T5 out e:=by
   rw[h2];unfold S2;rw[List.take_add_one,he,List.foldl_append];rfl
  have Y4:((Cj out).length+[e.Ae].length)*32≤140737488355328:=by simp;omega
  have J5:(Cj out).length+[e.Ae].length≤maxLen:=by simp[maxLen];omega
  have hl3:∀u∈[e.Ae],u.size=2:=Vh [e];have Ru:Cj out++[e.Ae]=Cj (out++[e]):=by simp
  rcases List.eq_nil_or_concat out with rfl|⟨o,F6,ho⟩
  ·repeat'((conv=>whnf);first|(apply aI<;>intro hb<;>first|exact absurd hb (by first|assumption|decide)|((try rw[hb]);(try simp only[Ad]at hb)))|(refine eI ?_ ?_;focus (and_intros<;>first|omega|exact rfl|assumption|(simp;done)))|(intro Aa)|((with_reducible apply A5.B5);(focus kernel_rfl);intro Aa;(try simp only[dRS]at Aa))|((try dsimp only);rw[hh]))
   all_goals(try(conv=>whnf))
   refine Round.by (k+1,[e]) ?_ ⟨hk,by rw[Ek];rfl,by simp⟩ Di
   rw[Ak hk Gb];show norm _ _=Bt _ _
   kernel_rfl
  rw[List.concat_eq_append]at ho;subst ho;have Jx:(Cj (o++[F6])).length=o.length+1:=by simp
  have n1:¬decide (((Cj (o++[F6])).length:Int)=0)=true:=by rw[Jx];simp;omega
  have hw:IntKind.i64.wrap (((Cj (o++[F6])).length:Int) - 1)=(o.length:Int):=by
   rw[Jx];exact(Cf (by simp at h3;omega)).trans (by omega)
  have h0:0≤IntKind.i64.wrap (((Cj (o++[F6])).length:Int) - 1):=by rw[hw];omega
  have Rk:Int.toNat (IntKind.i64.wrap (((Cj (o++[F6])).length:Int) - 1))<(Cj (o++[F6])).length:=by rw[hw,Jx];omega
  have hgl:(Cj (o++[F6]))[Int.toNat (IntKind.i64.wrap (((Cj (o++[F6])).length:Int) - 1))]?=some F6.Ae:=by
   rw[hw];simp
  have hhl:=Bfv (e:=34) hgl;rw[Akq]at Ek;have Fe:Nf (Cj (o++[F6])) ([Int.toNat (IntKind.i64.wrap (((Cj (o++[F6])).length:Int) - 1))]++[1]) (.str e.t)=Cj (o++[⟨F6.f,e.t⟩]):=by
   rw[Bf9 hgl,hw];simp
  by_cases c1:F6.t=[]
  ·have n2:¬(!decide (F6.t=[]))=true:=by simp[c1]
   by_cases c2:Gr e.t F6.t
   ·have n3:¬decide (0<Nn e.t F6.t)=false:=by simp[Ut,c2]
    rw[if_neg (fun h=>h.1 c1),if_pos c2]at Ek
    repeat'((conv=>whnf);first|(apply aI<;>intro hb<;>first|exact absurd hb (by first|assumption|decide)|((try rw[hb]);(try simp only[Ad]at hb)))|(refine eI ?_ ?_;focus (and_intros<;>first|omega|exact rfl|(intro _ hh;cases hh;done)|(simp;done)|decide))|(intro Aa)|((with_reducible apply A5.B5);(focus kernel_rfl);intro Aa;(try simp only[dRS]at Aa))|((try dsimp only);rw[hh])|((try dsimp only);rw[hhl])|(refine Aj.mk ⟨_,_,Wa _ _,?_⟩))
    all_goals(try(conv=>whnf))
    refine Round.by (k+1,o++[⟨F6.f,e.t⟩]) ?_ ⟨hk,Ek.symm,by simp at h3 ⊢;omega⟩ Di
    dsimp only;rw[Ak hk Gb, ←Fe];show norm _ _=Bt _ _
    kernel_rfl
   ·have n3:¬decide (0<Nn e.t F6.t)=true:=by simp[Ut,c2]
    rw[if_neg (fun h=>h.1 c1),if_neg c2]at Ek
    repeat'((conv=>whnf);first|(apply aI<;>intro hb<;>first|exact absurd hb (by first|assumption|decide)|((try rw[hb]);(try simp only[Ad]at hb)))|(refine eI ?_ ?_;focus (and_intros<;>first|omega|exact rfl|(intro _ hh;cases hh;done)|(simp;done)|decide))|(intro Aa)|((with_reducible apply A5.B5);(focus kernel_rfl);intro Aa;(try simp only[dRS]at Aa))|((try dsimp only);rw[hh])|((try dsimp only);rw[hhl])|(refine Aj.mk ⟨_,_,Wa _ _,?_⟩))
    all_goals(try(conv=>whnf))
    refine Round.by (k+1,o++[F6]) ?_ ⟨hk,Ek.symm,by simp at h3 ⊢;omega⟩ Di
    dsimp only;rw[Ak hk Gb];show norm _ _=Bt _ _
    kernel_rfl
  have n2:¬(!decide (F6.t=[]))=false:=by simp[c1]
  by_cases c3:F6.t<e.f
  ·have n4:¬Op.bytesLess F6.t e.f=false:=by simp[G5,c3]
   rw[if_pos ⟨c1,c3⟩]at Ek;repeat'((conv=>whnf);first|(apply aI<;>intro hb<;>first|exact absurd hb (by first|assumption|decide)|((try rw[hb]);(try simp only[Ad]at hb)))|(refine eI ?_ ?_;focus (and_intros<;>first|omega|exact rfl|assumption|(simp;done)))|(intro Aa)|((with_reducible apply A5.B5);(focus kernel_rfl);intro Aa;(try simp only[dRS]at Aa))|((try dsimp only);rw[hh])|((try dsimp only);rw[hhl]))
   all_goals(try(conv=>whnf))
   refine Round.by (k+1,o++[F6]++[e]) ?_ ⟨hk,Ek.symm,by simp at h3 ⊢;omega⟩ Di
   dsimp only;rw[Ak hk Gb, ←Ru];show norm _ _=Bt _ _
   kernel_rfl
  ·have n4:¬Op.bytesLess F6.t e.f=true:=by simp[G5,c3]
   by_cases c2:Gr e.t F6.t
   ·have n3:¬decide (0<Nn e.t F6.t)=false:=by simp[Ut,c2]
    rw[if_neg (fun h=>c3 h.2),if_pos c2]at Ek
    repeat'((conv=>whnf);first|(apply aI<;>intro hb<;>first|exact absurd hb (by first|assumption|decide)|((try rw[hb]);(try simp only[Ad]at hb)))|(refine eI ?_ ?_;focus (and_intros<;>first|omega|exact rfl|(intro _ hh;cases hh;done)|(simp;done)|decide))|(intro Aa)|((with_reducible apply A5.B5);(focus kernel_rfl);intro Aa;(try simp only[dRS]at Aa))|((try dsimp only);rw[hh])|((try dsimp only);rw[hhl])|(refine Aj.mk ⟨_,_,Wa _ _,?_⟩))
    all_goals(try(conv=>whnf))
    refine Round.by (k+1,o++[⟨F6.f,e.t⟩]) ?_ ⟨hk,Ek.symm,by simp at h3 ⊢;omega⟩ Di
    dsimp only;rw[Ak hk Gb, ←Fe];show norm _ _=Bt _ _
    kernel_rfl
   ·have n3:¬decide (0<Nn e.t F6.t)=true:=by simp[Ut,c2]
    rw[if_neg (fun h=>c3 h.2),if_neg c2]at Ek
    repeat'((conv=>whnf);first|(apply aI<;>intro hb<;>first|exact absurd hb (by first|assumption|decide)|((try rw[hb]);(try simp only[Ad]at hb)))|(refine eI ?_ ?_;focus (and_intros<;>first|omega|exact rfl|(intro _ hh;cases hh;done)|(simp;done)|decide))|(intro Aa)|((with_reducible apply A5.B5);(focus kernel_rfl);intro Aa;(try simp only[dRS]at Aa))|((try dsimp only);rw[hh])|((try dsimp only);rw[hhl])|(refine Aj.mk ⟨_,_,Wa _ _,?_⟩))
    all_goals(try(conv=>whnf))
    refine Round.by (k+1,o++[F6]) ?_ ⟨hk,Ek.symm,by simp at h3 ⊢;omega⟩ Di
    dsimp only;rw[Ak hk Gb];show norm _ _=Bt _ _
    kernel_rfl
set_option maxHeartbeats 1000000

open Go.Proofs
instance(l:List Sp)(k:Ai):Decidable (Kp l k):=by unfold Kp;infer_instance
theorem Bc6(k:Ai):¬Kp [] k:=by simp[Kp]
theorem A9b(s:Sp)(r:List Sp)(k:Ai):Kp (s::r) k↔(Dk s∧Jc s k)∨Kp r k:=by simp[Kp]
theorem Aoj(l:List Sp)(k:Ai):Fn Tryz.prog Af0 [.v (.list (Cj l)),.v (.str k)] (Is (.v (.bool (decide (Kp l k)))) [.no,.no]):=by
 refine Afh ?_ (by simp)
 by_cases hm:l.length≤maxLen
 case neg=>
  (conv=>whnf)
  all_goals(try(conv=>whnf))
  refine Bq.by (X:=Unit) (fun _=>[(5,.v (.int .i64 0))]) (fun _=>True) (fun _=>0) () (by kernel_rfl) trivial ?_
  rintro _ _;repeat'((conv=>whnf);first|(apply aI<;>intro hb<;>first|(exfalso;simp only[Az]at hb<;>omega)|((try rw[hb]);(try simp only[Ad]at hb)))|(refine eI ?_ ?_;focus (and_intros<;>exact rfl))|(intro Aa))
  all_goals(try(conv=>whnf))
  all_goals exact absurd (by simpa using(by assumption:(Cj l).length≤maxLen)) hm
 (conv=>whnf)
 all_goals(try(conv=>whnf))
 refine Bq.by (X:=Nat) (fun x=>[(5,.v (.int .i64 x))]) (fun x=>x≤l.length∧(Kp (l.drop x) k↔Kp l k)) (fun x=>l.length - x)
  0 (by kernel_rfl) ⟨Nat.zero_le _,Iff.rfl⟩ ?_
 rintro j ⟨h1,h2⟩;by_cases hj:j<l.length
 ·obtain⟨e,he⟩:∃e,l[j]?=some e:=⟨_,List.getElem?_eq_getElem hj⟩;have hg:(Cj l)[Int.toNat (j:Int)]?=some e.Ae:=Vg he;have Bb:¬decide ((j:Int)<((Cj l).length:Int))=false:=by simp[hj]
  have Ud:l[j]=e:=by rw[List.getElem?_eq_getElem hj]at he;simpa using he
  rw[List.drop_eq_getElem_cons hj,Ud,A9b]at h2;have Di:l.length - (j+1)<l.length - j:=by omega
  by_cases hr:Dk e
  ·have n1:¬decide (Dk e)=false:=by simp[hr]
   by_cases hh:Jc e k
   ·have n2:¬decide (Jc e k)=false:=by simp[hh]
    repeat'((conv=>whnf);first|(apply aI<;>intro hb<;>first|exact absurd hb (by first|assumption|decide)|((try rw[hb]);(try simp only[Ad]at hb)))|(refine eI ?_ ?_;focus (and_intros<;>first|omega|exact rfl|(intro _ hh;cases hh;done)|(simp;done)|decide))|(intro Aa)|((try dsimp only);rw[hg])|(refine Ac.mk ⟨_,Hc _,?_⟩;rintro _ _ ⟨rfl,rfl⟩)|(refine Ac.mk ⟨_,Ahj _ _,?_⟩;rintro _ _ ⟨rfl,rfl⟩))
    all_goals(try(conv=>whnf))
    refine Bd.mk ⟨SV.Co ?_,by kernel_rfl⟩ (by kernel_rfl)
    symm;simpa using h2.1 (.inl ⟨hr,hh⟩)
   ·have n2:¬decide (Jc e k)=true:=by simp[hh]
    repeat'((conv=>whnf);first|(apply aI<;>intro hb<;>first|exact absurd hb (by first|assumption|decide)|((try rw[hb]);(try simp only[Ad]at hb)))|(refine eI ?_ ?_;focus (and_intros<;>first|omega|exact rfl|(intro _ hh;cases hh;done)|(simp;done)|decide))|(intro Aa)|((try dsimp only);rw[hg])|(refine Ac.mk ⟨_,Hc _,?_⟩;rintro _ _ ⟨rfl,rfl⟩)|(refine Ac.mk ⟨_,Ahj _ _,?_⟩;rintro _ _ ⟨rfl,rfl⟩))
    all_goals(try(conv=>whnf))
    refine Round.by (j+1) ?_ ⟨hj,by rw[←h2];simp[hh]⟩ Di
    rw[Ak hj hm];show norm _ _=Bt _ _
    kernel_rfl
  ·have n1:¬decide (Dk e)=true:=by simp[hr]
   repeat'((conv=>whnf);first|(apply aI<;>intro hb<;>first|exact absurd hb (by first|assumption|decide)|((try rw[hb]);(try simp only[Ad]at hb)))|(refine eI ?_ ?_;focus (and_intros<;>first|omega|exact rfl|(intro _ hh;cases hh;done)|(simp;done)|decide))|(intro Aa)|((try dsimp only);rw[hg])|(refine Ac.mk ⟨_,Hc _,?_⟩;rintro _ _ ⟨rfl,rfl⟩))
   all_goals(try(conv=>whnf))
   refine Round.by (j+1) ?_ ⟨hj,by rw[←h2];simp[hr]⟩ Di
   rw[Ak hj hm];show norm _ _=Bt _ _
   kernel_rfl
 ·have Bb:¬decide ((j:Int)<((Cj l).length:Int))=true:=by simp;omega
  rw[List.drop_eq_nil_of_le (by omega)]at h2
  repeat'((conv=>whnf);first|(apply aI<;>intro hb<;>first|exact absurd hb (by assumption)|((try rw[hb]);(try simp only[Ad]at hb)))|(refine eI ?_ ?_;focus (and_intros<;>exact rfl))|(intro Aa))
  all_goals(try(conv=>whnf))
  refine Bd.mk ⟨SV.Co ?_,by kernel_rfl⟩ (by kernel_rfl)
  symm;rw[decide_eq_false_iff_not, ←h2];exact Bc6 k
set_option maxHeartbeats 8000000

open Go.Proofs
def ins(s:Ai):List Ai→List Ai
 | []=>[s]
 |x::r=>if s<x then s::x::r else if x=s then x::r else x::ins s r
def J9(s:Ai)(o:List Ai × Bool)(x:Ai):List Ai × Bool:=
 if o.2=false∧s<x then(o.1++[s]++[x],true)else if x=s then(o.1++[x],true)else(o.1++[x],o.2)
theorem Ahe(s:Ai):∀(l out:List Ai),l.foldl (J9 s) (out,true)=(out++l,true)
 | [],out=>by simp
 |x::r,out=>by
  rw[List.foldl_cons];have:J9 s (out,true) x=(out++[x],true):=by simp[J9]
  rw[this,Ahe s r];simp
def A7h(s:Ai)(o:List Ai × Bool):List Ai:=if o.2=true then o.1 else o.1++[s]
theorem Aus(s:Ai):∀(l out:List Ai),A7h s (l.foldl (J9 s) (out,false))=out++ins s l
 | [],out=>by simp[A7h,ins]
 |x::r,out=>by
  rw[List.foldl_cons,ins];by_cases h1:s<x
  ·have:J9 s (out,false) x=(out++[s]++[x],true):=by simp[J9,h1]
   rw[this,Ahe,if_pos h1];simp[A7h]
  ·by_cases h2:x=s
   ·have:J9 s (out,false) x=(out++[x],true):=by simp[J9,h1,h2]
    rw[this,Ahe,if_neg h1,if_pos h2];simp[A7h]
   ·have:J9 s (out,false) x=(out++[x],false):=by simp[J9,h1,h2]
    rw[this,Aus s r,if_neg h1,if_neg h2];simp
theorem Xg(s:Ai):∀l:List Ai,(ins s l).length≤l.length+1
 | []=>by simp[ins]
 |x::r=>by
  unfold ins;have:=Xg s r;split
  ·simp
  ·split
   ·simp
   ·simp;omega
theorem Avc(l:List Ai)(s:Ai)(hl:l.length≤10000):Fn Tryz.prog Af1 [.v (.list (strs l)),.v (.str s)] (Is (.vec 9 1 (strs (ins s l))) [.no,.no]):=by
 refine Ads ?_ (by simp)
 have hm:l.length≤maxLen:=by simp only[maxLen];omega
 have Rj:=Aus s l [];rw[List.nil_append]at Rj;repeat'((conv=>whnf);(refine eI ?_ ?_;focus (and_intros<;>omega)))
 all_goals(try(conv=>whnf))
 refine Bq.by (X:=Nat × List Ai × Bool) (fun x=>[(5,.vec 9 1 (strs x.2.1)),(6,.v (.bool x.2.2)),(7,.v (.int .i64 x.1))]) (fun x=>x.1≤l.length∧x.2=(l.take x.1).foldl (J9 s) ([],false)∧x.2.1.length≤2*x.1) (fun x=>l.length - x.1)
  (0,[],false) (by kernel_rfl) ⟨Nat.zero_le _,rfl,Nat.le_refl _⟩ ?_
 rintro⟨k,out,dn⟩ ⟨h1,h2,h3⟩;dsimp only at h1 h2 h3 ⊢;by_cases hk:k<l.length
 case neg=>
  have Bb:¬decide ((k:Int)<((strs l).length:Int))=true:=by simp;omega
  rw[show l.take k=l from List.take_of_length_le (by omega)]at h2
  rw[←h2]at Rj;have Jf:((strs out).length+[I.str s].length)*16≤140737488355328:=by simp;omega
  have Kd:(strs out).length+[I.str s].length≤maxLen:=by simp[maxLen];omega
  have Pj:∀u∈[I.str s],u.size=1:=by simp[I.size]
  cases dn with
  |true=>
   have hi:ins s l=out:=by rw[←Rj];rfl
   rw[hi];repeat'((conv=>whnf);first|(apply aI<;>intro hb<;>first|exact absurd hb (by first|assumption|decide)|((try rw[hb]);(try simp only[Ad]at hb)))|(refine eI ?_ ?_;focus (and_intros<;>first|omega|exact rfl|(simp;done)))|(intro Aa))
   all_goals(try(conv=>whnf))
   exact Bd.mk ⟨rfl,by kernel_rfl⟩ (by kernel_rfl)
  |false=>
   have hi:ins s l=out++[s]:=by rw[←Rj];rfl
   rw[hi];repeat'((conv=>whnf);first|(apply aI<;>intro hb<;>first|exact absurd hb (by first|assumption|decide)|((try rw[hb]);(try simp only[Ad]at hb)))|(refine eI ?_ ?_;focus (and_intros<;>first|omega|exact rfl|assumption|(simp;done)))|(intro Aa))
   all_goals(try(conv=>whnf))
   refine Bd.mk ⟨congrArg (fun l=>SV.vec 9 1 l) ?_,by kernel_rfl⟩ (by kernel_rfl)
   simp[strs]
 obtain⟨e,he⟩:∃e,l[k]?=some e:=⟨_,List.getElem?_eq_getElem hk⟩;have hg:(strs l)[Int.toNat (k:Int)]?=some (.str e):=Z1 he;have Bb:¬decide ((k:Int)<((strs l).length:Int))=false:=by simp[hk]
 have Di:l.length - (k+1)<l.length - k:=by omega
 have Ek:(l.take (k+1)).foldl (J9 s) ([],false)=J9 s (out,dn) e:=by
  rw[List.take_add_one,he,List.foldl_append, ←h2];rfl
 have Jf:∀u:I,((strs out).length+[u].length)*16≤140737488355328:=fun u=>by simp;omega
 have Kd:∀u:I,(strs out).length+[u].length≤maxLen:=fun u=>by simp[maxLen];omega
 have Pj:∀t:Ai,∀u∈[I.str t],u.size=1:=by simp[I.size]
 have hso:(strs out++[I.str s]).length=out.length+1:=by rw[List.length_append,List.length_map];rfl
 have f1:((strs out++[I.str s]).length+[I.str e].length)*16≤140737488355328:=by
  rw[hso];show(out.length+1+1)*16≤140737488355328;omega
 have f2:(strs out++[I.str s]).length+[I.str e].length≤maxLen:=by
  rw[hso];show out.length+1+1≤9223372036854775807;omega
 have e1:=Jf (.str e);have e2:=Kd (.str e);have e3:=Pj e;have s1:=Jf (.str s);have s2:=Kd (.str s);have s3:=Pj s;have A6p:strs out++[I.str e]=strs (out++[e]):=by simp
 have Bn9:strs out++[I.str s]++[I.str e]=strs (out++[s]++[e]):=by simp
 by_cases c1:dn=false∧s<e
 ·obtain⟨rfl,c1⟩:=c1;have n1:¬Op.bytesLess s e=false:=by simp[G5,c1]
  have n2:¬decide (e=s)=true:=by simp;grind
  rw[show J9 s (out,false) e=(out++[s]++[e],true)from by simp[J9,c1]]at Ek
  repeat'((conv=>whnf);first|(apply aI<;>intro hb<;>first|exact absurd hb (by first|assumption|decide)|((try rw[hb]);(try simp only[Ad]at hb)))|(refine eI ?_ ?_;focus (and_intros<;>first|omega|exact rfl|assumption|(simp;done)))|(intro Aa)|((try dsimp only);rw[hg]))
  all_goals(try(conv=>whnf))
  refine Round.by (k+1,out++[s]++[e],true) ?_ ⟨hk,Ek.symm,by simp;omega⟩ Di
  dsimp only;rw[Ak hk hm, ←Bn9];show norm _ _=Bt _ _
  kernel_rfl
 by_cases c2:e=s
 ·have n2:¬decide (e=s)=false:=by simp[c2]
  rw[show J9 s (out,dn) e=(out++[e],true)from by unfold J9;rw[if_neg c1,if_pos c2]]at Ek
  have n1:¬Op.bytesLess s e=true:=by simp[G5,c2]
  cases dn with
  |true=>
   repeat'((conv=>whnf);first|(apply aI<;>intro hb<;>first|exact absurd hb (by first|assumption|decide)|((try rw[hb]);(try simp only[Ad]at hb);(try subst hb)))|(refine eI ?_ ?_;focus (and_intros<;>first|omega|exact rfl|assumption|(simp;done)))|(intro Aa)|((try dsimp only);rw[hg]))
   all_goals(try(conv=>whnf))
   refine Round.by (k+1,out++[e],true) ?_ ⟨hk,Ek.symm,by simp;omega⟩ Di
   dsimp only;rw[Ak hk hm, ←A6p];show norm _ _=Bt _ _
   kernel_rfl
  |false=>
   repeat'((conv=>whnf);first|(apply aI<;>intro hb<;>first|exact absurd hb (by first|assumption|decide)|((try rw[hb]);(try simp only[Ad]at hb);(try subst hb)))|(refine eI ?_ ?_;focus (and_intros<;>first|omega|exact rfl|assumption|(simp;done)))|(intro Aa)|((try dsimp only);rw[hg]))
   all_goals(try(conv=>whnf))
   refine Round.by (k+1,out++[e],true) ?_ ⟨hk,Ek.symm,by simp;omega⟩ Di
   dsimp only;rw[Ak hk hm, ←A6p];show norm _ _=Bt _ _
   kernel_rfl
 ·have n2:¬decide (e=s)=true:=by simp[c2]
  rw[show J9 s (out,dn) e=(out++[e],dn)from by unfold J9;rw[if_neg c1,if_neg c2]]at Ek
  cases dn with
  |true=>
   repeat'((conv=>whnf);first|(apply aI<;>intro hb<;>first|exact absurd hb (by first|assumption|decide)|((try rw[hb]);(try simp only[Ad]at hb)))|(refine eI ?_ ?_;focus (and_intros<;>first|omega|exact rfl|assumption|(simp;done)))|(intro Aa)|((try dsimp only);rw[hg]))
   all_goals(try(conv=>whnf))
   refine Round.by (k+1,out++[e],true) ?_ ⟨hk,Ek.symm,by simp;omega⟩ Di
   dsimp only;rw[Ak hk hm, ←A6p];show norm _ _=Bt _ _
   kernel_rfl
  |false=>
   have n1:¬Op.bytesLess s e=true:=by simp[G5];exact fun h=>c1 ⟨rfl,h⟩
   repeat'((conv=>whnf);first|(apply aI<;>intro hb<;>first|exact absurd hb (by first|assumption|decide)|((try rw[hb]);(try simp only[Ad]at hb)))|(refine eI ?_ ?_;focus (and_intros<;>first|omega|exact rfl|assumption|(simp;done)))|(intro Aa)|((try dsimp only);rw[hg]))
   all_goals(try(conv=>whnf))
   refine Round.by (k+1,out++[e],false) ?_ ⟨hk,Ek.symm,by simp;omega⟩ Di
   dsimp only;rw[Ak hk hm, ←A6p];show norm _ _=Bt _ _
   kernel_rfl
end Go.Ab
