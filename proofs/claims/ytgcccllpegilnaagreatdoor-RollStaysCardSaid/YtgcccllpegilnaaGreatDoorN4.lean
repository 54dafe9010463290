/- Lemmas -/
import Derived.Test.YtgcccllpegilnaaGreatDoorR3
import Derived.Test.YtgcccllpegilnaaGreatDoorN3
set_option linter.unusedVariables false
set_option linter.unusedSimpArgs false
set_option maxRecDepth 100000
namespace Go.Ab
open Go.Proofs Go.Shelf Go.RowKit Go.Lib Go.Sort
theorem Anq:∀(l:List Sp) (t:Nat),t<l.length*2→((l.map Ej).flatten)[t]?=some ((Ej (l[t / 2]!))[t % 2]!)
 | [],t,h=>by simp at h
 |s::r,0,_=>by simp[Ej]
 |s::r,1,_=>by simp[Ej]
 |s::r,t+2,h=>by
  have:=Anq r t (by simp at h;omega)
  rw[show(t+2) / 2=t / 2+1 by omega,show(t+2) % 2=t % 2 by omega]
  simp only[List.map_cons,List.flatten_cons]
  rw[List.getElem?_append_right (by simp[Ej])]
  simpa[Ej]using this
theorem Acq:∀l:List Sp,((l.map Ej).flatten).length=l.length*2
 | []=>rfl
 |s::r=>by
  simp only[List.map_cons,List.flatten_cons,List.length_append,Acq r,List.length_cons]
  simp[Ej]
  omega
theorem A9q (l:List Sp):(flatK Ej 2 l.toArray).toList=(l.map Ej).flatten:=by
 apply List.ext_getElem?
 intro t
 by_cases h:t<l.length*2
 ·rw[Anq l t h]
  have hs:t<(flatK Ej 2 l.toArray).size:=by simpa using h
  have:=get_flatK Ej 2 l.toArray t (by simpa using h)
  rw[getElem!_pos _ t hs]at this
  rw[Array.getElem?_toList,Array.getElem?_eq_getElem hs,this]
  simp
 ·rw[List.getElem?_eq_none (by simp;omega),List.getElem?_eq_none (by rw[Acq];omega)]
theorem Bbd {G:Mem} {s:Sp} {cs:List Value}:RepI G s.toI cs↔cs=Ej s∧s.f.length≤maxLen∧s.t.length≤maxLen:=by
 unfold Sp.toI Ej
 simp only[RepI,RepIs]
 constructor
 ·rintro⟨c,d,rfl,⟨rfl,h1⟩,c',d',rfl,⟨rfl,h2⟩,rfl⟩
  exact⟨rfl,h1,h2⟩
 ·rintro⟨rfl,h1,h2⟩
  exact⟨_,_,rfl,⟨rfl,h1⟩,_,_,rfl,⟨rfl,h2⟩,rfl⟩
theorem Ak6 {G:Mem}:∀{l:List Sp} {cs:List Value},RepIs G (sps l) cs↔cs=(l.map Ej).flatten∧∀s∈l,s.f.length≤maxLen∧s.t.length≤maxLen
 | [],cs=>by simp[RepIs,sps]
 |s::r,cs=>by
  simp only[sps,List.map_cons,RepIs,List.flatten_cons]
  constructor
  ·rintro⟨c,d,rfl,h1,h2⟩
   obtain⟨rfl,h3⟩:=Bbd.1 h1
   obtain⟨rfl,h4⟩:=Ak6.1 h2
   refine⟨rfl,fun x hx=>?_⟩
   rcases List.mem_cons.1 hx with rfl|hx
   ·exact h3
   ·exact h4 x hx
  ·rintro⟨rfl,h⟩
   exact⟨_,_,rfl,Bbd.2 ⟨rfl,h s (List.mem_cons_self ..)⟩,Ak6.2 ⟨rfl,fun x hx=>h x (List.mem_cons_of_mem _ hx)⟩⟩
theorem Ap2 {w:World} {g:Nat} {cur:Array Value} {e:TypeId} {l:List Sp} (hb:w.heap[g]?=some (.cells cur e (0,0))) (ht:cur.toList.take (l.length*2)=(l.map Ej).flatten):HoldsK Ej 2 w g 0 l.toArray:=by
 intro j hj
 have hj':j<l.length*2:=by simpa using hj
 refine⟨?_,by simp[World.frozen?,hb]⟩
 have h1:(cur.toList.take (l.length*2))[j]?=((l.map Ej).flatten)[j]?:=by rw[ht]
 rw[List.getElem?_take_of_lt hj',Anq l j hj']at h1
 simp only[World.cell?,hb,Nat.zero_add]
 simp only[Option.isSome_none,Bool.false_eq_true,if_false]
 rw[←Array.getElem?_toList,h1,get_flatK Ej 2 l.toArray j (by simpa using hj')]
 simp
theorem Ayt {w:World} {g n:Nat} {os:Array Obj} {cur:Array Value} {e:TypeId} {fr:Nat × Nat} (d:Array Sp) (hb:w.heap[g]?=some (.cells cur e fr)):
 (sortWorldK Ej 2 w g 0 n d os).heap[g]?=some (.cells (putCells id 0 (flatK Ej 2 d) cur) e fr):=by
 have hg:g<w.heap.size:=(Array.getElem?_eq_some_iff.1 hb).1
 unfold sortWorldK putRowK
 rw[heap_grow_old _ _ (by simpa using hg)]
 simp[putRow,mapBlock,Sort.ahead,Array.getElem?_modify,hb,onCells]
theorem Apj {w:World} {g n:Nat} {os:Array Obj} (d:Array Sp):w.grownBy (sortWorldK Ej 2 w g 0 n d os) (some g):=by
 unfold sortWorldK putRowK
 refine⟨rfl,rfl,rfl,by simp,fun k hk hne=>?_⟩
 rw[heap_grow_old _ _ (by simpa using hk)]
 have:g≠k:=fun e=>hne (by rw[e])
 simp[putRow,mapBlock,Sort.ahead,Array.getElem?_modify,this]
theorem Atk (cur:Array Value) (F:Array Value) (h:F.size≤cur.size):(putCells id 0 F cur).toList.take F.size=F.toList:=by
 apply List.ext_getElem?
 intro j
 by_cases hj:j<F.size
 ·rw[List.getElem?_take_of_lt hj,Array.getElem?_toList]
  simp[putCells,hj,show j<cur.size by omega]
 ·rw[List.getElem?_take_eq_none (by omega),List.getElem?_eq_none (by simp;omega)]
theorem Bcm (l:List Sp) (hne:l≠[]) (hlen:l.length≤1000000):Fn Tryz.prog 140 [.vec 34 2 (sps l),.v (.fn 141)]
 (fun r outs=>∃p:List Sp,p.Perm l∧(p.Pairwise fun x y=>x.f≤y.f)∧r= .tup []∧outs=[.vec 34 2 (sps p),.no]):=by
 intro G σ Fr w cargs hok hcl hargs
 have hc0:=(hargs 0 _ rfl).2
 have hc1:RepV G (.fn 141) (cargs.getD 1 undef):=(hargs 1 _ rfl).2
 rw[RepV.fn]at hc1
 have hca:cargs= #[cargs.getD 0 undef,.func (.func 141) #[] #[]]:=by
  rw[←hc1]
  apply Array.ext
  ·simpa using hcl
  ·intro j h1 h2
   have:j=0∨j=1:=by simp at h2;omega
   rcases this with rfl|rfl<;>simp[Array.getD,h1]
 generalize cargs.getD 0 undef=c0 at hc0 hca
 obtain⟨xs,hown,hrep,hsz,hlab⟩:=(show VecAt G σ w (0,0) 34 2 (sps l) c0 from hc0)
 obtain⟨hxs,hlens⟩:=Ak6.1 hrep
 have hlm:(sps l).length=l.length:=List.length_map ..
 rcases hown.2 with⟨_,h0⟩|⟨g,cap,cur,rfl,_,hrow,hn,hcm,hcur,htk⟩
 ·rw[hlm]at h0
  exact absurd (List.eq_nil_of_length_eq_zero h0) hne
 have hg:=hrow.to (by decide)
 rw[hlm]at hn htk
 have hgs:g<w.heap.size:=(Array.getElem?_eq_some_iff.1 hg).1
 have hH:HoldsK Ej 2 w g 0 l.toArray:=Ap2 hg (by rw[htk,hxs])
 have hlb:σ g=some (0,0):=hlab g rfl
 have eg:∀args w,(callFunc 141 args).run Tryz.prog w= .ok (.enter 141 args) w:=enters_of Tryz.func141 (by kernel_rfl) rfl
 have aE:∀w,(isAgg (Atb.t 24)).run Tryz.prog w= .ok true w:=fun _=>by kernel_rfl
 have zE:∀w,(Go.sizeOf (Atb.t 24)).run Tryz.prog w= .ok 2 w:=fun _=>by kernel_rfl
 have hcall:=AnyQ.slices_SortFunc Bgi 2 aE zE Ej (fun _=>rfl) (fun x v hv=>by simp[Ej]at hv;rcases hv with rfl|rfl<;>rfl) (fun x y=>cmpS x.f y.f) swoF 141 #[] g 0 cap l.toArray w eg (Bee g 0 _ w) hH hgs (by simp;omega)
 rw[hca]
 rw[hlm]
 have hsize:l.toArray.size=l.length:=by simp
 rw[hsize]at hcall
 refine Calls.mono hcall ?_
 rintro e w' ⟨rfl,d',n,os,hperm,hsorted,rfl⟩
 obtain⟨hps,_,hpp⟩:=hperm
 have hd:d'.size=l.length:=by rw[hps];simp
 have hp:d'.toList.Perm l:=by
  have e1:(d'.extract 0 l.length).toList=d'.toList:=by
   rw[←hd];simp
  have e2:(l.toArray.extract 0 l.length).toList=l:=by simp
  rw[e1,e2]at hpp
  exact hpp
 have hgr:=Apj (w:=w) (g:=g) (n:=n) (os:=os) d'
 have hnew:=Ayt (n:=n) (os:=os) d' hg
 have hdl:d'=d'.toList.toArray:=by simp
 have hplen:d'.toList.length=l.length:=by simpa using hd
 have hok':WOk G σ Fr ⟨w,0, #[]⟩ (sortWorldK Ej 2 w g 0 n d' os):=by
  refine⟨?_,?_,hok.inj,?_,hgr.os,hgr.tape,hgr.output,hgr.size,hok.apart,hok.amb⟩
  ·intro b o hb
   have:=hok.fixed b o hb
   rw[hgr.block b (Array.getElem?_eq_some_iff.1 this).1 (by rintro e;cases e;rw[(hok.own g _ hlb).1]at hb;cases hb)]
   exact this
  ·intro b lab hb
   obtain⟨h1,h2,h3⟩:=hok.own b lab hb
   exact⟨h1,h2,Nat.lt_of_lt_of_le h3 hgr.size⟩
  ·intro b o hb
   have:=hok.frame b o hb
   rw[hgr.block b (Array.getElem?_eq_some_iff.1 this).1 (by rintro e;cases e;rw[(hok.own g _ hlb).2.1]at hb;cases hb)]
   exact this
 refine⟨_,_,_,G,σ,rfl,⟨d'.toList,hp,?_,rfl,rfl⟩,Mem.le.refl G,hok',rfl,⟨#[],rfl,rfl⟩,by simp,?_⟩
 ·rw[List.pairwise_iff_getElem]
  intro i j hi hj hij
  have:=hsorted i j (Nat.zero_le _) hij (by simpa[hd]using hj)
  rw[ltF]at this
  have hi':i<d'.size:=by simpa using hi
  have hj':j<d'.size:=by simpa using hj
  rw[getElem!_pos d' j hj',getElem!_pos d' i hi']at this
  simp at this
  simpa using this
 ·intro i sv hi
  have hi2:i=0∨i=1:=by
   have:=(List.getElem?_eq_some_iff.1 hi).1
   simp at this
   omega
  rcases hi2 with rfl|rfl
  ·cases hi
   refine⟨rfl,?_⟩
   have hpl:(sps d'.toList).length=l.length:=by rw[List.length_map,hplen]
   show VecAt G σ _ (0,0) 34 2 (sps d'.toList) _
   refine⟨(d'.toList.map Ej).flatten,⟨by rw[Acq,hpl,hplen],.inr ⟨g,cap,_,by rw[hpl];rfl,Nat.zero_le _,Row.of hnew,by rw[hpl];exact hn,hcm,by simpa[putCells]using hcur,?_⟩⟩,Ak6.2 ⟨rfl,fun s hs=>hlens s (hp.mem_iff.1 hs)⟩,Vh _,fun b hb=>?_⟩
   ·have hF:(flatK Ej 2 d').size=l.length*2:=by simp[hd]
    have:=Atk cur (flatK Ej 2 d') (by rw[hF,hcur];exact Nat.mul_le_mul_right _ hn)
    rw[hpl, ←hF,this]
    conv=>lhs;rw[hdl]
    rw[A9q]
   ·cases hb
    exact hlb
  ·cases hi
   exact⟨rfl,trivial⟩
set_option maxHeartbeats 2000000

open Go.Proofs
theorem Ut (a b:Ai):0<Nn a b↔Gr a b:=by
 unfold Nn Gr cmpS
 have h1:a<b∨a=b∨b<a:=by grind
 split
 ·simp_all
 ·split
  ·simp_all
  ·split
   ·simp_all
   ·split
    ·simp_all;grind
    ·split<;>simp_all
def A4e:Prop:=Fn Tryz.prog 140 [.v (.list []),.v (.fn 141)] (Is (.tup []) [.no,.no])
theorem CallWp.sort {l:List Sp} {args:List SV} {Q:SV→List SV→Prop} (h:Fn Tryz.prog 140 args fun r outs=>∃p:List Sp,p.Perm l∧(p.Pairwise fun x y=>x.f≤y.f)∧r= .tup []∧outs=[.vec 34 2 (sps p),.no])
 (k:∀p:List Sp,p.Perm l→(p.Pairwise fun x y=>x.f≤y.f)→Q (.tup []) [.vec 34 2 (sps p),.no]):CallWp Tryz.prog 140 args Q:=by
 refine CallWp.mk ⟨_,h,?_⟩
 rintro _ _ ⟨p,h1,h2,rfl,rfl⟩
 exact k p h1 h2
theorem Bmc (u:Sp):u.toI.sub [1]=some (1+0,.str u.t):=rfl
theorem Bfv {e:Nat} {l:List I} {n:Nat} {u:Sp} (h:l[n]?=some u.toI):(SV.vec e 2 l).hit 0 ([n]++[1])=some (n*2+(1+0),.item (.str u.t)):=by
 simp[SV.hit,hitV,h,hitI,Bmc]
theorem Bf9 {l:List I} {n:Nat} {u:Sp} {s:Ai} (h:l[n]?=some u.toI):putV l ([n]++[1]) (.str s)=l.set n (⟨u.f,s⟩:Sp).toI:=by
 simp[putV,h]
 rfl
theorem A8z (hnil:A4e) (l:List Sp) (hl:l.length≤1000):Fn Tryz.prog Axg [.v (.list (sps l))] (Is (.v (.list (sps (uni l)))) [.no]):=by
 refine Awc ?_ (by simp)
 have hcl:=A38 l (by omega)
 have hdl:=A3w l (by omega)
 have hql:(l.filter Ju).length≤1000:=Nat.le_trans (List.length_filter_le ..) hl
 rcases hq:l.filter Ju with _|⟨q0,q'⟩
 ·rw[hq]at hdl
  have hu:uni l=[]:=by
   unfold uni
   have:(l.filter fun s=>decide (Dk s))=[]:=hq
   rw[this,List.mergeSort_nil]
   rfl
  rw[hu]
  repeat'((conv=>whnf);first|(refine eI ?_ ?_;focus (and_intros<;>first|omega|exact rfl|(intro _ hh;cases hh;done)|(simp;done)|decide))|(intro hfact)|(refine CallWp.mk ⟨_,hcl,?_⟩;rintro _ _ ⟨rfl,rfl⟩)|(refine CallWp.mk ⟨_,hdl,?_⟩;rintro _ _ ⟨rfl,rfl⟩)|(refine CallWp.mk ⟨_,hnil,?_⟩;rintro _ _ ⟨rfl,rfl⟩))
  all_goals(try(conv=>whnf))
  refine LoopWq.by (X:=Unit) (fun _=>[]) (fun _=>True) (fun _=>0) () (by kernel_rfl) trivial ?_
  rintro _ _
  repeat'((conv=>whnf);first|(apply aI<;>intro hb<;>first|exact absurd hb (by decide)|((try rw[hb]);(try simp only[Ad]at hb)))|(refine eI ?_ ?_;focus (and_intros<;>first|omega|exact rfl|(simp;done))))
  all_goals(try(conv=>whnf))
  exact Done.mk ⟨rfl,by kernel_rfl⟩ (by kernel_rfl)
 ·rw[hq]at hdl hql
  have hsort:=Bcm (q0::q') (by simp) (by omega)
  repeat'((conv=>whnf);first|(refine eI ?_ ?_;focus (and_intros<;>first|omega|exact rfl|(intro _ hh;cases hh;done)|(simp;done)|decide))|(intro hfact)|(refine CallWp.mk ⟨_,hcl,?_⟩;rintro _ _ ⟨rfl,rfl⟩)|(refine CallWp.mk ⟨_,hdl,?_⟩;rintro _ _ ⟨rfl,rfl⟩)|(refine CallWp.sort hsort (fun p hp1 hp2=>?_)))
  all_goals(try(conv=>whnf))
  have hpl:p.length≤1000:=by rw[hp1.length_eq];exact hql
  have hmax:p.length≤maxLen:=by simp only[maxLen];omega
  have hres:S2 p=uni l:=Bcv (by rw[show(l.filter fun s=>decide (Dk s))=l.filter Ju from rfl,hq];exact hp1) hp2
  refine LoopWq.by (X:=Nat × List Sp) (fun x=>[(3,.vec 34 2 (sps x.2)),(14,.v (.int .i64 x.1))]) (fun x=>x.1≤p.length∧x.2=S2 (p.take x.1)∧x.2.length≤x.1) (fun x=>p.length - x.1)
   (0,[]) (by kernel_rfl) ⟨Nat.zero_le _,rfl,Nat.le_refl _⟩ ?_
  rintro⟨k,out⟩ ⟨h1,h2,h3⟩
  dsimp only at h1 h2 h3 ⊢
  by_cases hk:k<p.length
  case neg=>
   have hlt:¬decide ((k:Int)<((sps p).length:Int))=true:=by simp;omega
   rw[show p.take k=p from List.take_of_length_le (by omega),hres]at h2
   subst h2
   repeat'((conv=>whnf);first|(apply aI<;>intro hb<;>first|exact absurd hb (by assumption)|((try rw[hb]);(try simp only[Ad]at hb)))|(refine eI ?_ ?_;focus (and_intros<;>first|omega|exact rfl|(simp;done))))
   all_goals(try(conv=>whnf))
   exact Done.mk ⟨rfl,by kernel_rfl⟩ (by kernel_rfl)
  obtain⟨e,he⟩:∃e,p[k]?=some e:=⟨_,List.getElem?_eq_getElem hk⟩
  have hlt:¬decide ((k:Int)<((sps p).length:Int))=false:=by simp[hk]
  have hg:(sps p)[Int.toNat (k:Int)]?=some e.toI:=Vg he
  have hh:=V1 (e:=34) (sz:=2) hg
  have hkl:Int.toNat (k:Int)<(sps p).length:=by simp[hk]
  have hround:p.length - (k+1)<p.length - k:=by omega
  have hsucc:S2 (p.take (k+1))=T5 out e:=by
   rw[h2]
   unfold S2
   rw[List.take_add_one,he,List.foldl_append]
   rfl
  have hl1:((sps out).length+[e.toI].length)*32≤140737488355328:=by simp;omega
  have hl2:(sps out).length+[e.toI].length≤maxLen:=by simp[maxLen];omega
  have hl3:∀u∈[e.toI],u.size=2:=Vh [e]
  have hap:sps out++[e.toI]=sps (out++[e]):=by simp
  rcases List.eq_nil_or_concat out with rfl|⟨o,lst,ho⟩
  ·repeat'((conv=>whnf);first|(apply aI<;>intro hb<;>first|exact absurd hb (by first|assumption|decide)|((try rw[hb]);(try simp only[Ad]at hb)))|(refine eI ?_ ?_;focus (and_intros<;>first|omega|exact rfl|assumption|(simp;done)))|(intro hfact)|((with_reducible apply Drawn.by0);(focus kernel_rfl);intro hfact;(try simp only[dRS]at hfact))|((try dsimp only);rw[hh]))
   all_goals(try(conv=>whnf))
   refine Round.by (k+1,[e]) ?_ ⟨hk,by rw[hsucc];rfl,by simp⟩ hround
   rw[Ak hk hmax]
   show norm _ _=upd _ _
   kernel_rfl
  rw[List.concat_eq_append]at ho
  subst ho
  have hol:(sps (o++[lst])).length=o.length+1:=by simp
  have n1:¬decide (((sps (o++[lst])).length:Int)=0)=true:=by rw[hol];simp;omega
  have hw:IntKind.i64.wrap (((sps (o++[lst])).length:Int) - 1)=(o.length:Int):=by
   rw[hol]
   exact(Cf (by simp at h3;omega)).trans (by omega)
  have h0:0≤IntKind.i64.wrap (((sps (o++[lst])).length:Int) - 1):=by rw[hw];omega
  have hlt2:Int.toNat (IntKind.i64.wrap (((sps (o++[lst])).length:Int) - 1))<(sps (o++[lst])).length:=by rw[hw,hol];omega
  have hgl:(sps (o++[lst]))[Int.toNat (IntKind.i64.wrap (((sps (o++[lst])).length:Int) - 1))]?=some lst.toI:=by
   rw[hw]
   simp
  have hhl:=Bfv (e:=34) hgl
  rw[Akq]at hsucc
  have hput:putV (sps (o++[lst])) ([Int.toNat (IntKind.i64.wrap (((sps (o++[lst])).length:Int) - 1))]++[1]) (.str e.t)=sps (o++[⟨lst.f,e.t⟩]):=by
   rw[Bf9 hgl,hw]
   simp
  by_cases c1:lst.t=[]
  ·have n2:¬(!decide (lst.t=[]))=true:=by simp[c1]
   by_cases c2:Gr e.t lst.t
   ·have n3:¬decide (0<Nn e.t lst.t)=false:=by simp[Ut,c2]
    rw[if_neg (fun h=>h.1 c1),if_pos c2]at hsucc
    repeat'((conv=>whnf);first|(apply aI<;>intro hb<;>first|exact absurd hb (by first|assumption|decide)|((try rw[hb]);(try simp only[Ad]at hb)))|(refine eI ?_ ?_;focus (and_intros<;>first|omega|exact rfl|(intro _ hh;cases hh;done)|(simp;done)|decide))|(intro hfact)|((with_reducible apply Drawn.by0);(focus kernel_rfl);intro hfact;(try simp only[dRS]at hfact))|((try dsimp only);rw[hh])|((try dsimp only);rw[hhl])|(refine CallIs.mk ⟨_,_,Wa _ _,?_⟩))
    all_goals(try(conv=>whnf))
    refine Round.by (k+1,o++[⟨lst.f,e.t⟩]) ?_ ⟨hk,hsucc.symm,by simp at h3 ⊢;omega⟩ hround
    dsimp only
    rw[Ak hk hmax, ←hput]
    show norm _ _=upd _ _
    kernel_rfl
   ·have n3:¬decide (0<Nn e.t lst.t)=true:=by simp[Ut,c2]
    rw[if_neg (fun h=>h.1 c1),if_neg c2]at hsucc
    repeat'((conv=>whnf);first|(apply aI<;>intro hb<;>first|exact absurd hb (by first|assumption|decide)|((try rw[hb]);(try simp only[Ad]at hb)))|(refine eI ?_ ?_;focus (and_intros<;>first|omega|exact rfl|(intro _ hh;cases hh;done)|(simp;done)|decide))|(intro hfact)|((with_reducible apply Drawn.by0);(focus kernel_rfl);intro hfact;(try simp only[dRS]at hfact))|((try dsimp only);rw[hh])|((try dsimp only);rw[hhl])|(refine CallIs.mk ⟨_,_,Wa _ _,?_⟩))
    all_goals(try(conv=>whnf))
    refine Round.by (k+1,o++[lst]) ?_ ⟨hk,hsucc.symm,by simp at h3 ⊢;omega⟩ hround
    dsimp only
    rw[Ak hk hmax]
    show norm _ _=upd _ _
    kernel_rfl
  have n2:¬(!decide (lst.t=[]))=false:=by simp[c1]
  by_cases c3:lst.t<e.f
  ·have n4:¬Op.bytesLess lst.t e.f=false:=by simp[G5,c3]
   rw[if_pos ⟨c1,c3⟩]at hsucc
   repeat'((conv=>whnf);first|(apply aI<;>intro hb<;>first|exact absurd hb (by first|assumption|decide)|((try rw[hb]);(try simp only[Ad]at hb)))|(refine eI ?_ ?_;focus (and_intros<;>first|omega|exact rfl|assumption|(simp;done)))|(intro hfact)|((with_reducible apply Drawn.by0);(focus kernel_rfl);intro hfact;(try simp only[dRS]at hfact))|((try dsimp only);rw[hh])|((try dsimp only);rw[hhl]))
   all_goals(try(conv=>whnf))
   refine Round.by (k+1,o++[lst]++[e]) ?_ ⟨hk,hsucc.symm,by simp at h3 ⊢;omega⟩ hround
   dsimp only
   rw[Ak hk hmax, ←hap]
   show norm _ _=upd _ _
   kernel_rfl
  ·have n4:¬Op.bytesLess lst.t e.f=true:=by simp[G5,c3]
   by_cases c2:Gr e.t lst.t
   ·have n3:¬decide (0<Nn e.t lst.t)=false:=by simp[Ut,c2]
    rw[if_neg (fun h=>c3 h.2),if_pos c2]at hsucc
    repeat'((conv=>whnf);first|(apply aI<;>intro hb<;>first|exact absurd hb (by first|assumption|decide)|((try rw[hb]);(try simp only[Ad]at hb)))|(refine eI ?_ ?_;focus (and_intros<;>first|omega|exact rfl|(intro _ hh;cases hh;done)|(simp;done)|decide))|(intro hfact)|((with_reducible apply Drawn.by0);(focus kernel_rfl);intro hfact;(try simp only[dRS]at hfact))|((try dsimp only);rw[hh])|((try dsimp only);rw[hhl])|(refine CallIs.mk ⟨_,_,Wa _ _,?_⟩))
    all_goals(try(conv=>whnf))
    refine Round.by (k+1,o++[⟨lst.f,e.t⟩]) ?_ ⟨hk,hsucc.symm,by simp at h3 ⊢;omega⟩ hround
    dsimp only
    rw[Ak hk hmax, ←hput]
    show norm _ _=upd _ _
    kernel_rfl
   ·have n3:¬decide (0<Nn e.t lst.t)=true:=by simp[Ut,c2]
    rw[if_neg (fun h=>c3 h.2),if_neg c2]at hsucc
    repeat'((conv=>whnf);first|(apply aI<;>intro hb<;>first|exact absurd hb (by first|assumption|decide)|((try rw[hb]);(try simp only[Ad]at hb)))|(refine eI ?_ ?_;focus (and_intros<;>first|omega|exact rfl|(intro _ hh;cases hh;done)|(simp;done)|decide))|(intro hfact)|((with_reducible apply Drawn.by0);(focus kernel_rfl);intro hfact;(try simp only[dRS]at hfact))|((try dsimp only);rw[hh])|((try dsimp only);rw[hhl])|(refine CallIs.mk ⟨_,_,Wa _ _,?_⟩))
    all_goals(try(conv=>whnf))
    refine Round.by (k+1,o++[lst]) ?_ ⟨hk,hsucc.symm,by simp at h3 ⊢;omega⟩ hround
    dsimp only
    rw[Ak hk hmax]
    show norm _ _=upd _ _
    kernel_rfl
set_option maxHeartbeats 1000000

open Go.Proofs
instance (l:List Sp) (k:Ai):Decidable (AnyH l k):=by unfold AnyH;infer_instance
set_option maxHeartbeats 4000000

open Go.Proofs
theorem An6 {l:List Ai} {m:Nat} (h:∀s∈l,s.length≤m):(Eb l).length≤l.length*(m+8):=by
 induction l with
 |nil=>simp[Eb]
 |cons a r ih=>
  have h1:=ih fun s hs=>h s (List.mem_cons_of_mem _ hs)
  have h2:=h a (List.mem_cons_self ..)
  have:Eb (a::r)=numB a.length 8++a++Eb r:=by simp[Eb]
  rw[this]
  simp only[List.length_append,D4,List.length_cons,Nat.add_mul]
  omega
set_option maxHeartbeats 40000000

open Go.Proofs
theorem Aui {h:H8} {t:Nat} {x:Int} (hx:h.l[t]?=some x):outB h (t+1)=outB h t++numB x.toNat 4:=by
 unfold outB
 rw[List.take_add_one,hx]
 simp
theorem Adt (h:H8):∀t,t≤8→(outB h t).length=4*t
 |0,_=>rfl
 |t+1,ht=>by
  obtain⟨x,hx⟩:∃x,h.l[t]?=some x:=⟨_,List.getElem?_eq_getElem (show t<8 by omega)⟩
  rw[Aui hx,List.length_append,Adt h t (by omega),D4]
  omega
def pre (s:Ai) (x:Nat):Ai:=s++[128]++List.replicate x 0
set_option maxHeartbeats 8000000

open Go.Proofs
theorem Am9 (s:Ai):(sumB s).length=32:=Adt _ 8 (by omega)
def Bdr (salt h:Ai):Ai:=sumB (Eb [h,salt])
def Tf (salt word:Ai):Nat→Ai
 |0=>sumB (Eb [salt,word])
 |n+1=>Bdr salt (Tf salt word n)
def Hj (salt word:Ai):Ai:=Tf salt word 8
theorem Tg (salt word:Ai):∀n,(Tf salt word n).length=32
 |0=>Am9 _
 |_+1=>Am9 _
def A5b (salt word:Ai):Roll:=⟨1,[],[⟨[114,111,111,116],[],salt,Hj salt word,[]⟩],[]⟩
set_option maxHeartbeats 40000000

open Go.Proofs
theorem Aqg (a b:Ai) (ha:a.length≤100000) (hb:b.length≤100000):(Eb [a,b]).length≤90000000:=by
 have:=An6 (l:=[a,b]) (m:=100000) (by intro s hs;simp at hs;rcases hs with rfl|rfl<;>assumption)
 simp at this
 omega
theorem X1 (salt word:Ai) (h1:salt.length≤100000) (h2:word.length≤100000):Fn Tryz.prog A2u [.v (.str salt),.v (.str word)] (Is (.v (.str (Hj salt word))) [.no,.no]):=by
 refine Az6 ?_ (by simp)
 have j0:=Aq9 [salt,word] (by simp) (Aqg _ _ h1 h2)
 repeat'((conv=>whnf);first|(refine eI ?_ ?_;focus (and_intros<;>first|exact rfl|(intro _ hh;cases hh;done)|exact B8 (by rfl)|(simp;done)|decide))|(refine CallWp.mk ⟨_,j0,?_⟩;rintro _ _ ⟨rfl,rfl⟩))
 all_goals(try(conv=>whnf))
 refine LoopWq.by (X:=Nat) (fun t=>[(5,.v (.str (Tf salt word t))),(10,.v (.int .i64 t))]) (fun t=>t≤8) (fun t=>8 - t)
  0 (by kernel_rfl) (by omega) ?_
 intro t ht
 by_cases ht8:t<8
 case pos=>
  have hlt1:¬decide ((t:Int)<8)=false:=by simp;omega
  have hl:=Tg salt word t
  have hs:Tf salt word (t+1)=sumB (Eb [Tf salt word t,salt]):=rfl
  obtain⟨h,hh⟩:∃h,h=Tf salt word t:=⟨_,rfl⟩
  rw[←hh]at hl hs ⊢
  have j1:=Aq9 [h,salt] (by simp) (Aqg _ _ (by omega) h1)
  repeat'((conv=>whnf);first|(apply aI<;>intro hb<;>first|exact absurd hb (by assumption)|((try rw[hb]);(try simp only[Ad]at hb)))|(refine eI ?_ ?_;focus (and_intros<;>first|exact rfl|(intro _ hh;cases hh;done)|exact B8 (by rfl)|(simp;done)|decide))|(refine CallWp.mk ⟨_,j1,?_⟩;rintro _ _ ⟨rfl,rfl⟩))
  all_goals(try(conv=>whnf))
  refine Round.by (t+1) ?_ ht8 (by omega)
  rw[Ak ht8 (by simp only[maxLen];omega),hs]
  show norm _ _=upd _ _
  kernel_rfl
 have hlt1:¬decide ((t:Int)<8)=true:=by simp;omega
 have ht':t=8:=by omega
 subst ht'
 repeat'((conv=>whnf);(apply aI<;>intro hb<;>first|exact absurd hb (by assumption)|((try rw[hb]);(try simp only[Ad]at hb))))
 all_goals(try(conv=>whnf))
 (apply dK<;>kernel_rfl)
abbrev Aw2:Ai:=[114,111,111,116]
def Fz (r:Roll) (c:Cmd):Roll × Int:=
 if c.kind=6 then
  if D2 c.name=false then(r,5)
  else if ¬(c.word.length≤64∧c.salt.length≤64)then(r,2)
  else if Et Usr.name r.usrs c.name=true then(r,15)
  else if(getT r.tens c.other).2=false then(r,16)
  else if 16≤(r.usrs.length:Int)then(r,17)
  else({r with usrs:=Hk (Ch Usr.name r.usrs c.name) ⟨c.name,c.other,c.salt,Hj c.salt c.word,[]⟩ r.usrs},0)
 else if c.kind=7 then
  if ¬(c.word.length≤64∧c.salt.length≤64)then(r,2)
  else if Et Usr.name r.usrs c.name=false then(r,16)
  else match r.usrs[Ch Usr.name r.usrs c.name]? with
   |none=>(r,16)
   |some u=>({r with usrs:=r.usrs.set (Ch Usr.name r.usrs c.name) {u with salt:=c.salt,hash:=Hj c.salt c.word}},0)
 else if Et Usr.name r.usrs c.name=false then(r,16)
 else if c.name=Aw2 then(r,1)
 else({r with usrs:=H6 (Ch Usr.name r.usrs c.name) r.usrs},0)
theorem Atv {α β:Type} (f:α→β) (i:Nat) (l:List α):(l.map f).take i++(l.map f).drop (i+1)=(H6 i l).map f:=by simp[H6,List.map_take,List.map_drop]
theorem Jb (r:Roll):D.toI (.vec B3 5 (r.usrs.map Usr.toD))=some (.list (r.usrs.map Usr.toI)):=by simp[D.toI,Qg, -List.map_map]
theorem Ge (r:Roll):D.toI (.vec B2 3 (r.rols.map Rol.toD))=some (.list (r.rols.map Rol.toI)):=by simp[D.toI,Fm, -List.map_map]
theorem Dr (r:Roll):D.toI r.toD=some r.toI:=by simp[D.toI,toIs,Bn,Fm,Qg, -List.map_map]
def Q4 (r:Roll) (c:Cmd):D:=
 if c.kind=6∧(Fz r c).2=0 then .st [.it (.int .i64 r.rev),.vec Cc 3 ((r.tens.map Ten.toI).map D.it),.vec B3 5 (Hk (Ch Usr.name r.usrs c.name) (.it (Usr.toI ⟨c.name,c.other,c.salt,Hj c.salt c.word,[]⟩)) (r.usrs.map Usr.toD)),.vec B2 3 (r.rols.map Rol.toD)]
 else(Fz r c).1.toD
theorem A39 (r:Roll) (hs:r.Small) (c:Cmd) (hc:c.salt.length≤100000∧c.word.length≤100000) (hk:c.kind=6):Fn Tryz.prog Vj [.own [] (.ptr r.toD),.v c.toI] (Is (.v (.int .i64 (Fz r c).2)) [.own [] (.ptr (Q4 r c)),.no]):=by
 refine Zs ?_ (by simp)
 have hs':=hs
 obtain⟨b1,b2,b3,b4,b5⟩:=hs
 have hf:=T4 r.usrs c.name (by omega)
 have hn:=X0 c.name
 have n1:=Ja c.word
 have n2:=Ja c.salt
 have ht:=Nv r hs' c.other
 have hh:=X1 c.salt c.word (by omega) (by omega)
 repeat'((conv=>whnf);first|(apply aI<;>intro hb<;>first|exact absurd hb (by decide)|(exfalso;simp only[Az]at hb<;>omega)|((try rw[hb]);(try simp only[Ad]at hb)))|(refine eI ?_ ?_;focus (and_intros<;>first|omega|exact rfl|(intro _ hh;cases hh;done)|(simp;done)|decide))|(intro hfact)|((with_reducible apply Drawn.by0);(focus kernel_rfl);intro hfact;(try simp only[dRS]at hfact))|((simp only[show D.at (0::[].append [2]) (D.ptr r.toD)=some (D.vec B3 5 (r.usrs.map Usr.toD))from rfl,Jb,show D.at [0] (D.ptr r.toD)=some r.toD from rfl,Dr]))|(refine CallIs.mk ⟨_,_,hf,?_⟩)|(refine CallWp.mk ⟨_,hn,?_⟩;rintro _ _ ⟨rfl,rfl⟩)|(refine CallWp.mk ⟨_,n1,?_⟩;rintro _ _ ⟨rfl,rfl⟩)|(refine CallWp.mk ⟨_,n2,?_⟩;rintro _ _ ⟨rfl,rfl⟩)|(refine CallIs.mk ⟨_,_,ht,?_⟩)|(refine CallIs.mk ⟨_,_,hh,?_⟩))
 all_goals(try(conv=>whnf))
 all_goals(
  obtain⟨X,hX⟩:∃X,Fz r c=X:=⟨_,rfl⟩
  obtain⟨Y,hY⟩:∃Y,Q4 r c=Y:=⟨_,rfl⟩
  have hY2:=hY
  unfold Q4 at hY2
  rw[hX]at hY2
  rw[hX,hY]
  clear hY
  simp[Fz, *, -hY2]at hX
  subst hX
  simp only[hk,true_and,false_and,if_true,if_false,Int.reduceEq]at hY2
  subst hY2)
 all_goals try(apply dK<;>kernel_rfl)
 have hle:=S9 Usr.name r.usrs c.name
 have hins:=A16 (r.usrs.map Usr.toD) (.it (Usr.toI ⟨c.name,c.other,c.salt,Hj c.salt c.word,[]⟩)) (Ch Usr.name r.usrs c.name) (by simp;omega) (by simp;omega)
 have htn:=R8 ⟨c.name,c.other,c.salt,Hj c.salt c.word,[]⟩
 refine Ags ?_ (by decide)
 repeat'((conv=>whnf);first|(refine eI ?_ ?_;focus (and_intros<;>first|omega|exact rfl|(intro _ hh;cases hh;done)|exact F5 rfl|(simp;done)|decide))|((with_reducible apply Drawn.by0);(focus kernel_rfl);intro hfact;(try simp only[dRS]at hfact))|((simp only[show D.at (0::[].append [2]) (D.ptr r.toD)=some (D.vec B3 5 (r.usrs.map Usr.toD))from rfl,Jb,show D.at [0] (D.ptr r.toD)=some r.toD from rfl,Dr]))|(refine CallIs.mk ⟨_,_,hf,?_⟩)|(refine CallIs.mk ⟨_,_,htn,?_⟩)|(refine CallIs.mk ⟨_,_,hins,?_⟩))
 all_goals(try(conv=>whnf))
 (apply dK<;>kernel_rfl)
theorem A4a (r:Roll) (hs:r.Small) (c:Cmd) (hc:c.salt.length≤100000∧c.word.length≤100000) (hk:c.kind=7):Fn Tryz.prog Vj [.own [] (.ptr r.toD),.v c.toI] (Is (.v (.int .i64 (Fz r c).2)) [.own [] (.ptr (Q4 r c)),.no]):=by
 refine Zs ?_ (by simp)
 have hs':=hs
 obtain⟨b1,b2,b3,b4,b5⟩:=hs
 have hf:=T4 r.usrs c.name (by omega)
 have n1:=Ja c.word
 have n2:=Ja c.salt
 have hh:=X1 c.salt c.word (by omega) (by omega)
 have hU:Q4 r c=(Fz r c).1.toD:=by simp[Q4,hk]
 rw[hU]
 by_cases hL:c.word.length≤64∧c.salt.length≤64
 case neg=>
  have hP:Fz r c=(r,2):=by simp only[Fz,hk,hL,Int.reduceEq,if_false,if_true,not_false_eq_true]
  rw[hP]
  repeat'((conv=>whnf);first|(apply aI<;>intro hb<;>first|exact absurd hb (by decide)|(exfalso;simp only[Az]at hb<;>omega)|((try rw[hb]);(try simp only[Ad]at hb)))|(refine eI ?_ ?_;focus (and_intros<;>first|omega|exact rfl|(intro _ hh;cases hh;done)|(simp;done)|decide))|((with_reducible apply Drawn.by0);(focus kernel_rfl);intro hfact;(try simp only[dRS]at hfact))|((simp only[show D.at (0::[].append [2]) (D.ptr r.toD)=some (D.vec B3 5 (r.usrs.map Usr.toD))from rfl,Jb,show D.at [0] (D.ptr r.toD)=some r.toD from rfl,Dr]))|(refine CallIs.mk ⟨_,_,hf,?_⟩)|(refine CallWp.mk ⟨_,n1,?_⟩;rintro _ _ ⟨rfl,rfl⟩)|(refine CallWp.mk ⟨_,n2,?_⟩;rintro _ _ ⟨rfl,rfl⟩))
  all_goals(try(conv=>whnf))
  all_goals first|(exfalso;omega)|(apply dK<;>kernel_rfl)
 obtain⟨hL1,hL2⟩:=hL
 have e1:decide (c.word.length≤64)=true:=by simp[hL1]
 have e2:decide (c.salt.length≤64)=true:=by simp[hL2]
 rw[e1]at n1
 rw[e2]at n2
 cases hb:Et Usr.name r.usrs c.name with
 |false=>
  rw[hb]at hf
  have hP:Fz r c=(r,16):=by simp only[Fz,hk,hL1,hL2,hb,Int.reduceEq,if_false,if_true,not_true_eq_false,and_self]
  rw[hP]
  repeat'((conv=>whnf);first|(apply aI<;>intro hb<;>first|exact absurd hb (by decide)|(exfalso;simp only[Az]at hb<;>omega)|((try rw[hb]);(try simp only[Ad]at hb)))|(refine eI ?_ ?_;focus (and_intros<;>first|omega|exact rfl|(intro _ hh;cases hh;done)|(simp;done)|decide))|((with_reducible apply Drawn.by0);(focus kernel_rfl);intro hfact;(try simp only[dRS]at hfact))|((simp only[show D.at (0::[].append [2]) (D.ptr r.toD)=some (D.vec B3 5 (r.usrs.map Usr.toD))from rfl,Jb,show D.at [0] (D.ptr r.toD)=some r.toD from rfl,Dr]))|(refine CallIs.mk ⟨_,_,hf,?_⟩)|(refine CallWp.mk ⟨_,n1,?_⟩;rintro _ _ ⟨rfl,rfl⟩)|(refine CallWp.mk ⟨_,n2,?_⟩;rintro _ _ ⟨rfl,rfl⟩))
  all_goals(try(conv=>whnf))
  all_goals(apply dK<;>kernel_rfl)
 |true=>
  rw[hb]at hf
  obtain⟨x,hx, -⟩:=Lv hb
  have hP:Fz r c=({r with usrs:=r.usrs.set (Ch Usr.name r.usrs c.name) {x with salt:=c.salt,hash:=Hj c.salt c.word}},0):=by simp only[Fz,hk,hL1,hL2,hb,hx,Int.reduceEq,if_false,if_true,not_true_eq_false,and_self,Bool.true_eq_false]
  rw[hP]
  clear hP hU
  have hxd:(r.usrs.map Usr.toD)[Ch Usr.name r.usrs c.name]?=some x.toD:=by simp[hx]
  have hlt:Ch Usr.name r.usrs c.name<r.usrs.length:=(List.getElem?_eq_some_iff.1 hx).1
  have hset:(r.usrs.set (Ch Usr.name r.usrs c.name) {x with salt:=c.salt,hash:=Hj c.salt c.word}).map Usr.toD=(r.usrs.map Usr.toD).set (Ch Usr.name r.usrs c.name) (Usr.toD {x with salt:=c.salt,hash:=Hj c.salt c.word}):=by simp[List.map_set]
  have hD:Roll.toD {r with usrs:=r.usrs.set (Ch Usr.name r.usrs c.name) {x with salt:=c.salt,hash:=Hj c.salt c.word}}= .st [.it (.int .i64 r.rev),.vec Cc 3 ((r.tens.map Ten.toI).map D.it),.vec B3 5 ((r.usrs.map Usr.toD).set (Ch Usr.name r.usrs c.name) (Usr.toD {x with salt:=c.salt,hash:=Hj c.salt c.word})),.vec B2 3 (r.rols.map Rol.toD)]:=by rw[←hset]
  rw[hD]
  repeat'((conv=>whnf);first|(apply aI<;>intro hb<;>first|exact absurd hb (by decide)|(exfalso;simp only[Az]at hb<;>omega)|((try rw[hb]);(try simp only[Ad]at hb)))|(refine eI ?_ ?_;focus (and_intros<;>first|omega|exact rfl|(intro _ hh;cases hh;done)|(simp only[Az];omega)|(simp;done)|decide))|((with_reducible apply Drawn.by0);(focus kernel_rfl);intro hfact;(try simp only[dRS]at hfact))|((simp only[show D.at (0::[].append [2]) (D.ptr r.toD)=some (D.vec B3 5 (r.usrs.map Usr.toD))from rfl,Jb,show D.at [0] (D.ptr r.toD)=some r.toD from rfl,Dr]))|(refine CallIs.mk ⟨_,_,hf,?_⟩)|(refine CallWp.mk ⟨_,n1,?_⟩;rintro _ _ ⟨rfl,rfl⟩)|(refine CallWp.mk ⟨_,n2,?_⟩;rintro _ _ ⟨rfl,rfl⟩)|(refine CallIs.mk ⟨_,_,hh,?_⟩)|((first|with_reducible apply Lr|((with_reducible apply D9);(focus rfl)));(focus (simp only[D.at,D.put,D.kid,D.setKid,List.cons_append,List.nil_append,List.append,List.getElem?_cons_zero,List.getElem?_cons_succ,Int.toNat_natCast,List.getElem?_set_self',Option.map_eq_map,Option.map_some,List.set_cons_zero,List.set_cons_succ,List.set_set,Function.const_apply,List.map_cons,List.map_nil,mkSt,Cn,D.toI,toIs,Bn,List.getElem?_map,List.length_map,List.length_set,hxd]<;>exact rfl));(try(focus exact rfl))))
  all_goals(try(conv=>whnf))
  (apply dK<;>kernel_rfl)
theorem A4b (r:Roll) (hs:r.Small) (c:Cmd) (hk:c.kind≠6∧c.kind≠7):Fn Tryz.prog Vj [.own [] (.ptr r.toD),.v c.toI] (Is (.v (.int .i64 (Fz r c).2)) [.own [] (.ptr (Q4 r c)),.no]):=by
 refine Zs ?_ (by simp)
 have hs':=hs
 obtain⟨b1,b2,b3,b4,b5⟩:=hs
 obtain⟨k6,k7⟩:=hk
 have hf:=T4 r.usrs c.name (by omega)
 have n1:=Ja c.word
 have n2:=Ja c.salt
 have hD:Q4 r c=(Fz r c).1.toD:=by simp[Q4,k6]
 rw[hD]
 have hP:Fz r c=(if Et Usr.name r.usrs c.name=false then(r,16)else if c.name=Aw2 then(r,1)else({r with usrs:=H6 (Ch Usr.name r.usrs c.name) r.usrs},0)):=by simp only[Fz,k6,k7,if_false]
 rw[hP]
 cases hb:Et Usr.name r.usrs c.name with
 |false=>
  rw[hb]at hf
  rw[if_pos rfl]
  repeat'((conv=>whnf);first|(apply aI<;>intro hb<;>first|exact absurd hb (by decide)|(exfalso;simp only[Az]at hb<;>omega)|((try rw[hb]);(try simp only[Ad]at hb)))|(refine eI ?_ ?_;focus (and_intros<;>first|omega|exact rfl|(intro _ hh;cases hh;done)|(simp;done)|decide))|((with_reducible apply Drawn.by0);(focus kernel_rfl);intro hfact;(try simp only[dRS]at hfact))|((simp only[show D.at (0::[].append [2]) (D.ptr r.toD)=some (D.vec B3 5 (r.usrs.map Usr.toD))from rfl,Jb,show D.at [0] (D.ptr r.toD)=some r.toD from rfl,Dr]))|(refine CallIs.mk ⟨_,_,hf,?_⟩)|(refine CallWp.mk ⟨_,n1,?_⟩;rintro _ _ ⟨rfl,rfl⟩)|(refine CallWp.mk ⟨_,n2,?_⟩;rintro _ _ ⟨rfl,rfl⟩))
  all_goals(try(conv=>whnf))
  all_goals(apply dK<;>kernel_rfl)
 |true=>
  rw[hb]at hf
  rw[if_neg (by simp)]
  by_cases hr:c.name=Aw2
  ·rw[if_pos hr]
   repeat'((conv=>whnf);first|(apply aI<;>intro hb<;>first|exact absurd hb (by decide)|(exfalso;simp only[Az]at hb<;>omega)|((try rw[hb]);(try simp only[Ad]at hb)))|(refine eI ?_ ?_;focus (and_intros<;>first|omega|exact rfl|(intro _ hh;cases hh;done)|(simp;done)|decide))|((with_reducible apply Drawn.by0);(focus kernel_rfl);intro hfact;(try simp only[dRS]at hfact))|((simp only[show D.at (0::[].append [2]) (D.ptr r.toD)=some (D.vec B3 5 (r.usrs.map Usr.toD))from rfl,Jb,show D.at [0] (D.ptr r.toD)=some r.toD from rfl,Dr]))|(refine CallIs.mk ⟨_,_,hf,?_⟩)|(refine CallWp.mk ⟨_,n1,?_⟩;rintro _ _ ⟨rfl,rfl⟩)|(refine CallWp.mk ⟨_,n2,?_⟩;rintro _ _ ⟨rfl,rfl⟩))
   all_goals(try(conv=>whnf))
   all_goals first|contradiction|(apply dK<;>kernel_rfl)
  ·rw[if_neg hr]
   obtain⟨x,hx, -⟩:=Lv hb
   have hlt:Ch Usr.name r.usrs c.name<r.usrs.length:=(List.getElem?_eq_some_iff.1 hx).1
   have hdel:=A1v (r.usrs.map Usr.toD) (Ch Usr.name r.usrs c.name) (by simpa using hlt) (by simp;omega)
   rw[Atv]at hdel
   have hw:IntKind.i64.wrap ((Ch Usr.name r.usrs c.name:Int)+1)=((Ch Usr.name r.usrs c.name+1:Nat):Int):=Ak hlt (by simp only[maxLen];omega)
   repeat'((conv=>whnf);first|(apply aI<;>intro hb<;>first|exact absurd hb (by decide)|(exfalso;simp only[Az]at hb<;>omega)|((try rw[hb]);(try simp only[Ad]at hb)))|(refine eI ?_ ?_;focus (and_intros<;>first|omega|exact rfl|(intro _ hh;cases hh;done)|(simp;done)|decide))|((with_reducible apply Drawn.by0);(focus kernel_rfl);intro hfact;(try simp only[dRS]at hfact))|((simp only[show D.at (0::[].append [2]) (D.ptr r.toD)=some (D.vec B3 5 (r.usrs.map Usr.toD))from rfl,Jb,show D.at [0] (D.ptr r.toD)=some r.toD from rfl,Dr]))|(refine CallIs.mk ⟨_,_,hf,?_⟩)|(refine CallWp.mk ⟨_,n1,?_⟩;rintro _ _ ⟨rfl,rfl⟩)|(refine CallWp.mk ⟨_,n2,?_⟩;rintro _ _ ⟨rfl,rfl⟩)|((simp only[List.tail,List.headD,hw]))|(refine CallWp.mk ⟨_,hdel,?_⟩;rintro _ _ ⟨rfl,rfl⟩))
   all_goals(try(conv=>whnf))
   all_goals first|contradiction|(apply dK<;>kernel_rfl)
end Go.Ab
