/- Lemmas for the last text. -/
import Derived.Test.YtgcccllpegilnaaGreatDoorR3
set_option linter.unusedVariables false
set_option linter.unusedSimpArgs false
set_option maxRecDepth 100000
namespace Go.Ab
open Go.Proofs Go.Shelf Go.RowKit Go.Lib Go.Sort
theorem W8:∀(l:List Sp) (t:Nat),t<l.length*2→((l.map Bs).flatten)[t]?=some ((Bs (l[t / 2]!))[t % 2]!)
 | [],t,h=>by simp at h
 |s::r,0,_=>by simp[Bs]
 |s::r,1,_=>by simp[Bs]
 |s::r,t+2,h=>by
  have:=W8 r t (by simp at h;omega)
  rw[show(t+2) / 2=t / 2+1 by omega,show(t+2) % 2=t % 2 by omega]
  simp only[List.map_cons,List.flatten_cons]
  rw[List.getElem?_append_right (by simp[Bs])]
  simpa[Bs]using this
theorem P9:∀l:List Sp,((l.map Bs).flatten).length=l.length*2
 | []=>rfl
 |s::r=>by
  simp only[List.map_cons,List.flatten_cons,List.length_append,P9 r,List.length_cons]
  simp[Bs]
  omega
theorem Ane (l:List Sp):(flatK Bs 2 l.toArray).toList=(l.map Bs).flatten:=by
 apply List.ext_getElem?
 intro t
 by_cases h:t<l.length*2
 ·rw[W8 l t h]
  have hs:t<(flatK Bs 2 l.toArray).size:=by simpa using h
  have:=get_flatK Bs 2 l.toArray t (by simpa using h)
  rw[getElem!_pos _ t hs]at this
  rw[Array.getElem?_toList,Array.getElem?_eq_getElem hs,this]
  simp
 ·rw[List.getElem?_eq_none (by simp;omega),List.getElem?_eq_none (by rw[P9];omega)]
theorem An6 {G:Mem} {s:Sp} {cs:List Value}:RepI G s.toI cs↔cs=Bs s∧s.f.length≤maxLen∧s.t.length≤maxLen:=by
 unfold Sp.toI Bs
 simp only[RepI,RepIs]
 constructor
 ·rintro⟨c,d,rfl,⟨rfl,h1⟩,c',d',rfl,⟨rfl,h2⟩,rfl⟩
  exact⟨rfl,h1,h2⟩
 ·rintro⟨rfl,h1,h2⟩
  exact⟨_,_,rfl,⟨rfl,h1⟩,_,_,rfl,⟨rfl,h2⟩,rfl⟩
theorem V8 {G:Mem}:∀{l:List Sp} {cs:List Value},RepIs G (sps l) cs↔cs=(l.map Bs).flatten∧∀s∈l,s.f.length≤maxLen∧s.t.length≤maxLen
 | [],cs=>by simp[RepIs,sps]
 |s::r,cs=>by
  simp only[sps,List.map_cons,RepIs,List.flatten_cons]
  constructor
  ·rintro⟨c,d,rfl,h1,h2⟩
   obtain⟨rfl,h3⟩:=An6.1 h1
   obtain⟨rfl,h4⟩:=V8.1 h2
   refine⟨rfl,fun x hx=>?_⟩
   rcases List.mem_cons.1 hx with rfl|hx
   ·exact h3
   ·exact h4 x hx
  ·rintro⟨rfl,h⟩
   exact⟨_,_,rfl,An6.2 ⟨rfl,h s (List.mem_cons_self ..)⟩,V8.2 ⟨rfl,fun x hx=>h x (List.mem_cons_of_mem _ hx)⟩⟩
theorem Yi {w:World} {g:Nat} {cur:Array Value} {e:TypeId} {l:List Sp} (hb:w.heap[g]?=some (.cells cur e (0,0))) (ht:cur.toList.take (l.length*2)=(l.map Bs).flatten):HoldsK Bs 2 w g 0 l.toArray:=by
 intro j hj
 have hj':j<l.length*2:=by simpa using hj
 refine⟨?_,by simp[World.frozen?,hb]⟩
 have h1:(cur.toList.take (l.length*2))[j]?=((l.map Bs).flatten)[j]?:=by rw[ht]
 rw[List.getElem?_take_of_lt hj',W8 l j hj']at h1
 simp only[World.cell?,hb,Nat.zero_add]
 simp only[Option.isSome_none,Bool.false_eq_true,if_false]
 rw[←Array.getElem?_toList,h1,get_flatK Bs 2 l.toArray j (by simpa using hj')]
 simp
theorem Aen {w:World} {g n:Nat} {os:Array Obj} {cur:Array Value} {e:TypeId} {fr:Nat × Nat} (d:Array Sp) (hb:w.heap[g]?=some (.cells cur e fr)):
 (sortWorldK Bs 2 w g 0 n d os).heap[g]?=some (.cells (putCells id 0 (flatK Bs 2 d) cur) e fr):=by
 have hg:g<w.heap.size:=(Array.getElem?_eq_some_iff.1 hb).1
 unfold sortWorldK putRowK
 rw[heap_grow_old _ _ (by simpa using hg)]
 simp[putRow,mapBlock,Sort.ahead,Array.getElem?_modify,hb,onCells]
theorem Yh {w:World} {g n:Nat} {os:Array Obj} (d:Array Sp):w.grownBy (sortWorldK Bs 2 w g 0 n d os) (some g):=by
 unfold sortWorldK putRowK
 refine⟨rfl,rfl,rfl,by simp,fun k hk hne=>?_⟩
 rw[heap_grow_old _ _ (by simpa using hk)]
 have:g≠k:=fun e=>hne (by rw[e])
 simp[putRow,mapBlock,Sort.ahead,Array.getElem?_modify,this]
theorem Aa1 (cur:Array Value) (F:Array Value) (h:F.size≤cur.size):(putCells id 0 F cur).toList.take F.size=F.toList:=by
 apply List.ext_getElem?
 intro j
 by_cases hj:j<F.size
 ·rw[List.getElem?_take_of_lt hj,Array.getElem?_toList]
  simp[putCells,hj,show j<cur.size by omega]
 ·rw[List.getElem?_take_eq_none (by omega),List.getElem?_eq_none (by simp;omega)]
theorem Ao8 (l:List Sp) (hne:l≠[]) (hlen:l.length≤1000000):Fn Tryz.prog 140 [.vec 34 2 (sps l),.v (.fn 141)]
 (fun r outs=>∃p:List Sp,p.Perm l∧(p.Pairwise fun x y=>x.f≤y.f)∧r= .tup []∧outs=[.vec 34 2 (sps p),.no]):=by
 intro G σ Fr w cargs hok hcl hargs
 have hc0:=(hargs 0 _ rfl).2
 have hc1:RepV G (.fn 141) (cargs.getD 1 undef):=(hargs 1 _ rfl).2
 rw[RepV.fn]at hc1
 have hca:cargs= #[cargs.getD 0 undef,.func (.func 141) #[] #[]]:=by
  rw[←hc1]
  apply Array.ext
  ·simpa using hcl
  ·intro j h1 h2
   have:j=0∨j=1:=by simp at h2;omega
   rcases this with rfl|rfl<;>simp[Array.getD,h1]
 generalize cargs.getD 0 undef=c0 at hc0 hca
 obtain⟨xs,hown,hrep,hsz,hlab⟩:=(show VecAt G σ w (0,0) 34 2 (sps l) c0 from hc0)
 obtain⟨hxs,hlens⟩:=V8.1 hrep
 have hlm:(sps l).length=l.length:=List.length_map ..
 rcases hown.2 with⟨_,h0⟩|⟨g,cap,cur,rfl,_,hrow,hn,hcm,hcur,htk⟩
 ·rw[hlm]at h0
  exact absurd (List.eq_nil_of_length_eq_zero h0) hne
 have hg:=hrow.to (by decide)
 rw[hlm]at hn htk
 have hgs:g<w.heap.size:=(Array.getElem?_eq_some_iff.1 hg).1
 have hH:HoldsK Bs 2 w g 0 l.toArray:=Yi hg (by rw[htk,hxs])
 have hlb:σ g=some (0,0):=hlab g rfl
 have eg:∀args w,(callFunc 141 args).run Tryz.prog w= .ok (.enter 141 args) w:=enters_of Tryz.func141 (by kernel_rfl) rfl
 have aE:∀w,(isAgg (Aas.t 24)).run Tryz.prog w= .ok true w:=fun _=>by kernel_rfl
 have zE:∀w,(Go.sizeOf (Aas.t 24)).run Tryz.prog w= .ok 2 w:=fun _=>by kernel_rfl
 have hcall:=AnyQ.slices_SortFunc Aq1 2 aE zE Bs (fun _=>rfl) (fun x v hv=>by simp[Bs]at hv;rcases hv with rfl|rfl<;>rfl) (fun x y=>cmpS x.f y.f) swoF 141 #[] g 0 cap l.toArray w eg (Ap1 g 0 _ w) hH hgs (by simp;omega)
 rw[hca]
 rw[hlm]
 have hsize:l.toArray.size=l.length:=by simp
 rw[hsize]at hcall
 refine Calls.mono hcall ?_
 rintro e w' ⟨rfl,d',n,os,hperm,hsorted,rfl⟩
 obtain⟨hps,_,hpp⟩:=hperm
 have hd:d'.size=l.length:=by rw[hps];simp
 have hp:d'.toList.Perm l:=by
  have e1:(d'.extract 0 l.length).toList=d'.toList:=by
   rw[←hd];simp
  have e2:(l.toArray.extract 0 l.length).toList=l:=by simp
  rw[e1,e2]at hpp
  exact hpp
 have hgr:=Yh (w:=w) (g:=g) (n:=n) (os:=os) d'
 have hnew:=Aen (n:=n) (os:=os) d' hg
 have hdl:d'=d'.toList.toArray:=by simp
 have hplen:d'.toList.length=l.length:=by simpa using hd
 have hok':WOk G σ Fr ⟨w,0, #[]⟩ (sortWorldK Bs 2 w g 0 n d' os):=by
  refine⟨?_,?_,hok.inj,?_,hgr.os,hgr.tape,hgr.output,hgr.size,hok.apart,hok.amb⟩
  ·intro b o hb
   have:=hok.fixed b o hb
   rw[hgr.block b (Array.getElem?_eq_some_iff.1 this).1 (by rintro e;cases e;rw[(hok.own g _ hlb).1]at hb;cases hb)]
   exact this
  ·intro b lab hb
   obtain⟨h1,h2,h3⟩:=hok.own b lab hb
   exact⟨h1,h2,Nat.lt_of_lt_of_le h3 hgr.size⟩
  ·intro b o hb
   have:=hok.frame b o hb
   rw[hgr.block b (Array.getElem?_eq_some_iff.1 this).1 (by rintro e;cases e;rw[(hok.own g _ hlb).2.1]at hb;cases hb)]
   exact this
 refine⟨_,_,_,G,σ,rfl,⟨d'.toList,hp,?_,rfl,rfl⟩,Mem.le.refl G,hok',rfl,⟨#[],rfl,rfl⟩,by simp,?_⟩
 ·rw[List.pairwise_iff_getElem]
  intro i j hi hj hij
  have:=hsorted i j (Nat.zero_le _) hij (by simpa[hd]using hj)
  rw[ltF]at this
  have hi':i<d'.size:=by simpa using hi
  have hj':j<d'.size:=by simpa using hj
  rw[getElem!_pos d' j hj',getElem!_pos d' i hi']at this
  simp at this
  simpa using this
 ·intro i sv hi
  have hi2:i=0∨i=1:=by
   have:=(List.getElem?_eq_some_iff.1 hi).1
   simp at this
   omega
  rcases hi2 with rfl|rfl
  ·cases hi
   refine⟨rfl,?_⟩
   have hpl:(sps d'.toList).length=l.length:=by rw[List.length_map,hplen]
   show VecAt G σ _ (0,0) 34 2 (sps d'.toList) _
   refine⟨(d'.toList.map Bs).flatten,⟨by rw[P9,hpl,hplen],.inr ⟨g,cap,_,by rw[hpl];rfl,Nat.zero_le _,Row.of hnew,by rw[hpl];exact hn,hcm,by simpa[putCells]using hcur,?_⟩⟩,V8.2 ⟨rfl,fun s hs=>hlens s (hp.mem_iff.1 hs)⟩,J9 _,fun b hb=>?_⟩
   ·have hF:(flatK Bs 2 d').size=l.length*2:=by simp[hd]
    have:=Aa1 cur (flatK Bs 2 d') (by rw[hF,hcur];exact Nat.mul_le_mul_right _ hn)
    rw[hpl, ←hF,this]
    conv=>lhs;rw[hdl]
    rw[Ane]
   ·cases hb
    exact hlb
  ·cases hi
   exact⟨rfl,trivial⟩
set_option maxHeartbeats 2000000

open Go.Proofs
theorem Jw (a b:Ad):0<Fm a b↔Cn a b:=by
 unfold Fm Cn cmpS
 have h1:a<b∨a=b∨b<a:=by grind
 split
 ·simp_all
 ·split
  ·simp_all
  ·split
   ·simp_all
   ·split
    ·simp_all;grind
    ·split<;>simp_all
def Aiz:Prop:=Fn Tryz.prog 140 [.v (.list []),.v (.fn 141)] (Is (.tup []) [.no,.no])
theorem CallWp.sort {l:List Sp} {args:List SV} {Q:SV→List SV→Prop} (h:Fn Tryz.prog 140 args fun r outs=>∃p:List Sp,p.Perm l∧(p.Pairwise fun x y=>x.f≤y.f)∧r= .tup []∧outs=[.vec 34 2 (sps p),.no])
 (k:∀p:List Sp,p.Perm l→(p.Pairwise fun x y=>x.f≤y.f)→Q (.tup []) [.vec 34 2 (sps p),.no]):CallWp Tryz.prog 140 args Q:=by
 refine CallWp.mk ⟨_,h,?_⟩
 rintro _ _ ⟨p,h1,h2,rfl,rfl⟩
 exact k p h1 h2
theorem Ar8 (u:Sp):u.toI.sub [1]=some (1+0,.str u.t):=rfl
theorem Aqu {e:Nat} {l:List I} {n:Nat} {u:Sp} (h:l[n]?=some u.toI):(SV.vec e 2 l).hit 0 ([n]++[1])=some (n*2+(1+0),.item (.str u.t)):=by
 simp[SV.hit,hitV,h,hitI,Ar8]
theorem Aqw {l:List I} {n:Nat} {u:Sp} {s:Ad} (h:l[n]?=some u.toI):putV l ([n]++[1]) (.str s)=l.set n (⟨u.f,s⟩:Sp).toI:=by
 simp[putV,h]
 rfl
theorem Amr (hnil:Aiz) (l:List Sp) (hl:l.length≤1000):Fn Tryz.prog Ad2 [.v (.list (sps l))] (Is (.v (.list (sps (uni l)))) [.no]):=by
 refine Ac9 ?_ (by simp)
 have hcl:=Ait l (by omega)
 have hdl:=Aig l (by omega)
 have hql:(l.filter Dn).length≤1000:=Nat.le_trans (List.length_filter_le ..) hl
 rcases hq:l.filter Dn with _|⟨q0,q'⟩
 ·rw[hq]at hdl
  have hu:uni l=[]:=by
   unfold uni
   have:(l.filter fun s=>decide (Bj s))=[]:=hq
   rw[this,List.mergeSort_nil]
   rfl
  rw[hu]
  repeat'((conv=>whnf);first|(refine eI ?_ ?_;focus (and_intros<;>first|omega|exact rfl|(intro _ hh;cases hh;done)|(simp;done)|decide))|(intro hfact)|(refine CallWp.mk ⟨_,hcl,?_⟩;rintro _ _ ⟨rfl,rfl⟩)|(refine CallWp.mk ⟨_,hdl,?_⟩;rintro _ _ ⟨rfl,rfl⟩)|(refine CallWp.mk ⟨_,hnil,?_⟩;rintro _ _ ⟨rfl,rfl⟩))
  all_goals(try(conv=>whnf))
  refine LoopWq.by (X:=Unit) (fun _=>[]) (fun _=>True) (fun _=>0) () (by kernel_rfl) trivial ?_
  rintro _ _
  repeat'((conv=>whnf);first|(apply aI<;>intro hb<;>first|exact absurd hb (by decide)|((try rw[hb]);(try simp only[Aa]at hb)))|(refine eI ?_ ?_;focus (and_intros<;>first|omega|exact rfl|(simp;done))))
  all_goals(try(conv=>whnf))
  exact Done.mk ⟨rfl,by kernel_rfl⟩ (by kernel_rfl)
 ·rw[hq]at hdl hql
  have hsort:=Ao8 (q0::q') (by simp) (by omega)
  repeat'((conv=>whnf);first|(refine eI ?_ ?_;focus (and_intros<;>first|omega|exact rfl|(intro _ hh;cases hh;done)|(simp;done)|decide))|(intro hfact)|(refine CallWp.mk ⟨_,hcl,?_⟩;rintro _ _ ⟨rfl,rfl⟩)|(refine CallWp.mk ⟨_,hdl,?_⟩;rintro _ _ ⟨rfl,rfl⟩)|(refine CallWp.sort hsort (fun p hp1 hp2=>?_)))
  all_goals(try(conv=>whnf))
  have hpl:p.length≤1000:=by rw[hp1.length_eq];exact hql
  have hmax:p.length≤maxLen:=by simp only[maxLen];omega
  have hres:Hv p=uni l:=Apf (by rw[show(l.filter fun s=>decide (Bj s))=l.filter Dn from rfl,hq];exact hp1) hp2
  refine LoopWq.by (X:=Nat × List Sp) (fun x=>[(3,.vec 34 2 (sps x.2)),(14,.v (.int .i64 x.1))]) (fun x=>x.1≤p.length∧x.2=Hv (p.take x.1)∧x.2.length≤x.1) (fun x=>p.length - x.1)
   (0,[]) (by kernel_rfl) ⟨Nat.zero_le _,rfl,Nat.le_refl _⟩ ?_
  rintro⟨k,out⟩ ⟨h1,h2,h3⟩
  dsimp only at h1 h2 h3 ⊢
  by_cases hk:k<p.length
  case neg=>
   have hlt:¬decide ((k:Int)<((sps p).length:Int))=true:=by simp;omega
   rw[show p.take k=p from List.take_of_length_le (by omega),hres]at h2
   subst h2
   repeat'((conv=>whnf);first|(apply aI<;>intro hb<;>first|exact absurd hb (by assumption)|((try rw[hb]);(try simp only[Aa]at hb)))|(refine eI ?_ ?_;focus (and_intros<;>first|omega|exact rfl|(simp;done))))
   all_goals(try(conv=>whnf))
   exact Done.mk ⟨rfl,by kernel_rfl⟩ (by kernel_rfl)
  obtain⟨e,he⟩:∃e,p[k]?=some e:=⟨_,List.getElem?_eq_getElem hk⟩
  have hlt:¬decide ((k:Int)<((sps p).length:Int))=false:=by simp[hk]
  have hg:(sps p)[Int.toNat (k:Int)]?=some e.toI:=J8 he
  have hh:=Kn (e:=34) (sz:=2) hg
  have hkl:Int.toNat (k:Int)<(sps p).length:=by simp[hk]
  have hround:p.length - (k+1)<p.length - k:=by omega
  have hsucc:Hv (p.take (k+1))=Jm out e:=by
   rw[h2]
   unfold Hv
   rw[List.take_add_one,he,List.foldl_append]
   rfl
  have hl1:((sps out).length+[e.toI].length)*32≤140737488355328:=by simp;omega
  have hl2:(sps out).length+[e.toI].length≤maxLen:=by simp[maxLen];omega
  have hl3:∀u∈[e.toI],u.size=2:=J9 [e]
  have hap:sps out++[e.toI]=sps (out++[e]):=by simp
  rcases List.eq_nil_or_concat out with rfl|⟨o,lst,ho⟩
  ·repeat'((conv=>whnf);first|(apply aI<;>intro hb<;>first|exact absurd hb (by first|assumption|decide)|((try rw[hb]);(try simp only[Aa]at hb)))|(refine eI ?_ ?_;focus (and_intros<;>first|omega|exact rfl|assumption|(simp;done)))|(intro hfact)|((with_reducible apply Drawn.by0);(focus kernel_rfl);intro hfact;(try simp only[dRS]at hfact))|((try dsimp only);rw[hh]))
   all_goals(try(conv=>whnf))
   refine Round.by (k+1,[e]) ?_ ⟨hk,by rw[hsucc];rfl,by simp⟩ hround
   rw[Ae hk hmax]
   show norm _ _=upd _ _
   kernel_rfl
  rw[List.concat_eq_append]at ho
  subst ho
  have hol:(sps (o++[lst])).length=o.length+1:=by simp
  have n1:¬decide (((sps (o++[lst])).length:Int)=0)=true:=by rw[hol];simp;omega
  have hw:IntKind.i64.wrap (((sps (o++[lst])).length:Int) - 1)=(o.length:Int):=by
   rw[hol]
   exact(A5 (by simp at h3;omega)).trans (by omega)
  have h0:0≤IntKind.i64.wrap (((sps (o++[lst])).length:Int) - 1):=by rw[hw];omega
  have hlt2:Int.toNat (IntKind.i64.wrap (((sps (o++[lst])).length:Int) - 1))<(sps (o++[lst])).length:=by rw[hw,hol];omega
  have hgl:(sps (o++[lst]))[Int.toNat (IntKind.i64.wrap (((sps (o++[lst])).length:Int) - 1))]?=some lst.toI:=by
   rw[hw]
   simp
  have hhl:=Aqu (e:=34) hgl
  rw[Vy]at hsucc
  have hput:putV (sps (o++[lst])) ([Int.toNat (IntKind.i64.wrap (((sps (o++[lst])).length:Int) - 1))]++[1]) (.str e.t)=sps (o++[⟨lst.f,e.t⟩]):=by
   rw[Aqw hgl,hw]
   simp
  by_cases c1:lst.t=[]
  ·have n2:¬(!decide (lst.t=[]))=true:=by simp[c1]
   by_cases c2:Cn e.t lst.t
   ·have n3:¬decide (0<Fm e.t lst.t)=false:=by simp[Jw,c2]
    rw[if_neg (fun h=>h.1 c1),if_pos c2]at hsucc
    repeat'((conv=>whnf);first|(apply aI<;>intro hb<;>first|exact absurd hb (by first|assumption|decide)|((try rw[hb]);(try simp only[Aa]at hb)))|(refine eI ?_ ?_;focus (and_intros<;>first|omega|exact rfl|(intro _ hh;cases hh;done)|(simp;done)|decide))|(intro hfact)|((with_reducible apply Drawn.by0);(focus kernel_rfl);intro hfact;(try simp only[dRS]at hfact))|((try dsimp only);rw[hh])|((try dsimp only);rw[hhl])|(refine CallIs.mk ⟨_,_,Kv _ _,?_⟩))
    all_goals(try(conv=>whnf))
    refine Round.by (k+1,o++[⟨lst.f,e.t⟩]) ?_ ⟨hk,hsucc.symm,by simp at h3 ⊢;omega⟩ hround
    dsimp only
    rw[Ae hk hmax, ←hput]
    show norm _ _=upd _ _
    kernel_rfl
   ·have n3:¬decide (0<Fm e.t lst.t)=true:=by simp[Jw,c2]
    rw[if_neg (fun h=>h.1 c1),if_neg c2]at hsucc
    repeat'((conv=>whnf);first|(apply aI<;>intro hb<;>first|exact absurd hb (by first|assumption|decide)|((try rw[hb]);(try simp only[Aa]at hb)))|(refine eI ?_ ?_;focus (and_intros<;>first|omega|exact rfl|(intro _ hh;cases hh;done)|(simp;done)|decide))|(intro hfact)|((with_reducible apply Drawn.by0);(focus kernel_rfl);intro hfact;(try simp only[dRS]at hfact))|((try dsimp only);rw[hh])|((try dsimp only);rw[hhl])|(refine CallIs.mk ⟨_,_,Kv _ _,?_⟩))
    all_goals(try(conv=>whnf))
    refine Round.by (k+1,o++[lst]) ?_ ⟨hk,hsucc.symm,by simp at h3 ⊢;omega⟩ hround
    dsimp only
    rw[Ae hk hmax]
    show norm _ _=upd _ _
    kernel_rfl
  have n2:¬(!decide (lst.t=[]))=false:=by simp[c1]
  by_cases c3:lst.t<e.f
  ·have n4:¬Op.bytesLess lst.t e.f=false:=by simp[Cu,c3]
   rw[if_pos ⟨c1,c3⟩]at hsucc
   repeat'((conv=>whnf);first|(apply aI<;>intro hb<;>first|exact absurd hb (by first|assumption|decide)|((try rw[hb]);(try simp only[Aa]at hb)))|(refine eI ?_ ?_;focus (and_intros<;>first|omega|exact rfl|assumption|(simp;done)))|(intro hfact)|((with_reducible apply Drawn.by0);(focus kernel_rfl);intro hfact;(try simp only[dRS]at hfact))|((try dsimp only);rw[hh])|((try dsimp only);rw[hhl]))
   all_goals(try(conv=>whnf))
   refine Round.by (k+1,o++[lst]++[e]) ?_ ⟨hk,hsucc.symm,by simp at h3 ⊢;omega⟩ hround
   dsimp only
   rw[Ae hk hmax, ←hap]
   show norm _ _=upd _ _
   kernel_rfl
  ·have n4:¬Op.bytesLess lst.t e.f=true:=by simp[Cu,c3]
   by_cases c2:Cn e.t lst.t
   ·have n3:¬decide (0<Fm e.t lst.t)=false:=by simp[Jw,c2]
    rw[if_neg (fun h=>c3 h.2),if_pos c2]at hsucc
    repeat'((conv=>whnf);first|(apply aI<;>intro hb<;>first|exact absurd hb (by first|assumption|decide)|((try rw[hb]);(try simp only[Aa]at hb)))|(refine eI ?_ ?_;focus (and_intros<;>first|omega|exact rfl|(intro _ hh;cases hh;done)|(simp;done)|decide))|(intro hfact)|((with_reducible apply Drawn.by0);(focus kernel_rfl);intro hfact;(try simp only[dRS]at hfact))|((try dsimp only);rw[hh])|((try dsimp only);rw[hhl])|(refine CallIs.mk ⟨_,_,Kv _ _,?_⟩))
    all_goals(try(conv=>whnf))
    refine Round.by (k+1,o++[⟨lst.f,e.t⟩]) ?_ ⟨hk,hsucc.symm,by simp at h3 ⊢;omega⟩ hround
    dsimp only
    rw[Ae hk hmax, ←hput]
    show norm _ _=upd _ _
    kernel_rfl
   ·have n3:¬decide (0<Fm e.t lst.t)=true:=by simp[Jw,c2]
    rw[if_neg (fun h=>c3 h.2),if_neg c2]at hsucc
    repeat'((conv=>whnf);first|(apply aI<;>intro hb<;>first|exact absurd hb (by first|assumption|decide)|((try rw[hb]);(try simp only[Aa]at hb)))|(refine eI ?_ ?_;focus (and_intros<;>first|omega|exact rfl|(intro _ hh;cases hh;done)|(simp;done)|decide))|(intro hfact)|((with_reducible apply Drawn.by0);(focus kernel_rfl);intro hfact;(try simp only[dRS]at hfact))|((try dsimp only);rw[hh])|((try dsimp only);rw[hhl])|(refine CallIs.mk ⟨_,_,Kv _ _,?_⟩))
    all_goals(try(conv=>whnf))
    refine Round.by (k+1,o++[lst]) ?_ ⟨hk,hsucc.symm,by simp at h3 ⊢;omega⟩ hround
    dsimp only
    rw[Ae hk hmax]
    show norm _ _=upd _ _
    kernel_rfl
set_option maxHeartbeats 1000000

open Go.Proofs
instance (l:List Sp) (k:Ad):Decidable (AnyH l k):=by unfold AnyH;infer_instance
theorem Apj (k:Ad):¬AnyH [] k:=by simp[AnyH]
theorem Am1 (s:Sp) (r:List Sp) (k:Ad):AnyH (s::r) k↔(Bj s∧SpH s k)∨AnyH r k:=by simp[AnyH]
theorem Xq (l:List Sp) (k:Ad):Fn Tryz.prog Sy [.v (.list (sps l)),.v (.str k)] (Is (.v (.bool (decide (AnyH l k)))) [.no,.no]):=by
 refine Se ?_ (by simp)
 by_cases hm:l.length≤maxLen
 case neg=>
  (conv=>whnf)
  all_goals(try(conv=>whnf))
  refine LoopWq.by (X:=Unit) (fun _=>[(5,.v (.int .i64 0))]) (fun _=>True) (fun _=>0) () (by kernel_rfl) trivial ?_
  rintro _ _
  repeat'((conv=>whnf);first|(apply aI<;>intro hb<;>first|(exfalso;simp only[Ag]at hb<;>omega)|((try rw[hb]);(try simp only[Aa]at hb)))|(refine eI ?_ ?_;focus (and_intros<;>exact rfl))|(intro hfact))
  all_goals(try(conv=>whnf))
  all_goals exact absurd (by simpa using(by assumption:(sps l).length≤maxLen)) hm
 (conv=>whnf)
 all_goals(try(conv=>whnf))
 refine LoopWq.by (X:=Nat) (fun x=>[(5,.v (.int .i64 x))]) (fun x=>x≤l.length∧(AnyH (l.drop x) k↔AnyH l k)) (fun x=>l.length - x)
  0 (by kernel_rfl) ⟨Nat.zero_le _,Iff.rfl⟩ ?_
 rintro j ⟨h1,h2⟩
 by_cases hj:j<l.length
 ·obtain⟨e,he⟩:∃e,l[j]?=some e:=⟨_,List.getElem?_eq_getElem hj⟩
  have hg:(sps l)[Int.toNat (j:Int)]?=some e.toI:=J8 he
  have hlt:¬decide ((j:Int)<((sps l).length:Int))=false:=by simp[hj]
  have hke:l[j]=e:=by rw[List.getElem?_eq_getElem hj]at he;simpa using he
  rw[List.drop_eq_getElem_cons hj,hke,Am1]at h2
  have hround:l.length - (j+1)<l.length - j:=by omega
  by_cases hr:Bj e
  ·have n1:¬decide (Bj e)=false:=by simp[hr]
   by_cases hh:SpH e k
   ·have n2:¬decide (SpH e k)=false:=by simp[hh]
    repeat'((conv=>whnf);first|(apply aI<;>intro hb<;>first|exact absurd hb (by first|assumption|decide)|((try rw[hb]);(try simp only[Aa]at hb)))|(refine eI ?_ ?_;focus (and_intros<;>first|omega|exact rfl|(intro _ hh;cases hh;done)|(simp;done)|decide))|(intro hfact)|((try dsimp only);rw[hg])|(refine CallWp.mk ⟨_,Cy _,?_⟩;rintro _ _ ⟨rfl,rfl⟩)|(refine CallWp.mk ⟨_,T6 _ _,?_⟩;rintro _ _ ⟨rfl,rfl⟩))
    all_goals(try(conv=>whnf))
    refine Done.mk ⟨SV.bool_congr ?_,by kernel_rfl⟩ (by kernel_rfl)
    symm
    simpa using h2.1 (.inl ⟨hr,hh⟩)
   ·have n2:¬decide (SpH e k)=true:=by simp[hh]
    repeat'((conv=>whnf);first|(apply aI<;>intro hb<;>first|exact absurd hb (by first|assumption|decide)|((try rw[hb]);(try simp only[Aa]at hb)))|(refine eI ?_ ?_;focus (and_intros<;>first|omega|exact rfl|(intro _ hh;cases hh;done)|(simp;done)|decide))|(intro hfact)|((try dsimp only);rw[hg])|(refine CallWp.mk ⟨_,Cy _,?_⟩;rintro _ _ ⟨rfl,rfl⟩)|(refine CallWp.mk ⟨_,T6 _ _,?_⟩;rintro _ _ ⟨rfl,rfl⟩))
    all_goals(try(conv=>whnf))
    refine Round.by (j+1) ?_ ⟨hj,by rw[←h2];simp[hh]⟩ hround
    rw[Ae hj hm]
    show norm _ _=upd _ _
    kernel_rfl
  ·have n1:¬decide (Bj e)=true:=by simp[hr]
   repeat'((conv=>whnf);first|(apply aI<;>intro hb<;>first|exact absurd hb (by first|assumption|decide)|((try rw[hb]);(try simp only[Aa]at hb)))|(refine eI ?_ ?_;focus (and_intros<;>first|omega|exact rfl|(intro _ hh;cases hh;done)|(simp;done)|decide))|(intro hfact)|((try dsimp only);rw[hg])|(refine CallWp.mk ⟨_,Cy _,?_⟩;rintro _ _ ⟨rfl,rfl⟩))
   all_goals(try(conv=>whnf))
   refine Round.by (j+1) ?_ ⟨hj,by rw[←h2];simp[hr]⟩ hround
   rw[Ae hj hm]
   show norm _ _=upd _ _
   kernel_rfl
 ·have hlt:¬decide ((j:Int)<((sps l).length:Int))=true:=by simp;omega
  rw[List.drop_eq_nil_of_le (by omega)]at h2
  repeat'((conv=>whnf);first|(apply aI<;>intro hb<;>first|exact absurd hb (by assumption)|((try rw[hb]);(try simp only[Aa]at hb)))|(refine eI ?_ ?_;focus (and_intros<;>exact rfl))|(intro hfact))
  all_goals(try(conv=>whnf))
  refine Done.mk ⟨SV.bool_congr ?_,by kernel_rfl⟩ (by kernel_rfl)
  symm
  rw[decide_eq_false_iff_not, ←h2]
  exact Apj k
set_option maxHeartbeats 4000000

open Go.Proofs
abbrev bys (s:Ad):List I:=s.map A2
theorem P5:∀s:Ad,bytesOf (bys s)=some s
 | []=>rfl
 |b::s=>by simp[bys,A2,bytesOf,P5 s]
theorem Aq6 {s:Ad} {k:Nat} {x:UInt8} (h:s[k]?=some x):(bys s)[k]?=some (.int .u8 x.toNat):=by simp[h,A2]
theorem W3 (s:Ad):∀u∈bys s,u.size=1:=by
 intro u hu
 obtain⟨b,_,rfl⟩:=List.mem_map.1 hu
 rfl
theorem Ra (n k:Nat) (hn:n<18446744073709551616) (hk:k≤1000):Fn Tryz.prog Nq [.v (.int .u64 n),.v (.int .i64 k)] (Is (.vec 5 1 (bys (Bq n k))) [.no,.no]):=by
 refine L1 ?_ (by simp)
 have hw0:IntKind.i64.wrap ((k:Int) - 1)=(k:Int) - 1:=A5 (by omega)
 repeat'((conv=>whnf);first|(refine eI ?_ ?_;focus (and_intros<;>omega))|((try dsimp only);rw[hw0]))
 all_goals(try(conv=>whnf))
 refine LoopWq.by (X:=Nat × Nat × Ad) (fun x=>[(0,.v (.int .u64 x.2.1)),(5,.vec 5 1 (List.replicate x.1 (.int .u8 0)++bys x.2.2)),(6,.v (.int .i64 ((x.1:Int) - 1)))])
  (fun x=>x.1≤k∧x.2.1<18446744073709551616∧Bq x.2.1 x.1++x.2.2=Bq n k) (fun x=>x.1)
  (k,n,[]) (by simp only[bys,List.map_nil,List.append_nil];kernel_rfl) ⟨Nat.le_refl _,hn,by simp⟩ ?_
 rintro⟨j,m,t⟩ ⟨h1,h2,h3⟩
 dsimp only at h1 h2 h3 ⊢
 rcases j with _|j
 ·simp only[List.replicate_zero,List.nil_append]
  repeat'((conv=>whnf);first|(apply aI<;>intro hb<;>first|exact absurd hb (by decide)|((try rw[hb]);(try simp only[Aa]at hb)))|(refine eI ?_ ?_;focus (and_intros<;>first|omega|exact rfl|(simp;done))))
  all_goals(try(conv=>whnf))
  refine Done.mk ⟨congrArg (fun l=>SV.vec 5 1 (bys l)) ?_,by kernel_rfl⟩ (by kernel_rfl)
  simpa[Bq]using h3
 ·rw[show((j+1:Nat):Int) - 1=(j:Int)by omega]
  have n1:¬decide (0≤(j:Int))=false:=by simp
  have hgl:j<(List.replicate (j+1) (I.int .u8 0)++bys t).length:=by simp;omega
  have hg:(List.replicate (j+1) (I.int .u8 0)++bys t)[Int.toNat (j:Int)]?=some (.int .u8 0):=by
   rw[Int.toNat_natCast,List.getElem?_append_left (by simp),List.getElem?_replicate,if_pos (by omega)]
  have hh:=Kn (e:=5) (sz:=1) hg
  have hkl:Int.toNat (j:Int)<(List.replicate (j+1) (I.int .u8 0)++bys t).length:=hgl
  have hq:IntKind.u64.wrap (Int.tdiv (m:Int) 256)=((m / 256:Nat):Int):=by
   rw[wrap_u64,Int.tdiv_eq_ediv_of_nonneg (by omega)];omega
  have hr:IntKind.u8.wrap (Int.tmod (m:Int) 256)=(((UInt8.ofNat (m % 256)).toNat:Nat):Int):=by
   rw[wrap_u8,Int.tmod_eq_emod_of_nonneg (by omega)]
   simp
  repeat'((conv=>whnf);first|(apply aI<;>intro hb<;>first|exact absurd hb (by assumption)|((try rw[hb]);(try simp only[Aa]at hb)))|(refine eI ?_ ?_;focus (and_intros<;>first|omega|exact rfl|(simp;done)))|((try dsimp only);rw[hh]))
  all_goals(try(conv=>whnf))
  refine Round.by (j,m / 256,UInt8.ofNat (m % 256)::t) ?_ ⟨by dsimp only;omega,by dsimp only;omega,?_⟩ (Nat.lt_succ_self j)
  ·dsimp only
   have hwj:IntKind.i64.wrap ((j:Int) - 1)=(j:Int) - 1:=A5 (by omega)
   have hput:List.replicate j (I.int .u8 0)++bys (UInt8.ofNat (m % 256)::t)=putV (List.replicate (j+1) (I.int .u8 0)++bys t) [Int.toNat (j:Int)] ((I.int .u8 0).put [] (.int .u8 (IntKind.u8.wrap (Int.tmod (m:Int) 256)))):=by
    rw[Afe hg,hr,Int.toNat_natCast,List.set_append_left _ _ (by simp),List.replicate_succ',List.set_append_right _ _ (by simp)]
    simp[bys,A2,I.put]
   rw[hput,hwj,hq]
   show norm _ _=upd _ _
   kernel_rfl
  ·dsimp only
   rw[←h3,Bq]
   simp

open Go.Proofs
theorem Ach (e:TypeId) (sz:Nat) (l:List I):(SV.vec e sz l).vecAt 0=some (e,sz,l):=rfl
theorem Vs (x n:Int) (h0:0≤n):Fn Tryz.prog Rf [.v (.int .u32 x),.v (.int .u64 n)] (Is (.v (.int .u32 (Fq x n))) [.no,.no]):=by
 refine Qt ?_ (by simp)
 have h1:0≤IntKind.u64.wrap (32 - n):=by rw[wrap_u64];omega
 repeat'((conv=>whnf);(refine eI ?_ ?_;focus (and_intros<;>first|omega|exact rfl)))
 all_goals(try(conv=>whnf))
 exact Done.mk ⟨rfl,by kernel_rfl⟩ (by kernel_rfl)
theorem Aaw:Fn Tryz.prog Ky [] (Is (.vec Aph 1 (kays.map (I.int .u32))) []):=by
 refine J1 ?_ (by simp)
 repeat'((conv=>whnf);(refine eI ?_ ?_;focus (and_intros<;>first|omega|exact rfl|exact A0 (by rfl))))
 all_goals(try(conv=>whnf))
 exact Done.mk ⟨by kernel_rfl,by kernel_rfl⟩ (by kernel_rfl)
theorem Akc {l:List Ad} {k:Nat} {e:Ad} (h:l[k]?=some e):Bo (l.take (k+1))=Bo (l.take k)++Bq e.length 8++e:=by
 unfold Bo
 rw[List.take_add_one,h]
 simp
theorem Xe {l:List Ad} {m:Nat} (h:∀s∈l,s.length≤m):(Bo l).length≤l.length*(m+8):=by
 induction l with
 |nil=>simp[Bo]
 |cons a r ih=>
  have h1:=ih fun s hs=>h s (List.mem_cons_of_mem _ hs)
  have h2:=h a (List.mem_cons_self ..)
  have:Bo (a::r)=Bq a.length 8++a++Bo r:=by simp[Bo]
  rw[this]
  simp only[List.length_append,Bh,List.length_cons,Nat.add_mul]
  omega
theorem Ww (l:List Ad) (hl:l.length≤1000) (he:∀s∈l,s.length≤1000000):Fn Tryz.prog Np [.v (.list (strs l))] (Is (.v (.str (Bo l))) [.no]):=by
 refine M8 ?_ (by simp)
 have hm:l.length≤maxLen:=by simp only[maxLen];omega
 repeat'((conv=>whnf);(refine eI ?_ ?_;focus (and_intros<;>omega)))
 all_goals(try(conv=>whnf))
 refine LoopWq.by (X:=Nat) (fun x=>[(3,.vec 5 1 (bys (Bo (l.take x)))),(4,.v (.int .i64 x))]) (fun x=>x≤l.length) (fun x=>l.length - x)
  0 (by rw[List.take_zero];kernel_rfl) (Nat.zero_le _) ?_
 intro k h1
 have hjl:(Bo (l.take k)).length≤1000*1000008:=by
  have:=Xe (l:=l.take k) (m:=1000000) fun s hs=>he s (List.mem_of_mem_take hs)
  rw[List.length_take]at this
  exact Nat.le_trans this (Nat.mul_le_mul_right _ (by omega))
 by_cases hk:k<l.length
 case neg=>
  have hlt:¬decide ((k:Int)<((strs l).length:Int))=true:=by simp;omega
  rw[show l.take k=l from List.take_of_length_le (by omega)]at hjl ⊢
  have hml:(Bo l).length≤maxLen:=by simp only[maxLen];omega
  repeat'((conv=>whnf);first|(apply aI<;>intro hb<;>first|exact absurd hb (by assumption)|((try rw[hb]);(try simp only[Aa]at hb)))|(refine eI ?_ ?_;focus (and_intros<;>first|omega|exact rfl|(simp;done)))|(intro hfact)|((try dsimp only);rw[Ach])|((try dsimp only);rw[P5]))
  all_goals(try(conv=>whnf))
  exact Done.mk ⟨rfl,by kernel_rfl⟩ (by kernel_rfl)
 obtain⟨e,hek⟩:∃e,l[k]?=some e:=⟨_,List.getElem?_eq_getElem hk⟩
 have hel:=he e (List.mem_of_getElem? hek)
 have hg:(strs l)[Int.toNat (k:Int)]?=some (.str e):=Nj hek
 have hlt:¬decide ((k:Int)<((strs l).length:Int))=false:=by simp[hk]
 have hround:l.length - (k+1)<l.length - k:=by omega
 have hw:IntKind.u64.wrap (e.length:Int)=(e.length:Int):=by rw[wrap_u64];omega
 have hnum:=Ra e.length 8 (by omega) (by omega)
 have hnl:=Bh e.length 8
 have hsz:=W3 (Bq e.length 8)
 obtain⟨J,hJ⟩:∃J,J=Bo (l.take k):=⟨_,rfl⟩
 have hjs:=Akc hek
 rw[←hJ]at hjl hjs ⊢
 have e1:((bys J).length+(bys (Bq e.length 8)).length)*1≤140737488355328:=by simp only[List.length_map,hnl];omega
 have e2:(bys J).length+(bys (Bq e.length 8)).length≤maxLen:=by simp only[List.length_map,hnl,maxLen];omega
 have e3:((bys J++bys (Bq e.length 8)).length+e.length)*1≤140737488355328:=by simp only[List.length_append,List.length_map,hnl];omega
 have e4:(bys J++bys (Bq e.length 8)).length+e.length≤maxLen:=by simp only[List.length_append,List.length_map,hnl,maxLen];omega
 repeat'((conv=>whnf);first|(apply aI<;>intro hb<;>first|exact absurd hb (by assumption)|((try rw[hb]);(try simp only[Aa]at hb)))|(refine eI ?_ ?_;focus (and_intros<;>first|omega|exact rfl|(intro _ hh;cases hh;done)|(simp;done)|decide))|(intro hfact)|((with_reducible apply Drawn.by0);(focus kernel_rfl);intro hfact;(try simp only[dRS]at hfact))|((try dsimp only);rw[hg])|((try dsimp only);rw[hw])|(refine CallIs.mk ⟨_,_,hnum,?_⟩))
 all_goals(try(conv=>whnf))
 refine Round.by (k+1) ?_ hk hround
 rw[Ae hk hm,hjs]
 simp only[bys,List.map_append]
 show norm _ _=upd _ _
 kernel_rfl
set_option maxHeartbeats 40000000

open Go.Proofs
abbrev u32L (l:List Int):List I:=l.map (I.int .u32)
theorem Hm {l:List Int} {k:Nat} {e:Int} (h:l[k]?=some e):(u32L l)[k]?=some (.int .u32 e):=by simp[h]
theorem Jy {e sz:Nat} {l:List I} {n:Nat} {u:I} (h:l[n]?=some u):(SV.vec e sz l).hit 0 [Int.toNat (n:Int)]=some (Int.toNat (n:Int)*sz+0,.item u):=
 Kn (by rw[Int.toNat_natCast];exact h)
theorem Ad6 (m:Ad):∀n,∀x∈(blocks m n).l,0≤x∧x<4294967296
 |0=>(by decide:∀x∈H0.l,0≤x∧x<4294967296)
 |n+1=>by
  intro x hx
  simp only[blocks,H4,addH,H8.l,List.mem_cons,List.not_mem_nil,or_false]at hx
  rcases hx with rfl|rfl|rfl|rfl|rfl|rfl|rfl|rfl<;>exact X2 _
theorem Abk {h:H8} {t:Nat} {x:Int} (hx:h.l[t]?=some x):outB h (t+1)=outB h t++Bq x.toNat 4:=by
 unfold outB
 rw[List.take_add_one,hx]
 simp
theorem Q6 (h:H8):∀t,t≤8→(outB h t).length=4*t
 |0,_=>rfl
 |t+1,ht=>by
  obtain⟨x,hx⟩:∃x,h.l[t]?=some x:=⟨_,List.getElem?_eq_getElem (show t<8 by omega)⟩
  rw[Abk hx,List.length_append,Q6 h t (by omega),Bh]
  omega
def pre (s:Ad) (x:Nat):Ad:=s++[128]++List.replicate x 0
theorem Jf (s:Ad) (x:Nat):(pre s x).length=s.length+1+x:=by simp[pre];omega
theorem Ag2 (s:Ad) (hl:s.length≤100000000):Fn Tryz.prog Sw [.v (.str s)] (Is (.v (.str (sumB s))) [.no]):=by
 refine Sc ?_ (by simp)
 have e1:((List.map A2 s).length+1)*1≤140737488355328:=by simp only[List.length_map];omega
 have e2:(List.map A2 s).length+1≤maxLen:=by simp only[List.length_map,maxLen];omega
 repeat'((conv=>whnf);(refine eI ?_ ?_;focus (and_intros<;>first|omega|exact rfl|assumption|exact A0 (by rfl)|(simp;done))))
 all_goals(try(conv=>whnf))
 refine LoopWq.by (X:=Nat) (fun x=>[(3,.vec 1000005 1 (bys (pre s x)))]) (fun x=>x≤zeros s.length) (fun x=>zeros s.length - x)
  0 (by simp only[pre,List.replicate_zero,List.append_nil,bys,List.map_append];kernel_rfl) (Nat.zero_le _) ?_
 intro x hx
 have htm:Int.tmod ((bys (pre s x)).length:Int) 64=(((s.length+1+x) % 64:Nat):Int):=by
  rw[List.length_map,Jf,Int.tmod_eq_emod_of_nonneg (by omega)];omega
 have hzl:zeros s.length≤63:=by unfold zeros;omega
 by_cases hz:x<zeros s.length
 ·have n1:¬(!decide (Int.tmod ((bys (pre s x)).length:Int) 64=56))=false:=by
   rw[htm];simp;unfold zeros at hz;omega
  have e3:((bys (pre s x)).length+1)*1≤140737488355328:=by simp only[List.length_map,Jf];omega
  have e4:(bys (pre s x)).length+1≤maxLen:=by simp only[List.length_map,Jf,maxLen];omega
  repeat'((conv=>whnf);first|(apply aI<;>intro hb<;>first|exact absurd hb (by assumption)|((try rw[hb]);(try simp only[Aa]at hb)))|(refine eI ?_ ?_;focus (and_intros<;>first|omega|exact rfl|assumption|exact A0 (by rfl)|(simp;done)))|(intro hfact))
  all_goals(try(conv=>whnf))
  refine Round.by (x+1) ?_ hz (by omega)
  have hp:bys (pre s (x+1))=bys (pre s x)++(List.replicate 1 (I.int .u8 0)).set 0 (.int .u8 0):=by
   simp only[pre,List.replicate_succ',bys,List.map_append,List.append_assoc]
   rfl
  rw[hp]
  show norm _ _=upd _ _
  kernel_rfl
 have n1:¬(!decide (Int.tmod ((bys (pre s x)).length:Int) 64=56))=true:=by
  rw[htm];simp;unfold zeros at hz hx;omega
 have hxz:x=zeros s.length:=by omega
 have hw8:IntKind.u64.wrap (8*IntKind.u64.wrap (s.length:Int))=((8*s.length:Nat):Int):=by rw[wrap_u64,wrap_u64];omega
 have hnum:=Ra (8*s.length) 8 (by omega) (by omega)
 have hnl:=Bh (8*s.length) 8
 have hsz:=W3 (Bq (8*s.length) 8)
 have e3:((bys (pre s x)).length+(bys (Bq (8*s.length) 8)).length)*1≤140737488355328:=by simp only[List.length_map,Jf,hnl];omega
 have e4:(bys (pre s x)).length+(bys (Bq (8*s.length) 8)).length≤maxLen:=by simp only[List.length_map,Jf,hnl,maxLen];omega
 repeat'((conv=>whnf);first|(apply aI<;>intro hb<;>first|exact absurd hb (by assumption)|((try rw[hb]);(try simp only[Aa]at hb)))|(refine eI ?_ ?_;focus (and_intros<;>first|omega|exact rfl|(intro _ hh;cases hh;done)|exact A0 (by rfl)|(simp;done)|decide))|(intro hfact)|((try dsimp only);rw[hw8])|(refine CallWp.mk ⟨_,hnum,?_⟩;rintro _ _ ⟨rfl,rfl⟩)|(refine CallWp.mk ⟨_,Aaw,?_⟩;rintro _ _ ⟨rfl,rfl⟩))
 all_goals(try(conv=>whnf))
 have hM:bys (pre s x)++bys (Bq (8*s.length) 8)=bys (padB s):=by
  rw[hxz];simp only[pre,padB,bys,List.map_append]
 rw[hM]
 have hMl:=Wu s
 have hMm:(padB s).length≤100000300:=by
  simp only[padB,List.length_append,List.length_replicate,Bh,List.length_singleton];omega
 have hsum:sumB s=outB (blocks (padB s) ((padB s).length / 64)) 8:=rfl
 rw[hsum]
 clear hsum hM hnum hnl hsz e1 e2 e3 e4 hw8 htm n1
 obtain⟨M,hMd⟩:∃M,M=padB s:=⟨_,rfl⟩
 rw[←hMd]at hMl hMm ⊢
 obtain⟨N,hN⟩:∃N,N=M.length / 64:=⟨_,rfl⟩
 rw[←hN]at hMl ⊢
 refine LoopWq.by (X:=Nat) (fun n=>[(4,.vec 141 1 (u32L (blocks M n).l)),(6,.v (.int .i64 ((64*n:Nat):Int)))]) (fun n=>n≤N) (fun n=>N - n)
  0 (by kernel_rfl) (Nat.zero_le _) ?_
 intro n hn
 by_cases hnN:n<N
 case neg=>
  have hlt:¬decide (((64*n:Nat):Int)<((bys M).length:Int))=true:=by simp;omega
  have:n=N:=by omega
  subst this
  obtain⟨H,hH⟩:∃H,H=blocks M n:=⟨_,rfl⟩
  have hbd:∀x∈H.l,0≤x∧x<4294967296:=by rw[hH];exact Ad6 M n
  rw[←hH]
  repeat'((conv=>whnf);first|(apply aI<;>intro hb<;>first|exact absurd hb (by assumption)|((try rw[hb]);(try simp only[Aa]at hb)))|(refine eI ?_ ?_;focus (and_intros<;>first|omega|exact rfl|(simp;done)))|(intro hfact))
  all_goals(try(conv=>whnf))
  refine LoopWq.by (X:=Nat) (fun t=>[(25,.vec 5 1 (bys (outB H t))),(26,.v (.int .i64 t))]) (fun t=>t≤8) (fun t=>8 - t)
   0 (by kernel_rfl) (by omega) ?_
  intro t ht
  have hol:=Q6 H t ht
  by_cases ht8:t<8
  case pos=>
   have hlt1:¬decide ((t:Int)<8)=false:=by simp;omega
   obtain⟨x,hx⟩:∃x,H.l[t]?=some x:=⟨_,List.getElem?_eq_getElem (show t<8 by omega)⟩
   obtain⟨hx0,hx1⟩:=hbd x (List.mem_of_getElem? hx)
   have hh:=Jy (e:=141) (sz:=1) (Hm hx)
   have hl8:(u32L H.l).length=8:=rfl
   have bk:Int.toNat (t:Int)<(u32L H.l).length:=by rw[Int.toNat_natCast,hl8];exact ht8
   have bk2:(t:Int)<((u32L H.l).length:Int):=by rw[hl8];exact_mod_cast ht8
   have hw:IntKind.u64.wrap x=((x.toNat:Nat):Int):=by rw[wrap_u64];omega
   have hnum:=Ra x.toNat 4 (by omega) (by omega)
   have hnl:=Bh x.toNat 4
   have hsz:=W3 (Bq x.toNat 4)
   have hos:=Abk hx
   obtain⟨O,hO⟩:∃O,O=outB H t:=⟨_,rfl⟩
   rw[←hO]at hol hos ⊢
   have e1:((bys O).length+(bys (Bq x.toNat 4)).length)*1≤140737488355328:=by simp only[List.length_map,hnl];omega
   have e2:(bys O).length+(bys (Bq x.toNat 4)).length≤maxLen:=by simp only[List.length_map,hnl,maxLen];omega
   repeat'((conv=>whnf);first|(apply aI<;>intro hb<;>first|exact absurd hb (by assumption)|((try rw[hb]);(try simp only[Aa]at hb)))|(refine eI ?_ ?_;focus (and_intros<;>first|omega|exact rfl|(intro _ hh;cases hh;done)|(simp;done)|decide))|((try dsimp only);rw[hh])|((try dsimp only);rw[hw])|(refine CallWp.mk ⟨_,hnum,?_⟩;rintro _ _ ⟨rfl,rfl⟩))
   all_goals(try(conv=>whnf))
   refine Round.by (t+1) ?_ ht8 (by omega)
   rw[Ae ht8 (by simp only[maxLen];omega),hos,show bys (O++Bq x.toNat 4)=bys O++bys (Bq x.toNat 4)from List.map_append]
   show norm _ _=upd _ _
   kernel_rfl
  have hlt1:¬decide ((t:Int)<8)=true:=by simp;omega
  have ht':t=8:=by omega
  subst ht'
  obtain⟨O,hO⟩:∃O,O=outB H 8:=⟨_,rfl⟩
  rw[←hO]at hol ⊢
  have hml:O.length≤maxLen:=by rw[hol];simp only[maxLen];omega
  repeat'((conv=>whnf);first|(apply aI<;>intro hb<;>first|exact absurd hb (by assumption)|((try rw[hb]);(try simp only[Aa]at hb)))|(refine eI ?_ ?_;focus (and_intros<;>first|omega|(simp;done)))|((try dsimp only);rw[Ach])|((try dsimp only);rw[P5]))
  all_goals(try(conv=>whnf))
  exact Done.mk ⟨rfl,by kernel_rfl⟩ (by kernel_rfl)
 have hlt:¬decide (((64*n:Nat):Int)<((bys M).length:Int))=false:=by simp;omega
 have hw64:IntKind.i64.wrap (((64*n:Nat):Int)+64)=((64*(n+1):Nat):Int):=by
  rw[show((64*n:Nat):Int)+64=((64*(n+1):Nat):Int)by omega];exact A5 (by omega)
 have hnext:blocks M (n+1)=H4 M (64*n) (blocks M n):=rfl
 obtain⟨H,hH⟩:∃H,H=blocks M n:=⟨_,rfl⟩
 rw[←hH]at hnext ⊢
 have hlist:u32L H.l=[.int .u32 H.a,.int .u32 H.b,.int .u32 H.c,.int .u32 H.d,.int .u32 H.e,.int .u32 H.f,.int .u32 H.g,.int .u32 H.i]:=rfl
 rw[hlist]
 repeat'((conv=>whnf);first|(apply aI<;>intro hb<;>first|exact absurd hb (by assumption)|((try rw[hb]);(try simp only[Aa]at hb)))|(refine eI ?_ ?_;focus (and_intros<;>first|omega|exact rfl|(simp;done)))|(intro hfact))
 all_goals(try(conv=>whnf))
 refine LoopWq.by (X:=Nat) (fun t=>[(7,.vec 141 1 (u32L (sched M (64*n) t))),(8,.v (.int .i64 t))]) (fun t=>t≤16) (fun t=>16 - t)
  0 (by kernel_rfl) (by omega) ?_
 intro t ht
 by_cases ht16:t<16
 case pos=>
  have hlt1:¬decide ((t:Int)<16)=false:=by simp;omega
  repeat'((conv=>whnf);(apply aI<;>intro hb<;>first|exact absurd hb (by assumption)|((try rw[hb]);(try simp only[Aa]at hb))))
  all_goals(try(conv=>whnf))
  refine LoopWq.by (X:=Nat) (fun i=>[(9,.v (.int .u32 (Hh M (64*n+4*t) i))),(10,.v (.int .i64 i))]) (fun i=>i≤4) (fun i=>4 - i)
   0 (by kernel_rfl) (by omega) ?_
  intro i hi
  by_cases hi4:i<4
  case pos=>
   have hlt2:¬decide ((i:Int)<4)=false:=by simp;omega
   obtain⟨b,hb0⟩:∃b,M[64*n+4*t+i]?=some b:=⟨_,List.getElem?_eq_getElem (by omega)⟩
   have hg:(bys M)[Int.toNat ((64*n+4*t+i:Nat):Int)]?=some (.int .u8 b.toNat):=Aq6 hb0
   have hh:=Kn (e:=1000005) (sz:=1) hg
   have hkl:Int.toNat ((64*n+4*t+i:Nat):Int)<(bys M).length:=by simp;omega
   have hkl2:((64*n+4*t+i:Nat):Int)<((bys M).length:Int):=by simp;omega
   have hw4:IntKind.i64.wrap (4*(t:Int))=((4*t:Nat):Int):=by
    rw[show 4*(t:Int)=((4*t:Nat):Int)by omega];exact A5 (by omega)
   have hw5:IntKind.i64.wrap (((64*n:Nat):Int)+((4*t:Nat):Int))=((64*n+4*t:Nat):Int):=by
    rw[show((64*n:Nat):Int)+((4*t:Nat):Int)=((64*n+4*t:Nat):Int)by omega];exact A5 (by omega)
   have hw6:IntKind.i64.wrap (((64*n+4*t:Nat):Int)+(i:Int))=((64*n+4*t+i:Nat):Int):=by
    rw[show((64*n+4*t:Nat):Int)+(i:Int)=((64*n+4*t+i:Nat):Int)by omega];exact A5 (by omega)
   have hby:Hh M (64*n+4*t) (i+1)=B4 (B4 (Hh M (64*n+4*t) i*256)+B4 (b.toNat:Int)):=by
    rw[Hh,Cf,List.getD_eq_getElem?_getD,hb0];rfl
   repeat'((conv=>whnf);first|(apply aI<;>intro hb<;>first|exact absurd hb (by assumption)|((try rw[hb]);(try simp only[Aa]at hb)))|(refine eI ?_ ?_;focus (and_intros<;>first|omega|exact rfl|(simp;done)))|((try dsimp only);rw[hw4])|((try dsimp only);rw[hw5])|((try dsimp only);rw[hw6])|((try dsimp only);rw[hh]))
   all_goals(try(conv=>whnf))
   refine Round.by (i+1) ?_ hi4 (by omega)
   rw[Ae hi4 (by simp only[maxLen];omega),hby]
   show norm _ _=upd _ _
   kernel_rfl
  have hlt2:¬decide ((i:Int)<4)=true:=by simp;omega
  have hi4:i=4:=by omega
  subst hi4
  have e1:((u32L (sched M (64*n) t)).length+1)*4≤140737488355328:=by simp only[List.length_map,B7];omega
  have e2:(u32L (sched M (64*n) t)).length+1≤maxLen:=by simp only[List.length_map,B7,maxLen];omega
  repeat'((conv=>whnf);first|(apply aI<;>intro hb<;>first|exact absurd hb (by assumption)|((try rw[hb]);(try simp only[Aa]at hb)))|(refine eI ?_ ?_;focus (and_intros<;>first|omega|exact rfl|assumption|exact A0 (by rfl)|(simp;done))))
  all_goals(try(conv=>whnf))
  refine Round.by (t+1) ?_ ht16 (by omega)
  have hs1:u32L (sched M (64*n) (t+1))=u32L (sched M (64*n) t)++(List.replicate 1 (I.int .u32 0)).set 0 (.int .u32 (Hh M (64*n+4*t) 4)):=by
   rw[sched,if_pos ht16,u32L,List.map_append]
   rfl
  rw[Ae ht16 (by simp only[maxLen];omega),hs1]
  show norm _ _=upd _ _
  kernel_rfl
 have ht':t=16:=by omega
 subst ht'
 repeat'((conv=>whnf);(apply aI<;>intro hb<;>first|exact absurd hb (by decide)|((try rw[hb]);(try simp only[Aa]at hb))))
 all_goals(try(conv=>whnf))
 refine LoopWq.by (X:=Nat) (fun t=>[(7,.vec 141 1 (u32L (sched M (64*n) t))),(11,.v (.int .i64 t))]) (fun t=>16≤t∧t≤64) (fun t=>64 - t)
  16 (by kernel_rfl) (by omega) ?_
 rintro t ⟨ht1,ht2⟩
 by_cases ht64:t<64
 case pos=>
  have hlt1:¬decide ((t:Int)<64)=false:=by simp;omega
  have hs1:u32L (sched M (64*n) (t+1))=u32L (sched M (64*n) t)++(List.replicate 1 (I.int .u32 0)).set 0 (.int .u32 (extI (sched M (64*n) t) t)):=by
   rw[sched,if_neg (by omega),u32L,List.map_append]
   rfl
  have hsl:=B7 M (64*n) t
  obtain⟨w,hw⟩:∃w,w=sched M (64*n) t:=⟨_,rfl⟩
  rw[←hw]at hsl hs1 ⊢
  have g:∀j,j<t→w[j]?=some (Cs w j):=fun j hj=>by
   rw[Cs,List.getD_eq_getElem?_getD,List.getElem?_eq_getElem (by omega)];rfl
  have hwr:∀j:Nat,j≤t→IntKind.i64.wrap ((t:Int) - (j:Int))=((t - j:Nat):Int):=fun j hj=>by
   rw[show(t:Int) - (j:Int)=((t - j:Nat):Int)by omega];exact A5 (by omega)
  have w2:IntKind.i64.wrap ((t:Int) - 2)=((t - 2:Nat):Int):=hwr 2 (by omega)
  have w7:IntKind.i64.wrap ((t:Int) - 7)=((t - 7:Nat):Int):=hwr 7 (by omega)
  have w15:IntKind.i64.wrap ((t:Int) - 15)=((t - 15:Nat):Int):=hwr 15 (by omega)
  have w16:IntKind.i64.wrap ((t:Int) - 16)=((t - 16:Nat):Int):=hwr 16 (by omega)
  have h2:=Jy (e:=141) (sz:=1) (Hm (g (t - 2) (by omega)))
  have h7:=Jy (e:=141) (sz:=1) (Hm (g (t - 7) (by omega)))
  have h15:=Jy (e:=141) (sz:=1) (Hm (g (t - 15) (by omega)))
  have h16:=Jy (e:=141) (sz:=1) (Hm (g (t - 16) (by omega)))
  have b2:Int.toNat ((t - 2:Nat):Int)<(u32L w).length:=by simp;omega
  have b7:Int.toNat ((t - 7:Nat):Int)<(u32L w).length:=by simp;omega
  have b15:Int.toNat ((t - 15:Nat):Int)<(u32L w).length:=by simp;omega
  have b16:Int.toNat ((t - 16:Nat):Int)<(u32L w).length:=by simp;omega
  have e1:((u32L w).length+1)*4≤140737488355328:=by simp only[List.length_map];omega
  have e2:(u32L w).length+1≤maxLen:=by simp only[List.length_map,maxLen];omega
  repeat'((conv=>whnf);first|(apply aI<;>intro hb<;>first|exact absurd hb (by assumption)|((try rw[hb]);(try simp only[Aa]at hb)))|(refine eI ?_ ?_;focus (and_intros<;>first|omega|exact rfl|assumption|(intro _ hh;cases hh;done)|exact A0 (by rfl)|(simp;done)|decide))|((with_reducible apply Drawn.by0);(focus kernel_rfl);intro hfact;(try simp only[dRS]at hfact))|((try dsimp only);rw[w2])|((try dsimp only);rw[w7])|((try dsimp only);rw[w15])|((try dsimp only);rw[w16])|((try dsimp only);rw[h2])|((try dsimp only);rw[h7])|((try dsimp only);rw[h15])|((try dsimp only);rw[h16])|(refine CallIs.mk ⟨_,_,Vs _ _ (by decide),?_⟩))
  all_goals(try(conv=>whnf))
  refine Round.by (t+1) ?_ ⟨by omega,ht64⟩ (by omega)
  rw[Ae ht64 (by simp only[maxLen];omega),hs1]
  show norm _ _=upd _ _
  kernel_rfl
 have ht':t=64:=by omega
 subst ht'
 have hsl:=B7 M (64*n) 64
 unfold H4 at hnext
 obtain⟨w,hw⟩:∃w,w=sched M (64*n) 64:=⟨_,rfl⟩
 rw[←hw]at hsl hnext ⊢
 repeat'((conv=>whnf);first|(apply aI<;>intro hb<;>first|exact absurd hb (by decide)|((try rw[hb]);(try simp only[Aa]at hb)))|(refine eI ?_ ?_;focus (and_intros<;>first|omega|exact rfl|(simp only[Ag];omega)|(simp;done)))|((with_reducible apply Drawn.by0);(focus kernel_rfl);intro hfact;(try simp only[dRS]at hfact)))
 all_goals(try(conv=>whnf))
 refine LoopWq.by (X:=Nat) (fun t=>[(14,.v (.int .u32 (rnds w H t).a)),(15,.v (.int .u32 (rnds w H t).b)),(16,.v (.int .u32 (rnds w H t).c)),(17,.v (.int .u32 (rnds w H t).d)),(18,.v (.int .u32 (rnds w H t).e)),(19,.v (.int .u32 (rnds w H t).f)),(20,.v (.int .u32 (rnds w H t).g)),(21,.v (.int .u32 (rnds w H t).i)),(22,.v (.int .i64 t))]) (fun t=>t≤64) (fun t=>64 - t)
  0 (by kernel_rfl) (by omega) ?_
 intro t ht
 by_cases ht64:t<64
 case pos=>
  have hlt1:¬decide ((t:Int)<64)=false:=by simp;omega
  have hgk:kays[t]?=some (Cs kays t):=by
   rw[Cs,List.getD_eq_getElem?_getD,List.getElem?_eq_getElem (show t<kays.length from ht64)];rfl
  have hgw:w[t]?=some (Cs w t):=by
   rw[Cs,List.getD_eq_getElem?_getD,List.getElem?_eq_getElem (by omega)];rfl
  have hk:=Jy (e:=141) (sz:=1) (Hm hgk)
  have hh:=Jy (e:=141) (sz:=1) (Hm hgw)
  have bk:Int.toNat (t:Int)<(u32L kays).length:=by rw[Int.toNat_natCast,List.length_map];exact ht64
  have bk2:(t:Int)<((u32L kays).length:Int):=by rw[List.length_map];exact_mod_cast ht64
  have bw:Int.toNat (t:Int)<(u32L w).length:=by simp;omega
  have bw2:(t:Int)<((u32L w).length:Int):=by simp;omega
  have hr:rnds w H (t+1)=rnd (rnds w H t) (Cs kays t) (Cs w t):=rfl
  obtain⟨R,hR⟩:∃R,R=rnds w H t:=⟨_,rfl⟩
  rw[←hR]at hr ⊢
  obtain⟨kt,hkt⟩:∃k,k=Cs kays t:=⟨_,rfl⟩
  rw[←hkt]at hr hk
  obtain⟨wt,hwt⟩:∃k,k=Cs w t:=⟨_,rfl⟩
  rw[←hwt]at hr hh
  repeat'((conv=>whnf);first|(apply aI<;>intro hb<;>first|exact absurd hb (by assumption)|((try rw[hb]);(try simp only[Aa]at hb)))|(refine eI ?_ ?_;focus (and_intros<;>first|omega|exact rfl|(intro _ hh;cases hh;done)|(simp;done)|decide))|((with_reducible apply Drawn.by0);(focus kernel_rfl);intro hfact;(try simp only[dRS]at hfact))|((try dsimp only);rw[hk])|((try dsimp only);rw[hh])|(refine CallIs.mk ⟨_,_,Vs _ _ (by decide),?_⟩)|(refine CallWp.mk ⟨_,Vs _ _ (by decide),?_⟩;rintro _ _ ⟨rfl,rfl⟩))
  all_goals(try(conv=>whnf))
  refine Round.by (t+1) ?_ ht64 (by omega)
  rw[Ae ht64 (by simp only[maxLen];omega),hr]
  show norm _ _=upd _ _
  kernel_rfl
 have ht':t=64:=by omega
 subst ht'
 obtain⟨R,hR⟩:∃R,R=rnds w H 64:=⟨_,rfl⟩
 rw[←hR]at hnext ⊢
 repeat'((conv=>whnf);first|(apply aI<;>intro hb<;>first|exact absurd hb (by decide)|((try rw[hb]);(try simp only[Aa]at hb)))|(refine eI ?_ ?_;focus (and_intros<;>first|omega|exact rfl|exact A0 (by rfl)|(simp only[Ag];omega)|(simp;done)))|((with_reducible apply Drawn.by0);(focus kernel_rfl);intro hfact;(try simp only[dRS]at hfact)))
 all_goals(try(conv=>whnf))
 refine Round.by (n+1) ?_ hnN (by omega)
 rw[hw64,hnext]
 show norm _ _=upd _ _
 kernel_rfl
end Go.Ab
