/- Lemmas -/
import Derived.Shelf.SlIter.Nil
import Derived.Shelf.SortM.Plain
import Derived.Shelf.SortM.SortNone
import Derived.Test.YtkpojedpcabojaaDoorV4
set_option linter.unusedVariables false
set_option linter.unusedSimpArgs false
namespace Go.Ab
open Go.RowKit Go.Maps Go.Sort Go.Shelf Go.Proofs
section
variable{P:Program}{ρ κ:Ren}
theorem KeysC.of (L:SlLaysZ.n7 P κ):KeysC P (κ.f 7) (κ.f 10) (κ.t 23):=fun mb W=>callsIn_wide.1 (AnyZ.keys_in L Fence.wide 5 trivial rfl mb W)
abbrev rAny:Value→Option (DataW Unit × List MemPlace):=fun _=>some (.nil,[])
theorem Aft {k:TypeId} (hk:P.underlying k=some .string) {x:MapEntry} {s:List UInt8} (hx:x.key=Value.string ⟨⟨s⟩⟩) (hs:s.length≤maxLen):WideElems.rd P k rAny x=some (.string s,.nil):=by
 unfold WideElems.rd
 rw[hx]
 have:keyOf P k (Value.string ⟨⟨s⟩⟩)=some (.string s):=by
  have hsz:(⟨⟨s⟩⟩:ByteArray).size=s.length:=rfl
  simp[keyOf,hk,mapKey,hsz,hs]
 rw[this]
 rfl
theorem Yg {k:TypeId} (hk:P.underlying k=some .string):∀(l:List MapEntry) (ss:List (List UInt8)),l.map (·.key)=ss.map (fun s=>Value.string ⟨⟨s⟩⟩)→(∀s∈ss,s.length≤maxLen)→
 (l.map (WideElems.rg P k rAny)).map (fun p=>strOf p.1)=ss∧∀x∈l,∃y,WideElems.rd P k rAny x=some y
 | [],[],_,_=>⟨rfl,by simp⟩
 | [],_::_,h,_=>by cases h
 |_::_,[],h,_=>by cases h
 |x::l,s::ss,h,hs=>by
  simp only[List.map_cons,List.cons.injEq]at h
  obtain⟨h1,h2⟩:=h
  obtain⟨h3,h4⟩:=Yg hk l ss h2 fun y hy=>hs y (by simp[hy])
  have h5:=Aft hk h1 (hs s (by simp))
  refine⟨by simp only[List.map_cons,h3,WideElems.rg_of h5];rfl,fun y hy=>?_⟩
  rcases List.mem_cons.1 hy with rfl|hy
  ·exact⟨_,h5⟩
  ·exact h4 y hy
theorem SortedC.of (L:SlLaysZ.n6 P ρ) (K:SlLaysZ.n7 P κ) (hs:∀m,AnyZ.SortsIn P ρ Fence.wide m) (e9:∀args w,(callFunc (ρ.f 9) args).run P w= .ok (.enter (ρ.f 9) args) w)
 (eg:∀args w,(callFunc (κ.f 10) args).run P w= .ok (.enter (κ.f 10) args) w):SortedC P (ρ.f 6) (κ.f 10) (ρ.t 26):=by
 intro g b es clock ss W hc hb hk hnd hborn hclk hlen hstr hg
 obtain⟨h3,h4⟩:=Yg K.t26 es.toList ss hk hstr
 have hl:es.size=ss.length:=by
  have:=congrArg List.length hk
  simpa using this
 have hinj:(ss.map (fun s=>Value.string ⟨⟨s⟩⟩)).Nodup:=by
  refine List.pairwise_map.2 (hnd.imp fun {a b} hne e=>hne ?_)
  simpa using e
 have hown:W.ownsMap P (κ.t 26) rAny b ss.length (.map ((es.toList.map (WideElems.rg P (κ.t 26) rAny)).foldr DataW.insert [])):=
  ⟨es,clock,hb,⟨by rw[hl];simp only[maxLen];omega,⟨hclk,hborn.imp (fun h=>by omega),by rw[hk];exact hinj⟩,h4⟩,by omega,rfl⟩
 have hperm:(strKeys (.map ((es.toList.map (WideElems.rg P (κ.t 26) rAny)).foldr DataW.insert [])):List (List UInt8)).Perm ss:=by
  have:=(WideShapes.sorted_perm (es.toList.map (WideElems.rg P (κ.t 26) rAny))).map (fun p=>strOf p.1)
  rw[h3]at this
  exact this
 have hsz:Maps.size (.map ((es.toList.map (WideElems.rg P (κ.t 26) rAny)).foldr DataW.insert []):DataW Unit)=ss.length:=by
  have h5:=hperm.length_eq
  simp only[strKeys,List.length_map]at h5
  exact h5
 have hseq:SeqGives Fence.wide 2 P (κ.f 10) #[.pointer (some ⟨g,0,none⟩)] encStr (fun ss'=>ss'.Perm (strKeys (.map ((es.toList.map (WideElems.rg P (κ.t 26) rAny)).foldr DataW.insert [])))) _ W:=
  AnyZ.keys_gives (ρ:=κ) {K with} Fence.wide _ trivial rfl (by omega) g b ss.length _ W hg hc hown
 rw[hsz]at hseq
 refine(callsIn_wide.1 (AnyZ.sorted_in L Fence.wide 5 trivial trivial trivial trivial rfl (by omega) (hs _) e9 (κ.f 10) #[.pointer (some ⟨g,0,none⟩)] trivial eg _ ss.length (by simp only[maxLen];omega) (by omega) W hseq)).mono ?_
 rintro e w' ⟨v,ss',rfl,hS,hrow,hnil,hbel⟩
 have hp:=hS.trans hperm
 refine⟨v,rfl,?_,hbel⟩
 have e1:ss'.mergeSort (fun x y=>decide (x≤y))=Dc ss:=mergeSort_of_perm hp
 rw[hp.length_eq]at hrow
 rw[e1]at hrow
 exact hrow
end
set_option maxRecDepth 100000
set_option maxHeartbeats 40000000

open Go.Proofs
abbrev ksF (F:List Chg):List I:=F.map fun c=>I.str c.key
abbrev vsF (F:List Chg):List D:=F.map fun c=>D.it c.toI
theorem Xf {F:List Chg} {c:Chg} (h:F.findIdx? (fun x=>decide (x.key=c.key))=none):Db c.key (ksF F) 0=some none∧ksF (Bm F c)=ksF F++[.str c.key]∧vsF (Bm F c)=vsF F++[.it c.toI]:=by
 refine⟨by rw[E5 (fun c:Chg=>c.key),h];rfl,?_,?_⟩<;>simp[Bm,h]
theorem Xg {F:List Chg} {c:Chg} {q:Nat} (h:F.findIdx? (fun x=>decide (x.key=c.key))=some q):Db c.key (ksF F) 0=some (some q)∧ksF (Bm F c)=ksF F∧vsF (Bm F c)=(vsF F).set q (.it c.toI):=by
 refine⟨by rw[E5 (fun c:Chg=>c.key),h];rfl,?_,?_⟩
 ·obtain⟨hi,h1,h2⟩:=List.findIdx?_eq_some_iff_getElem.1 h
  simp only[Bm,h,ksF]
  rw[List.map_set]
  have:I.str c.key=(F.map fun c=>I.str c.key)[q]'(by simpa using hi):=by simp only[List.getElem_map];exact congrArg I.str (show F[q].key=c.key by simpa using h1).symm
  rw[this,List.set_getElem_self]
 ·simp only[Bm,h,vsF]
  rw[List.map_set]
end Go.Ab
