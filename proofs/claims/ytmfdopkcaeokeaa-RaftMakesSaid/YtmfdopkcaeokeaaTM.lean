/- Proved: RaftMakes (exchequerlaw12): a node is made just if its numbers may be, and has nothing then. No further conditions. -/
import Derived.Test.YtmfdopkcaeokeaaAb24b
import Derived.Test.YtmfdopkcaeokeaaRows
import Derived.Test.YtmfdopkcaeokeaaChecked
import Derived.JoinedCond
import Derived.Lay
set_option linter.unusedVariables false
set_option linter.unusedSimpArgs false
namespace Go.Ab
open Go.Proofs Go.Proofs.Ytmfdopkcaeokeaa
open Go.ChangeShapes Go.WideShapes Go.ChangeAt Go.RowKit
set_option maxRecDepth 100000
theorem raftMakes_own:ownKnob Try.prog.godebug=none:=by kernel_rfl
theorem raftMakes_contract (H:Type) (enc:TypeId × Value→H) (W:World) (base:Nat) (args:Array Value) (ds gs:List (DataW H)) (before:List MemPlace)
 (hval:∀(j:Nat) t v,Try.f3.params[j]?=some t→args[j]?=some v→Value.okWide Try.prog W .any base t v)
 (hW:DataW.Whole enc Try.prog Try.f3.params.toList Rows.raftMakesSpec.vars false W args.toList ds gs before):
 Calls Try.prog 3 args W fun e W'=>∃v,e= .returned v∧Rows.raftMakesSpec.post enc Try.prog Try.f3 false true false false W args v W':=by
 have hW0:=hW
 obtain⟨p,q,hA,_⟩:=hW
 have ho:oksT Try.prog Try.f3.params.toList [.int .i64,.int .i64,.int .i64]=true:=by kernel_rfl
 obtain⟨xs,h1,h2,h3⟩:=Km ho hA fun j t v a b=>hval j t v (by simpa using a) (by simpa using b)
 obtain⟨x,_,rfl,⟨a,rfl,_⟩,y,_,rfl,⟨b,rfl,_⟩,z,_,rfl,⟨c,rfl,_⟩,rfl⟩:=h1
 refine(Abc h2 h3 (Ze a b c) trivial).mono ?_
 rintro e W' ⟨rfl,hk,hos,hout,_⟩
 refine⟨_,rfl,Abd (shs:=[.int .i64,.int .i64,.int .i64]) (tb:=4) rfl ?_ rfl Try.underlying4 ho hW0 hk hos hout⟩
 intro ds hds
 match ds,hds with
 | [d0,d1,d2],_=>rfl
theorem raftMakes_lifted (os:Os) (started:os.Started) (H:Type) (enc:TypeId × Value→H):
 ReturnsInHanded {} Try.checked os 3 .any (Rows.raftMakesSpec.pre6 enc Try.prog Try.f3 Rows.raftMakesRow.domain false) (Rows.raftMakesSpec.post enc Try.prog Try.f3 false true false false):=by
 refine returnsInHanded_of_change (C:=Try.checked) raftMakes_own started (by kernel_rfl) Try.func3
  (ChangeSpec.witness6 (enc:=enc) (C:=Try.checked) false ⟨#[], #[.int .i64 0,.int .i64 0,.int .i64 0],[]⟩ 8 (by kernel_rfl) (by kernel_rfl) (by kernel_rfl) (by kernel_rfl)) ?_
 intro W base args ds gs before hval0 hW hcnd _
 exact raftMakes_contract H enc W base args ds gs before hval0 hW
theorem raftMakes_over:Rows.raftMakesRow.holds Try.pinned (OpenSpec.ofChange Rows.raftMakesSpec):=
 OpenClaim.holds_of_wide 3 Try.f3 rfl rfl rfl rfl rfl rfl rfl ⟨rfl,rfl,rfl,rfl,rfl⟩ rfl rfl rfl rfl rfl (by kernel_rfl) Try.func3 (by kernel_rfl)
  (of_decide_eq_true (by kernel_rfl)) (by unfold Func.isWrapper;first|(rw[if_pos (by decide+kernel)];kernel_rfl)|(rw[if_neg (by decide+kernel)];exact⟨rfl,rfl⟩))
  (fun os started H enc _=>raftMakes_lifted os started H enc)
end Go.Ab
namespace Go.Proofs.Ytmfdopkcaeokeaa
theorem raftMakes_holds:Rows.RaftMakesSaid:=Go.Ab.raftMakes_over
end Go.Proofs.Ytmfdopkcaeokeaa
