/- Proved: StoreCounts (exchequerlaw13): keys and bytes are just those of the pairs that a range over all tells, page by page. No further conditions. -/
import Derived.Test.YtkpojedpcabojaaDoorTCa
set_option linter.unusedVariables false
set_option linter.unusedSimpArgs false
namespace Go.Ab
open Go.Proofs Go.Proofs.YtkpojedpcabojaaDoor
open Go.ChangeShapes Go.WideShapes Go.ChangeAt Go.RowKit
set_option maxRecDepth 100000
theorem storeCounts_card:Rows.StoreCountsCardSaid:=
 Claim7.holds_tied_plain_at .later [] [.data,.pinned] true (true, "11c2287b5b5f41d20ee8fc5d896b3b6524a46d0d802ae9d69857e8392ffe1a30") false Aik (fun _ h=>by cases h) (by kernel_rfl) (fun _ h=>by cases h) storeCounts_row_tie rfl ⟨rfl,rfl⟩ (by kernel_rfl) rfl
  (fun f fn hf hfn=>by
    obtain rfl:f=7:=Option.some.inj ((show Tryd.prog.funcNamed "exchequer/exchequerlaw13.StoreCounts" =some 7 by kernel_rfl).symm.trans hf) |>.symm
    obtain rfl:fn=Tryd.f7:=(Option.some.inj (Tryd.func7.symm.trans hfn)).symm
    exact⟨by kernel_rfl,fun j t ht=>by
     rw[Tryd.params7]at ht
     have hm:t∈[52,5]:=by simpa using Array.mem_of_getElem? ht
     have hall:([52,5].all fun u=> !Tryd.prog.wantsStandIn u)=true:=by kernel_rfl
     exact(show Tryd.prog.wantsStandIn t=false by simpa using List.all_eq_true.1 hall t hm)⟩)
  (by kernel_rfl)
end Go.Ab
namespace Go.Proofs.YtkpojedpcabojaaDoor
theorem storeCounts_holds:Rows.StoreCountsCardSaid:=Go.Ab.storeCounts_card
end Go.Proofs.YtkpojedpcabojaaDoor
