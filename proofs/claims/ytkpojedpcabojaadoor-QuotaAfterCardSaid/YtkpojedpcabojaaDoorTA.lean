/- QuotaAfter (P18.1): what a space would have behind changes is what the document says, and what it has when they are written, for every input. -/
import Derived.Test.YtkpojedpcabojaaDoorTAa
set_option linter.unusedVariables false
set_option linter.unusedSimpArgs false
namespace Go.Ab
open Go.Proofs Go.Proofs.YtkpojedpcabojaaDoor
open Go.ChangeShapes Go.WideShapes Go.ChangeAt Go.RowKit
set_option maxRecDepth 100000
theorem quotaAfter_card:Rows.QuotaAfterCardSaid:=
 Claim7.holds_tied_plain_at .later [] [.data,.pinned] true (true, "11c2287b5b5f41d20ee8fc5d896b3b6524a46d0d802ae9d69857e8392ffe1a30") false Zh (fun _ h=>by cases h) (by kernel_rfl) (fun _ h=>by cases h) quotaAfter_row_tie rfl ⟨rfl,rfl⟩ (by kernel_rfl) rfl
  (fun f fn hf hfn=>by
    obtain rfl:f=5:=Option.some.inj ((show Tryd.prog.funcNamed "exchequer/exchequerlaw18.QuotaAfter" =some 5 by kernel_rfl).symm.trans hf) |>.symm
    obtain rfl:fn=Tryd.f5:=(Option.some.inj (Tryd.func5.symm.trans hfn)).symm
    exact⟨by kernel_rfl,fun j t ht=>by
     rw[Tryd.params5]at ht
     have hm:t∈[22,31]:=by simpa using Array.mem_of_getElem? ht
     have hall:([22,31].all fun u=> !Tryd.prog.wantsStandIn u)=true:=by kernel_rfl
     exact(show Tryd.prog.wantsStandIn t=false by simpa using List.all_eq_true.1 hall t hm)⟩)
  (by kernel_rfl)
end Go.Ab
namespace Go.Proofs.YtkpojedpcabojaaDoor
theorem quotaAfter_holds:Rows.QuotaAfterCardSaid:=Go.Ab.quotaAfter_card
end Go.Proofs.YtkpojedpcabojaaDoor
