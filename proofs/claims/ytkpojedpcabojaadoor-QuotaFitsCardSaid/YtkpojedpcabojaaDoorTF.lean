/- QuotaFits (P18.1): whether a tenant may have what it would have is what the document says, for every input. -/
import Derived.Test.YtkpojedpcabojaaDoorTFa
set_option linter.unusedVariables false
set_option linter.unusedSimpArgs false
namespace Go.Ab
open Go.Proofs Go.Proofs.YtkpojedpcabojaaDoor
open Go.ChangeShapes Go.WideShapes Go.ChangeAt Go.RowKit
set_option maxRecDepth 100000
theorem quotaFits_card:Rows.QuotaFitsCardSaid:=
 Claim7.holds_tied_plain_at .later [] [.data,.pinned] true (true, "11c2287b5b5f41d20ee8fc5d896b3b6524a46d0d802ae9d69857e8392ffe1a30") false Aih (fun _ h=>by cases h) (by kernel_rfl) (fun _ h=>by cases h) quotaFits_row_tie rfl ⟨rfl,rfl⟩ (by kernel_rfl) rfl
  (fun f fn hf hfn=>by
    obtain rfl:f=9:=Option.some.inj ((show Tryd.prog.funcNamed "exchequer/exchequerlaw18.QuotaFits" =some 9 by kernel_rfl).symm.trans hf) |>.symm
    obtain rfl:fn=Tryd.f9:=(Option.some.inj (Tryd.func9.symm.trans hfn)).symm
    exact⟨by kernel_rfl,fun j t ht=>by
     rw[Tryd.params9]at ht
     have hm:t∈[22,31,24]:=by simpa using Array.mem_of_getElem? ht
     have hall:([22,31,24].all fun u=> !Tryd.prog.wantsStandIn u)=true:=by kernel_rfl
     exact(show Tryd.prog.wantsStandIn t=false by simpa using List.all_eq_true.1 hall t hm)⟩)
  (by kernel_rfl)
end Go.Ab
namespace Go.Proofs.YtkpojedpcabojaaDoor
theorem quotaFits_holds:Rows.QuotaFitsCardSaid:=Go.Ab.quotaFits_card
end Go.Proofs.YtkpojedpcabojaaDoor
