/- TxnRights (P14.1): any transaction is right just if the document says so, and reads and writes the spans that it says, for every input. -/
import Derived.Test.YtkpojedpcabojaaDoorTRa
set_option linter.unusedVariables false
set_option linter.unusedSimpArgs false
namespace Go.Ab
open Go.Proofs Go.Proofs.YtkpojedpcabojaaDoor
open Go.ChangeShapes Go.WideShapes Go.ChangeAt Go.RowKit
set_option maxRecDepth 100000
theorem txnRights_card:Rows.TxnRightsCardSaid:=
 Claim7.holds_tied_plain_at .later [] [.data,.pinned] true (true, "11c2287b5b5f41d20ee8fc5d896b3b6524a46d0d802ae9d69857e8392ffe1a30") false Ano (fun _ h=>by cases h) (by kernel_rfl) (fun _ h=>by cases h) txnRights_row_tie rfl ⟨rfl,rfl⟩ (by kernel_rfl) rfl
  (fun f fn hf hfn=>by
    obtain rfl:f=13:=Option.some.inj ((show Tryd.prog.funcNamed "exchequer/exchequerlaw14.TxnRights" =some 13 by kernel_rfl).symm.trans hf) |>.symm
    obtain rfl:fn=Tryd.f13:=(Option.some.inj (Tryd.func13.symm.trans hfn)).symm
    exact⟨by kernel_rfl,fun j t ht=>by
     rw[Tryd.params13]at ht
     have hm:t∈[87]:=by simpa using Array.mem_of_getElem? ht
     have hall:([87].all fun u=> !Tryd.prog.wantsStandIn u)=true:=by kernel_rfl
     exact(show Tryd.prog.wantsStandIn t=false by simpa using List.all_eq_true.1 hall t hm)⟩)
  (by kernel_rfl)
end Go.Ab
namespace Go.Proofs.YtkpojedpcabojaaDoor
theorem txnRights_holds:Rows.TxnRightsCardSaid:=Go.Ab.txnRights_card
end Go.Proofs.YtkpojedpcabojaaDoor
