/- TxnRuns: any transaction over any contents comes to what the document says. -/
import Derived.Test.YtkpojedpcabojaaGreatDoorTYa
set_option linter.unusedVariables false
set_option linter.unusedSimpArgs false
namespace Go.Ab
open Go.Proofs Go.Proofs.YtkpojedpcabojaaGreatDoor
open Go.ChangeShapes Go.WideShapes Go.ChangeAt Go.RowKit
set_option maxRecDepth 100000
theorem txnRuns_card:Rows.TxnRunsCardSaid:=
 Claim7.holds_tied_plain_at .later [] [.data,.pinned] true (true, "aa5dfec3824ff16e6d3c45abc65a85139bf82a98d998ac79ecd26a42d983ece7") false Bf4 (fun _ h=>by cases h) (by kernel_rfl) (fun _ h=>by cases h) txnRuns_row_tie rfl ⟨rfl,rfl⟩ (by kernel_rfl) rfl
  (fun f fn hf hfn=>by
    obtain rfl:f=3:=Aag ((show Tryz.prog.funcNamed "exchequer/exchequerlaw14.TxnRuns" =some 3 by kernel_rfl).symm.trans hf) |>.symm
    obtain rfl:fn=Tryz.f3:=(Aag (Tryz.func3.symm.trans hfn)).symm
    exact⟨by kernel_rfl,fun j t ht=>by
     rw[Tryz.params3]at ht
     have hm:t∈[22,3,26]:=by simpa using Array.mem_of_getElem? ht
     have Anw:([22,3,26].all fun u=> !Tryz.prog.wantsStandIn u)=true:=by kernel_rfl
     exact(show Tryz.prog.wantsStandIn t=false by simpa using Aia.1 Anw t hm)⟩)
  (by kernel_rfl)
end Go.Ab
namespace Go.Proofs.YtkpojedpcabojaaGreatDoor
theorem txnRuns_holds:Rows.TxnRunsCardSaid:=Go.Ab.txnRuns_card
end Go.Proofs.YtkpojedpcabojaaGreatDoor
