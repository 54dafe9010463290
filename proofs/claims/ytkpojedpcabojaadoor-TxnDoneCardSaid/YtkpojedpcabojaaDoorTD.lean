/- TxnDone (P14.1): behind what is to be written the keys that were put last are there with their values, and those that were deleted last are gone, for every input. -/
import Derived.Test.YtkpojedpcabojaaDoorTDa
set_option linter.unusedVariables false
set_option linter.unusedSimpArgs false
namespace Go.Ab
open Go.Proofs Go.Proofs.YtkpojedpcabojaaDoor
open Go.ChangeShapes Go.WideShapes Go.ChangeAt Go.RowKit
set_option maxRecDepth 100000
theorem txnDone_card:Rows.TxnDoneCardSaid:=
 Claim7.holds_tied_plain_at .later [] [.data,.pinned] true (true, "11c2287b5b5f41d20ee8fc5d896b3b6524a46d0d802ae9d69857e8392ffe1a30") false txnDone_over (fun _ h=>by cases h) (by kernel_rfl) (fun _ h=>by cases h) txnDone_row_tie rfl ⟨rfl,rfl⟩ (by kernel_rfl) rfl
  (fun f fn hf hfn=>by
    obtain rfl:f=14:=Aag ((show Tryd.prog.funcNamed "exchequer/exchequerlaw14.TxnDone" =some 14 by kernel_rfl).symm.trans hf) |>.symm
    obtain rfl:fn=Tryd.f14:=(Aag (Tryd.func14.symm.trans hfn)).symm
    exact⟨by kernel_rfl,fun j t ht=>by
     rw[Tryd.params14]at ht
     have hm:t∈[22,87]:=by simpa using Array.mem_of_getElem? ht
     have Anw:([22,87].all fun u=> !Tryd.prog.wantsStandIn u)=true:=by kernel_rfl
     exact(show Tryd.prog.wantsStandIn t=false by simpa using Aia.1 Anw t hm)⟩)
  (by kernel_rfl)
end Go.Ab
namespace Go.Proofs.YtkpojedpcabojaaDoor
theorem txnDone_holds:Rows.TxnDoneCardSaid:=Go.Ab.txnDone_card
end Go.Proofs.YtkpojedpcabojaaDoor
