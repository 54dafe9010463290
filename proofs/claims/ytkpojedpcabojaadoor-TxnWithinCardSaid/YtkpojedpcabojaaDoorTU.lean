/- TxnWithin (P14.2): what is to be written lies in the spans that are written, and what is told in those that are read, for every input. -/
import Derived.Test.YtkpojedpcabojaaDoorTUa
set_option linter.unusedVariables false
set_option linter.unusedSimpArgs false
namespace Go.Ab
open Go.Proofs Go.Proofs.YtkpojedpcabojaaDoor
open Go.ChangeShapes Go.WideShapes Go.ChangeAt Go.RowKit
set_option maxRecDepth 100000
theorem txnWithin_card:Rows.TxnWithinCardSaid:=
 Claim7.holds_tied_plain_at .later [] [.data,.pinned] true (true, "11c2287b5b5f41d20ee8fc5d896b3b6524a46d0d802ae9d69857e8392ffe1a30") false txnWithin_over (fun _ h=>by cases h) (by kernel_rfl) (fun _ h=>by cases h) txnWithin_row_tie rfl ⟨rfl,rfl⟩ (by kernel_rfl) rfl
  (fun f fn hf hfn=>by
    obtain rfl:f=15:=Aag ((show Tryd.prog.funcNamed "exchequer/exchequerlaw14.TxnWithin" =some 15 by kernel_rfl).symm.trans hf) |>.symm
    obtain rfl:fn=Tryd.f15:=(Aag (Tryd.func15.symm.trans hfn)).symm
    exact⟨by kernel_rfl,fun j t ht=>by
     rw[Tryd.params15]at ht
     have hm:t∈[22,87]:=by simpa using Array.mem_of_getElem? ht
     have Anw:([22,87].all fun u=> !Tryd.prog.wantsStandIn u)=true:=by kernel_rfl
     exact(show Tryd.prog.wantsStandIn t=false by simpa using Aia.1 Anw t hm)⟩)
  (by kernel_rfl)
end Go.Ab
namespace Go.Proofs.YtkpojedpcabojaaDoor
theorem txnWithin_holds:Rows.TxnWithinCardSaid:=Go.Ab.txnWithin_card
end Go.Proofs.YtkpojedpcabojaaDoor
