/- TxnBlind (P14.2): another key, outside of all that is read and written, counts for nothing, for every input. -/
import Derived.Test.YtkpojedpcabojaaDoorTBa
set_option linter.unusedVariables false
set_option linter.unusedSimpArgs false
namespace Go.Ab
open Go.Proofs Go.Proofs.YtkpojedpcabojaaDoor
open Go.ChangeShapes Go.WideShapes Go.ChangeAt Go.RowKit
set_option maxRecDepth 100000
theorem A9s:Rows.TxnBlindCardSaid:=
 Claim7.holds_tied_plain_at .later [] [.data,.pinned] true (true, "11c2287b5b5f41d20ee8fc5d896b3b6524a46d0d802ae9d69857e8392ffe1a30") false A9t (fun _ h=>by cases h) (by kernel_rfl) (fun _ h=>by cases h) txnBlind_row_tie rfl ⟨rfl,rfl⟩ (by kernel_rfl) rfl
  (fun f fn hf hfn=>by
    obtain rfl:f=16:=Aag ((show Tryd.prog.funcNamed "exchequer/exchequerlaw14.TxnBlind" =some 16 by kernel_rfl).symm.trans hf) |>.symm
    obtain rfl:fn=Tryd.f16:=(Aag (Tryd.func16.symm.trans hfn)).symm
    exact⟨by kernel_rfl,fun j t ht=>by
     rw[Tryd.params16]at ht
     have hm:t∈[22,87,38]:=by simpa using Array.mem_of_getElem? ht
     have Anw:([22,87,38].all fun u=> !Tryd.prog.wantsStandIn u)=true:=by kernel_rfl
     exact(show Tryd.prog.wantsStandIn t=false by simpa using Aia.1 Anw t hm)⟩)
  (by kernel_rfl)
end Go.Ab
namespace Go.Proofs.YtkpojedpcabojaaDoor
theorem txnBlind_holds:Rows.TxnBlindCardSaid:=Go.Ab.A9s
end Go.Proofs.YtkpojedpcabojaaDoor
