/- StorePlays (P13.1): whatever is done with a store, in any order, is answered as the document says, and it holds and counts what the document says, up to 100 calls, for every input. -/
import Derived.Test.YtkpojedpcabojaaDoorTPa
set_option linter.unusedVariables false
set_option linter.unusedSimpArgs false
namespace Go.Ab
open Go.Proofs Go.Proofs.YtkpojedpcabojaaDoor
open Go.ChangeShapes Go.WideShapes Go.ChangeAt Go.RowKit
set_option maxRecDepth 100000
theorem storePlays_card:Rows.StorePlaysCardSaid:=
 Claim7.holds_tied_plain_at .later [] [.data,.pinned] true (true, "11c2287b5b5f41d20ee8fc5d896b3b6524a46d0d802ae9d69857e8392ffe1a30") false Aka (fun _ h=>by cases h) (by kernel_rfl) (fun _ h=>by cases h) storePlays_row_tie rfl ⟨rfl,rfl⟩ (by kernel_rfl) rfl
  (fun f fn hf hfn=>by
    obtain rfl:f=11:=Option.some.inj ((show Tryd.prog.funcNamed "exchequer/exchequerlaw13.StorePlays" =some 11 by kernel_rfl).symm.trans hf) |>.symm
    obtain rfl:fn=Tryd.f11:=(Option.some.inj (Tryd.func11.symm.trans hfn)).symm
    exact⟨by kernel_rfl,fun j t ht=>by
     rw[Tryd.params11]at ht
     have hm:t∈[52]:=by simpa using Array.mem_of_getElem? ht
     have hall:([52].all fun u=> !Tryd.prog.wantsStandIn u)=true:=by kernel_rfl
     exact(show Tryd.prog.wantsStandIn t=false by simpa using List.all_eq_true.1 hall t hm)⟩)
  (by kernel_rfl)
end Go.Ab
namespace Go.Proofs.YtkpojedpcabojaaDoor
theorem storePlays_holds:Rows.StorePlaysCardSaid:=Go.Ab.storePlays_card
end Go.Proofs.YtkpojedpcabojaaDoor
