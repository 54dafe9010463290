/- StoreMakes: any list is what a store holds just if the document says so. -/
import Derived.Test.YtkpojedpcabojaaGreatDoorTMa
set_option linter.unusedVariables false
set_option linter.unusedSimpArgs false
namespace Go.Ab
open Go.Proofs Go.Proofs.YtkpojedpcabojaaGreatDoor
open Go.ChangeShapes Go.WideShapes Go.ChangeAt Go.RowKit
set_option maxRecDepth 100000
theorem storeMakes_card:Rows.StoreMakesCardSaid:=
 Claim7.holds_tied_plain_at .later [] [.data,.pinned] true (true, "aa5dfec3824ff16e6d3c45abc65a85139bf82a98d998ac79ecd26a42d983ece7") false Avb (fun _ h=>by cases h) (by kernel_rfl) (fun _ h=>by cases h) storeMakes_row_tie rfl ⟨rfl,rfl⟩ (by kernel_rfl) rfl
  (fun f fn hf Mh=>by
    obtain rfl:f=4:=Cy ((show Tryz.prog.funcNamed "exchequer/exchequerlaw13.StoreMakes" =some 4 by kernel_rfl).symm.trans hf) |>.symm
    obtain rfl:fn=Tryz.f4:=(Cy (Tryz.func4.symm.trans Mh)).symm
    exact⟨by kernel_rfl,fun j t ht=>by
     rw[Tryz.params4]at ht
     have hm:t∈[44,49]:=by simpa using Array.mem_of_getElem? ht
     have Jd:([44,49].all fun u=> !Tryz.prog.wantsStandIn u)=true:=by kernel_rfl
     exact(show Tryz.prog.wantsStandIn t=false by simpa using Ew.1 Jd t hm)⟩)
  (by kernel_rfl)
end Go.Ab
namespace Go.Proofs.YtkpojedpcabojaaGreatDoor
theorem storeMakes_holds:Rows.StoreMakesCardSaid:=Go.Ab.storeMakes_card
end Go.Proofs.YtkpojedpcabojaaGreatDoor
