/- What is done with one space of a store changes nothing of another one. Over the tables of the names' runes (listed, laid as the tie says); no other condition. -/
import Derived.Test.YtkpojedpcabojaaDoorTXa
set_option linter.unusedVariables false
set_option linter.unusedSimpArgs false
namespace Go.Ab
open Go.Proofs Go.Proofs.YtkpojedpcabojaaDoor
open Go.ChangeShapes Go.WideShapes Go.ChangeAt Go.RowKit
set_option maxRecDepth 100000
theorem storeApart_card:Rows.StoreApartCardSaid:=
 Claim7.holds_tied_plain_at .later [] [.data,.pinned] true (true, "11c2287b5b5f41d20ee8fc5d896b3b6524a46d0d802ae9d69857e8392ffe1a30") false Ek (fun _ h=>by cases h) (by kernel_rfl) (fun _ h=>by cases h) storeApart_row_tie rfl ⟨rfl,rfl⟩ (by kernel_rfl) rfl
  (fun f fn hf hfn=>by
    obtain rfl:f=10:=Option.some.inj ((show Tryd.prog.funcNamed "exchequer/exchequerlaw13.StoreApart" =some 10 by kernel_rfl).symm.trans hf) |>.symm
    obtain rfl:fn=Tryd.f10:=(Option.some.inj (Tryd.func10.symm.trans hfn)).symm
    exact⟨by kernel_rfl,fun j t ht=>by
     rw[Tryd.params10]at ht
     have hm:t∈[52,52]:=by simpa using Array.mem_of_getElem? ht
     have hall:([52,52].all fun u=> !Tryd.prog.wantsStandIn u)=true:=by kernel_rfl
     exact(show Tryd.prog.wantsStandIn t=false by simpa using List.all_eq_true.1 hall t hm)⟩)
  (by kernel_rfl)
end Go.Ab
namespace Go.Proofs.YtkpojedpcabojaaDoor
theorem storeApart_holds:Rows.StoreApartCardSaid:=Go.Ab.storeApart_card
end Go.Proofs.YtkpojedpcabojaaDoor
