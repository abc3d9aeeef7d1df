/- CarryApart returns true at every input. No condition. -/
import Derived.Test.YtfidemmgofcnmaaGreatDoorCaP
import Derived.Test.YtfidemmgofcnmaaGreatDoorTie
import Derived.Test.YtfidemmgofcnmaaGreatDoorCards
import Derived.SevenTiedAt
set_option linter.unusedVariables false
namespace Go.Proofs.YtfidemmgofcnmaaGreatDoor
open Go Go.Proofs.Tryz
namespace carryApart
theorem cardText:Rows.carryApartRow.wfByText (OpenSpec.ofChange Rows.carryApartSpec)=true:=by kernel_rfl
theorem cardMain:Tryz.pinned.checked.prog.mainIs=some (true, "18cab706b30b89665933d3db64f20996dd1fa144517ea12b4562cb4b0e22bd5b".toList):=by kernel_rfl
theorem cardNamed:Tryz.pinned.checked.prog.funcNamed "quartermaster/quartermasterlaw19.CarryApart" = some 7:=by kernel_rfl
theorem cardLooks:false=Tryz.pinned.checked.prog.looks []:=by kernel_rfl
theorem cardStand:([95,82,3].all fun u=>!Tryz.pinned.checked.prog.wantsStandIn u)=true:=by kernel_rfl
theorem cardGoes:false=Rows.carryApartRow.goesBy Tryz.pinned.checked.prog:=by kernel_rfl
end carryApart
theorem carry_apart_card:Rows.CarryApartCardSaid:=
 Claim7.holds_tied_plain_at .later [] [.data,.data,.data] true (true, "18cab706b30b89665933d3db64f20996dd1fa144517ea12b4562cb4b0e22bd5b") false
  carryApart.proved (fun _ h=>by cases h) carryApart.cardText (fun _ h=>by cases h) carryApart_row_tie rfl ⟨rfl,rfl⟩ carryApart.cardMain rfl
  (fun f fn hf Ko=>by
   obtain rfl:f=7:=J2u (carryApart.cardNamed.symm.trans hf) |>.symm;obtain rfl:fn=f7:=(J2u (func7.symm.trans Ko)).symm;exact⟨carryApart.cardLooks,fun j t ht=>by
    rw[params7] at ht;have hm:t∈[95,82,3]:=by simpa using J5Q ht
    exact(show Tryz.pinned.checked.prog.wantsStandIn t=false by simpa using J4C.1 carryApart.cardStand t hm)⟩)
  carryApart.cardGoes
#print axioms carry_apart_card
end Go.Proofs.YtfidemmgofcnmaaGreatDoor
