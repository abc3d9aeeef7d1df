/- CarryGives returns true at every input. No condition. -/
import Derived.Test.YtfidemmgofcnmaaGreatDoorCvP
import Derived.Test.YtfidemmgofcnmaaGreatDoorTie
import Derived.Test.YtfidemmgofcnmaaGreatDoorCards
import Derived.SevenTiedAt
set_option linter.unusedVariables false
namespace Go.Proofs.YtfidemmgofcnmaaGreatDoor
open Go Go.Proofs.Tryz
namespace carryGives
theorem cardText:Rows.carryGivesRow.wfByText (OpenSpec.ofChange Rows.carryGivesSpec)=true:=by kernel_rfl
theorem cardMain:Tryz.pinned.checked.prog.mainIs=some (true, "18cab706b30b89665933d3db64f20996dd1fa144517ea12b4562cb4b0e22bd5b".toList):=by kernel_rfl
theorem cardNamed:Tryz.pinned.checked.prog.funcNamed "quartermaster/quartermasterlaw19.CarryGives" = some 9:=by kernel_rfl
theorem cardLooks:false=Tryz.pinned.checked.prog.looks []:=by kernel_rfl
theorem cardStand:([95,5,5].all fun u=>!Tryz.pinned.checked.prog.wantsStandIn u)=true:=by kernel_rfl
theorem cardGoes:false=Rows.carryGivesRow.goesBy Tryz.pinned.checked.prog:=by kernel_rfl
end carryGives
theorem carry_gives_card:Rows.CarryGivesCardSaid:=
 Claim7.holds_tied_plain_at .later [] [.data,.data,.data] true (true, "18cab706b30b89665933d3db64f20996dd1fa144517ea12b4562cb4b0e22bd5b") false
  carryGives.proved (fun _ h=>by cases h) carryGives.cardText (fun _ h=>by cases h) carryGives_row_tie rfl ⟨rfl,rfl⟩ carryGives.cardMain rfl
  (fun f fn hf La=>by
   obtain rfl:f=9:=J3Y (carryGives.cardNamed.symm.trans hf) |>.symm;obtain rfl:fn=f9:=(J3Y (func9.symm.trans La)).symm;exact⟨carryGives.cardLooks,fun j t ht=>by
    rw[params9] at ht;have hm:t∈[95,5,5]:=by simpa using J7z ht
    exact(show Tryz.pinned.checked.prog.wantsStandIn t=false by simpa using J6g.1 carryGives.cardStand t hm)⟩)
  carryGives.cardGoes
#print axioms carry_gives_card
end Go.Proofs.YtfidemmgofcnmaaGreatDoor
