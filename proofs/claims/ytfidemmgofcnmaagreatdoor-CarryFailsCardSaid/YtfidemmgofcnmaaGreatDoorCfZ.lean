/- CarryFails returns true at every input. No condition. -/
import Derived.Test.YtfidemmgofcnmaaGreatDoorCfP
import Derived.Test.YtfidemmgofcnmaaGreatDoorTie
import Derived.Test.YtfidemmgofcnmaaGreatDoorCards
import Derived.SevenTiedAt
set_option linter.unusedVariables false
namespace Go.Proofs.YtfidemmgofcnmaaGreatDoor
open Go Go.Proofs.Tryz
namespace carryFails
theorem cardText:Rows.carryFailsRow.wfByText (OpenSpec.ofChange Rows.carryFailsSpec)=true:=by kernel_rfl
theorem cardMain:Tryz.pinned.checked.prog.mainIs=some (true, "18cab706b30b89665933d3db64f20996dd1fa144517ea12b4562cb4b0e22bd5b".toList):=by kernel_rfl
theorem cardNamed:Tryz.pinned.checked.prog.funcNamed "quartermaster/quartermasterlaw19.CarryFails" = some 10:=by kernel_rfl
theorem cardLooks:false=Tryz.pinned.checked.prog.looks []:=by kernel_rfl
theorem cardStand:([95,102].all fun u=>!Tryz.pinned.checked.prog.wantsStandIn u)=true:=by kernel_rfl
theorem cardGoes:false=Rows.carryFailsRow.goesBy Tryz.pinned.checked.prog:=by kernel_rfl
end carryFails
theorem carry_fails_card:Rows.CarryFailsCardSaid:=
 Claim7.holds_tied_plain_at .later [] [.data,.data,.data] true (true, "18cab706b30b89665933d3db64f20996dd1fa144517ea12b4562cb4b0e22bd5b") false
  carryFails.proved (fun _ h=>by cases h) carryFails.cardText (fun _ h=>by cases h) carryFails_row_tie rfl ⟨rfl,rfl⟩ carryFails.cardMain rfl
  (fun f fn hf La=>by
   obtain rfl:f=10:=J3Y (carryFails.cardNamed.symm.trans hf) |>.symm;obtain rfl:fn=f10:=(J3Y (func10.symm.trans La)).symm;exact⟨carryFails.cardLooks,fun j t ht=>by
    rw[params10] at ht;have hm:t∈[95,102]:=by simpa using J7z ht
    exact(show Tryz.pinned.checked.prog.wantsStandIn t=false by simpa using J6g.1 carryFails.cardStand t hm)⟩)
  carryFails.cardGoes
#print axioms carry_fails_card
end Go.Proofs.YtfidemmgofcnmaaGreatDoor
