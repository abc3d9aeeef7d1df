/- CarryTells returns true at every input. No condition. -/
import Derived.Test.YtfidemmgofcnmaaGreatDoorCtP
import Derived.Test.YtfidemmgofcnmaaGreatDoorTie
import Derived.Test.YtfidemmgofcnmaaGreatDoorCards
import Derived.SevenTiedAt
set_option linter.unusedVariables false
namespace Go.Proofs.YtfidemmgofcnmaaGreatDoor
open Go Go.Proofs.Tryz
namespace carryTells
theorem cardText:Rows.carryTellsRow.wfByText (OpenSpec.ofChange Rows.carryTellsSpec)=true:=by kernel_rfl
theorem cardMain:Tryz.pinned.checked.prog.mainIs=some (true, "18cab706b30b89665933d3db64f20996dd1fa144517ea12b4562cb4b0e22bd5b".toList):=by kernel_rfl
theorem cardNamed:Tryz.pinned.checked.prog.funcNamed "quartermaster/quartermasterlaw19.CarryTells" = some 8:=by kernel_rfl
theorem cardLooks:false=Tryz.pinned.checked.prog.looks []:=by kernel_rfl
theorem cardStand:([95,5,5,83].all fun u=>!Tryz.pinned.checked.prog.wantsStandIn u)=true:=by kernel_rfl
theorem cardGoes:false=Rows.carryTellsRow.goesBy Tryz.pinned.checked.prog:=by kernel_rfl
end carryTells
theorem carry_tells_card:Rows.CarryTellsCardSaid:=
 Claim7.holds_tied_plain_at .later [] [.data,.data,.data] true (true, "18cab706b30b89665933d3db64f20996dd1fa144517ea12b4562cb4b0e22bd5b") false
  carryTells.proved (fun _ h=>by cases h) carryTells.cardText (fun _ h=>by cases h) carryTells_row_tie rfl ⟨rfl,rfl⟩ carryTells.cardMain rfl
  (fun f fn hf Ko=>by
   obtain rfl:f=8:=J2u (carryTells.cardNamed.symm.trans hf) |>.symm;obtain rfl:fn=f8:=(J2u (func8.symm.trans Ko)).symm;exact⟨carryTells.cardLooks,fun j t ht=>by
    rw[params8] at ht;have hm:t∈[95,5,5,83]:=by simpa using J5Q ht
    exact(show Tryz.pinned.checked.prog.wantsStandIn t=false by simpa using J4C.1 carryTells.cardStand t hm)⟩)
  carryTells.cardGoes
#print axioms carry_tells_card
end Go.Proofs.YtfidemmgofcnmaaGreatDoor
