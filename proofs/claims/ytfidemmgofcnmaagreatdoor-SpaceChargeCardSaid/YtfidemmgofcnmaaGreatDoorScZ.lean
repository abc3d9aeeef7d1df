/- SpaceCharge returns true at every input. No condition. -/
import Derived.Test.YtfidemmgofcnmaaGreatDoorSc32
import Derived.Test.YtfidemmgofcnmaaGreatDoorTie
import Derived.Test.YtfidemmgofcnmaaGreatDoorCards
import Derived.SevenTiedAt
set_option linter.unusedVariables false
namespace Go.Proofs.YtfidemmgofcnmaaGreatDoor
open Go Go.Proofs.Tryz
namespace spaceCharge
theorem cardText:Rows.spaceChargeRow.wfByText (OpenSpec.ofChange Rows.spaceChargeSpec)=true:=by kernel_rfl
theorem cardMain:Tryz.pinned.checked.prog.mainIs=some (true, "18cab706b30b89665933d3db64f20996dd1fa144517ea12b4562cb4b0e22bd5b".toList):=by kernel_rfl
theorem cardNamed:Tryz.pinned.checked.prog.funcNamed "quartermaster/quartermasterlaw17.SpaceCharge" = some 4:=by kernel_rfl
theorem cardLooks:false=Tryz.pinned.checked.prog.looks []:=by kernel_rfl
theorem cardStand:([22,44].all fun u=>!Tryz.pinned.checked.prog.wantsStandIn u)=true:=by kernel_rfl
theorem cardGoes:false=Rows.spaceChargeRow.goesBy Tryz.pinned.checked.prog:=by kernel_rfl
end spaceCharge
theorem space_charge_card:Rows.SpaceChargeCardSaid:=
 Claim7.holds_tied_plain_at .later [] [.data,.data,.data] true (true, "18cab706b30b89665933d3db64f20996dd1fa144517ea12b4562cb4b0e22bd5b") false
  spaceCharge.proved (fun _ h=>by cases h) spaceCharge.cardText (fun _ h=>by cases h) spaceCharge_row_tie rfl ⟨rfl,rfl⟩ spaceCharge.cardMain rfl
  (fun f fn hf Fh=>by
   obtain rfl:f=4:=J3x (spaceCharge.cardNamed.symm.trans hf) |>.symm;obtain rfl:fn=f4:=(J3x (func4.symm.trans Fh)).symm;exact⟨spaceCharge.cardLooks,fun j t ht=>by
    rw [params4] at ht;have hm:t∈[22,44]:=by simpa using Array.mem_of_getElem? ht
    exact (show Tryz.pinned.checked.prog.wantsStandIn t=false by simpa using J5F.1 spaceCharge.cardStand t hm)⟩)
  spaceCharge.cardGoes
#print axioms space_charge_card
end Go.Proofs.YtfidemmgofcnmaaGreatDoor
