/- SpaceFails returns true at every input. No condition. -/
import Derived.Test.YtfidemmgofcnmaaGreatDoorSf33
import Derived.Test.YtfidemmgofcnmaaGreatDoorTie
import Derived.Test.YtfidemmgofcnmaaGreatDoorCards
import Derived.SevenTiedAt
set_option linter.unusedVariables false
namespace Go.Proofs.YtfidemmgofcnmaaGreatDoor
open Go Go.Proofs.Tryz
namespace spaceFails
theorem cardText:Rows.spaceFailsRow.wfByText (OpenSpec.ofChange Rows.spaceFailsSpec)=true:=by kernel_rfl
theorem cardMain:Tryz.pinned.checked.prog.mainIs=some (true, "18cab706b30b89665933d3db64f20996dd1fa144517ea12b4562cb4b0e22bd5b".toList):=by kernel_rfl
theorem cardNamed:Tryz.pinned.checked.prog.funcNamed "quartermaster/quartermasterlaw17.SpaceFails" = some 5:=by kernel_rfl
theorem cardLooks:false=Tryz.pinned.checked.prog.looks []:=by kernel_rfl
theorem cardStand:([22,44,67].all fun u=>!Tryz.pinned.checked.prog.wantsStandIn u)=true:=by kernel_rfl
theorem cardGoes:false=Rows.spaceFailsRow.goesBy Tryz.pinned.checked.prog:=by kernel_rfl
end spaceFails
theorem space_fails_card:Rows.SpaceFailsCardSaid:=
 Claim7.holds_tied_plain_at .later [] [.data,.data,.data] true (true, "18cab706b30b89665933d3db64f20996dd1fa144517ea12b4562cb4b0e22bd5b") false
  spaceFails.proved (fun _ h=>by cases h) spaceFails.cardText (fun _ h=>by cases h) spaceFails_row_tie rfl ⟨rfl,rfl⟩ spaceFails.cardMain rfl
  (fun f fn hf Fn=>by
   obtain rfl:f=5:=J3Z (spaceFails.cardNamed.symm.trans hf) |>.symm;obtain rfl:fn=f5:=(J3Z (func5.symm.trans Fn)).symm;exact⟨spaceFails.cardLooks,fun j t ht=>by
    rw[params5] at ht;have hm:t∈[22,44,67]:=by simpa using Array.mem_of_getElem? ht
    exact(show Tryz.pinned.checked.prog.wantsStandIn t=false by simpa using J6h.1 spaceFails.cardStand t hm)⟩)
  spaceFails.cardGoes
#print axioms space_fails_card
end Go.Proofs.YtfidemmgofcnmaaGreatDoor
