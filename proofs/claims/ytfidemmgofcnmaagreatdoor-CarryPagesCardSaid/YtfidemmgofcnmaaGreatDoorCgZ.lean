/- CarryPages returns true at every input. No condition. -/
import Derived.Test.YtfidemmgofcnmaaGreatDoorCg28
import Derived.Test.YtfidemmgofcnmaaGreatDoorTie
import Derived.Test.YtfidemmgofcnmaaGreatDoorCards
import Derived.SevenTiedAt
set_option linter.unusedVariables false
namespace Go.Proofs.YtfidemmgofcnmaaGreatDoor
open Go Go.Proofs.Tryz
namespace carryPages
theorem cardText:Rows.carryPagesRow.wfByText (OpenSpec.ofChange Rows.carryPagesSpec)=true:=by kernel_rfl
theorem cardMain:Tryz.pinned.checked.prog.mainIs=some (true, "18cab706b30b89665933d3db64f20996dd1fa144517ea12b4562cb4b0e22bd5b".toList):=by kernel_rfl
theorem cardNamed:Tryz.pinned.checked.prog.funcNamed "quartermaster/quartermasterlaw19.CarryPages" = some 6:=by kernel_rfl
theorem cardLooks:false=Tryz.pinned.checked.prog.looks []:=by kernel_rfl
theorem cardStand:([82,5,5,83].all fun u=>!Tryz.pinned.checked.prog.wantsStandIn u)=true:=by kernel_rfl
theorem cardGoes:false=Rows.carryPagesRow.goesBy Tryz.pinned.checked.prog:=by kernel_rfl
end carryPages
theorem carry_pages_card:Rows.CarryPagesCardSaid:=
 Claim7.holds_tied_plain_at .later [] [.data,.data,.data] true (true, "18cab706b30b89665933d3db64f20996dd1fa144517ea12b4562cb4b0e22bd5b") false
  carryPages.proved (fun _ h=>by cases h) carryPages.cardText (fun _ h=>by cases h) carryPages_row_tie rfl ⟨rfl,rfl⟩ carryPages.cardMain rfl
  (fun f fn hf hfn=>by
   obtain rfl:f=6:=J0g (carryPages.cardNamed.symm.trans hf) |>.symm;obtain rfl:fn=f6:=(J0g (func6.symm.trans hfn)).symm;exact⟨carryPages.cardLooks,fun j t ht=>by
    rw[params6] at ht;have hm:t∈[82,5,5,83]:=by simpa using Array.mem_of_getElem? ht
    exact(show Tryz.pinned.checked.prog.wantsStandIn t=false by simpa using J2m.1 carryPages.cardStand t hm)⟩)
  carryPages.cardGoes
#print axioms carry_pages_card
end Go.Proofs.YtfidemmgofcnmaaGreatDoor
