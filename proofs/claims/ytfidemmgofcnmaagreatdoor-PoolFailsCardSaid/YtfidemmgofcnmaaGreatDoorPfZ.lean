/- PoolFails returns true at every input. No condition. -/
import Derived.Test.YtfidemmgofcnmaaGreatDoorPf12
import Derived.Test.YtfidemmgofcnmaaGreatDoorTie
import Derived.Test.YtfidemmgofcnmaaGreatDoorCards
import Derived.SevenTiedAt
set_option linter.unusedVariables false
namespace Go.Proofs.YtfidemmgofcnmaaGreatDoor
open Go Go.Proofs.Tryz
namespace poolFails
theorem cardText:Rows.poolFailsRow.wfByText (OpenSpec.ofChange Rows.poolFailsSpec)=true:=by kernel_rfl
theorem cardMain:Tryz.pinned.checked.prog.mainIs=some (true, "18cab706b30b89665933d3db64f20996dd1fa144517ea12b4562cb4b0e22bd5b".toList):=by kernel_rfl
theorem cardNamed:Tryz.pinned.checked.prog.funcNamed "quartermaster/quartermasterlaw06.PoolFails" = some 3:=by kernel_rfl
theorem cardLooks:false=Tryz.pinned.checked.prog.looks []:=by kernel_rfl
theorem cardStand:([22,23,3,3,3].all fun u=>!Tryz.pinned.checked.prog.wantsStandIn u)=true:=by kernel_rfl
theorem cardGoes:false=Rows.poolFailsRow.goesBy Tryz.pinned.checked.prog:=by kernel_rfl
end poolFails
theorem pool_fails_card:Rows.PoolFailsCardSaid:=
 Claim7.holds_tied_plain_at .later [] [.data,.data,.data] true (true, "18cab706b30b89665933d3db64f20996dd1fa144517ea12b4562cb4b0e22bd5b") false
  poolFails.proved (fun _ h=>by cases h) poolFails.cardText (fun _ h=>by cases h) poolFails_row_tie rfl ⟨rfl,rfl⟩ poolFails.cardMain rfl
  (fun f fn hf hfn=>by
   obtain rfl:f=3:=Z0C (poolFails.cardNamed.symm.trans hf) |>.symm;obtain rfl:fn=f3:=(Z0C (func3.symm.trans hfn)).symm;exact⟨poolFails.cardLooks,fun j t ht=>by
    rw[params3] at ht;have hm:t∈[22,23,3,3,3]:=by simpa using Array.mem_of_getElem? ht
    exact(show Tryz.pinned.checked.prog.wantsStandIn t=false by simpa using List.all_eq_true.1 poolFails.cardStand t hm)⟩)
  poolFails.cardGoes
#print axioms pool_fails_card
end Go.Proofs.YtfidemmgofcnmaaGreatDoor
