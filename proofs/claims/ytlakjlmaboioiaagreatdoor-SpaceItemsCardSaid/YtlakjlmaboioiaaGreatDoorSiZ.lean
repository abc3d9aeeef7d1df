/- SpaceItems returns true at every input. No condition. -/
import Derived.Test.YtlakjlmaboioiaaGreatDoorSi01
import Derived.Test.YtlakjlmaboioiaaGreatDoorSi28
import Derived.Test.YtlakjlmaboioiaaGreatDoorTie
import Derived.Test.YtlakjlmaboioiaaGreatDoorCards
import Derived.SevenTiedAt
set_option linter.unusedVariables false
namespace Go.Proofs.YtlakjlmaboioiaaGreatDoor
open Go Go.Proofs.Tryz
namespace spaceItems
theorem cardText:Rows.spaceItemsRow.wfByText (OpenSpec.ofChange Rows.spaceItemsSpec)=true:=by kernel_rfl
theorem cardMain:Tryz.pinned.checked.prog.mainIs=some (true, "46c981935fdbb8f731de0b3e23d509c9324a65cb8423fa6168ae4048fd4c3ee3".toList):=by kernel_rfl
theorem cardNamed:Tryz.pinned.checked.prog.funcNamed "quartermaster/quartermasterlaw17.SpaceItems" = some 5:=by kernel_rfl
theorem cardLooks:false=Tryz.pinned.checked.prog.looks []:=by kernel_rfl
theorem cardStand:([52,54,56].all fun u=>!Tryz.pinned.checked.prog.wantsStandIn u)=true:=by kernel_rfl
theorem cardGoes:false=Rows.spaceItemsRow.goesBy Tryz.pinned.checked.prog:=by kernel_rfl
end spaceItems
theorem space_items_card:Rows.SpaceItemsCardSaid:=
 Claim7.holds_tied_plain_at .later [] [.data,.data,.data] true (true, "46c981935fdbb8f731de0b3e23d509c9324a65cb8423fa6168ae4048fd4c3ee3") false
  spaceItems.proved (fun _ h=>by cases h) spaceItems.cardText (fun _ h=>by cases h) spaceItems_row_tie rfl ⟨rfl,rfl⟩ spaceItems.cardMain rfl
  (fun f fn hf hfn=>by
   obtain rfl:f=5:=J1p (spaceItems.cardNamed.symm.trans hf) |>.symm;obtain rfl:fn=f5:=(J1p (func5.symm.trans hfn)).symm;exact⟨spaceItems.cardLooks,fun j t ht=>by
    rw [params5] at ht;have hm:t∈[52,54,56]:=by simpa using Array.mem_of_getElem? ht
    exact (show Tryz.pinned.checked.prog.wantsStandIn t=false by simpa using J3w.1 spaceItems.cardStand t hm)⟩)
  spaceItems.cardGoes
#print axioms space_items_card
end Go.Proofs.YtlakjlmaboioiaaGreatDoor
