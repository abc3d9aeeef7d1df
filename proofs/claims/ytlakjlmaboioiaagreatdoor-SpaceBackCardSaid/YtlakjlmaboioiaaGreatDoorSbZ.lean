/- SpaceBack returns true at every input. No condition. -/
import Derived.Test.YtlakjlmaboioiaaGreatDoorSb01
import Derived.Test.YtlakjlmaboioiaaGreatDoorSb31
import Derived.Test.YtlakjlmaboioiaaGreatDoorTie
import Derived.Test.YtlakjlmaboioiaaGreatDoorCards
import Derived.SevenTiedAt
set_option linter.unusedVariables false
namespace Go.Proofs.YtlakjlmaboioiaaGreatDoor
open Go Go.Proofs.Tryz
namespace spaceBack
theorem cardText:Rows.spaceBackRow.wfByText (OpenSpec.ofChange Rows.spaceBackSpec)=true:=by kernel_rfl
theorem cardMain:Tryz.pinned.checked.prog.mainIs=some (true, "46c981935fdbb8f731de0b3e23d509c9324a65cb8423fa6168ae4048fd4c3ee3".toList):=by kernel_rfl
theorem cardNamed:Tryz.pinned.checked.prog.funcNamed "quartermaster/quartermasterlaw17.SpaceBack" = some 11:=by kernel_rfl
theorem cardLooks:false=Tryz.pinned.checked.prog.looks []:=by kernel_rfl
theorem cardStand:([52,63].all fun u=>!Tryz.pinned.checked.prog.wantsStandIn u)=true:=by kernel_rfl
theorem cardGoes:false=Rows.spaceBackRow.goesBy Tryz.pinned.checked.prog:=by kernel_rfl
end spaceBack
theorem space_back_card:Rows.SpaceBackCardSaid:=
 Claim7.holds_tied_plain_at .later [] [.data,.data,.data] true (true, "46c981935fdbb8f731de0b3e23d509c9324a65cb8423fa6168ae4048fd4c3ee3") false
  spaceBack.proved (fun _ h=>by cases h) spaceBack.cardText (fun _ h=>by cases h) spaceBack_row_tie rfl ⟨rfl,rfl⟩ spaceBack.cardMain rfl
  (fun f fn hf hfn=>by
   obtain rfl:f=11:=J3u (spaceBack.cardNamed.symm.trans hf) |>.symm;obtain rfl:fn=f11:=(J3u (func11.symm.trans hfn)).symm;exact⟨spaceBack.cardLooks,fun j t ht=>by
    rw [params11] at ht;have hm:t∈[52,63]:=by simpa using Array.mem_of_getElem? ht
    exact (show Tryz.pinned.checked.prog.wantsStandIn t=false by simpa using J5C.1 spaceBack.cardStand t hm)⟩)
  spaceBack.cardGoes
#print axioms space_back_card
end Go.Proofs.YtlakjlmaboioiaaGreatDoor
