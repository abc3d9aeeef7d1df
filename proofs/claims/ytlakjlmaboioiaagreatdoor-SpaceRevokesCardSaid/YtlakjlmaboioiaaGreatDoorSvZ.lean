/- SpaceRevokes returns true at every input. No condition. -/
import Derived.Test.YtlakjlmaboioiaaGreatDoorSv32
import Derived.Test.YtlakjlmaboioiaaGreatDoorTie
import Derived.Test.YtlakjlmaboioiaaGreatDoorCards
import Derived.SevenTiedAt
set_option linter.unusedVariables false
namespace Go.Proofs.YtlakjlmaboioiaaGreatDoor
open Go Go.Proofs.Tryz
namespace spaceRevokes
theorem cardText:Rows.spaceRevokesRow.wfByText (OpenSpec.ofChange Rows.spaceRevokesSpec)=true:=by kernel_rfl
theorem cardMain:Tryz.pinned.checked.prog.mainIs=some (true, "46c981935fdbb8f731de0b3e23d509c9324a65cb8423fa6168ae4048fd4c3ee3".toList):=by kernel_rfl
theorem cardNamed:Tryz.pinned.checked.prog.funcNamed "quartermaster/quartermasterlaw17.SpaceRevokes" = some 8:=by kernel_rfl
theorem cardLooks:false=Tryz.pinned.checked.prog.looks []:=by kernel_rfl
theorem cardStand:([52,63,5,5,4].all fun u=>!Tryz.pinned.checked.prog.wantsStandIn u)=true:=by kernel_rfl
theorem cardGoes:false=Rows.spaceRevokesRow.goesBy Tryz.pinned.checked.prog:=by kernel_rfl
end spaceRevokes
theorem space_revokes_card:Rows.SpaceRevokesCardSaid:=
 Claim7.holds_tied_plain_at .later [] [.data,.data,.data] true (true, "46c981935fdbb8f731de0b3e23d509c9324a65cb8423fa6168ae4048fd4c3ee3") false
  spaceRevokes.proved (fun _ h=>by cases h) spaceRevokes.cardText (fun _ h=>by cases h) spaceRevokes_row_tie rfl ⟨rfl,rfl⟩ spaceRevokes.cardMain rfl
  (fun f fn hf Fm=>by
   obtain rfl:f=8:=J2J (spaceRevokes.cardNamed.symm.trans hf) |>.symm;obtain rfl:fn=f8:=(J2J (func8.symm.trans Fm)).symm;exact⟨spaceRevokes.cardLooks,fun j t ht=>by
    rw [params8] at ht;have hm:t∈[52,63,5,5,4]:=by simpa using Array.mem_of_getElem? ht
    exact (show Tryz.pinned.checked.prog.wantsStandIn t=false by simpa using J4R.1 spaceRevokes.cardStand t hm)⟩)
  spaceRevokes.cardGoes
#print axioms space_revokes_card
end Go.Proofs.YtlakjlmaboioiaaGreatDoor
