/- SpaceRights returns true at every input. No condition. -/
import Derived.Test.YtlakjlmaboioiaaGreatDoorSr01
import Derived.Test.YtlakjlmaboioiaaGreatDoorSr31
import Derived.Test.YtlakjlmaboioiaaGreatDoorTie
import Derived.Test.YtlakjlmaboioiaaGreatDoorCards
import Derived.SevenTiedAt
set_option linter.unusedVariables false
namespace Go.Proofs.YtlakjlmaboioiaaGreatDoor
open Go Go.Proofs.Tryz
namespace spaceRights
theorem cardText:Rows.spaceRightsRow.wfByText (OpenSpec.ofChange Rows.spaceRightsSpec)=true:=by kernel_rfl
theorem cardMain:Tryz.pinned.checked.prog.mainIs=some (true, "46c981935fdbb8f731de0b3e23d509c9324a65cb8423fa6168ae4048fd4c3ee3".toList):=by kernel_rfl
theorem cardNamed:Tryz.pinned.checked.prog.funcNamed "quartermaster/quartermasterlaw17.SpaceRights" = some 6:=by kernel_rfl
theorem cardLooks:false=Tryz.pinned.checked.prog.looks []:=by kernel_rfl
theorem cardStand:([52,63].all fun u=>!Tryz.pinned.checked.prog.wantsStandIn u)=true:=by kernel_rfl
theorem cardGoes:false=Rows.spaceRightsRow.goesBy Tryz.pinned.checked.prog:=by kernel_rfl
end spaceRights
theorem space_rights_card:Rows.SpaceRightsCardSaid:=
 Claim7.holds_tied_plain_at .later [] [.data,.data,.data] true (true, "46c981935fdbb8f731de0b3e23d509c9324a65cb8423fa6168ae4048fd4c3ee3") false
  spaceRights.proved (fun _ h=>by cases h) spaceRights.cardText (fun _ h=>by cases h) spaceRights_row_tie rfl ⟨rfl,rfl⟩ spaceRights.cardMain rfl
  (fun f fn hf hfn=>by
   obtain rfl:f=6:=J2u (spaceRights.cardNamed.symm.trans hf) |>.symm;obtain rfl:fn=f6:=(J2u (func6.symm.trans hfn)).symm;exact⟨spaceRights.cardLooks,fun j t ht=>by
    rw [params6] at ht;have hm:t∈[52,63]:=by simpa using Array.mem_of_getElem? ht
    exact (show Tryz.pinned.checked.prog.wantsStandIn t=false by simpa using J4C.1 spaceRights.cardStand t hm)⟩)
  spaceRights.cardGoes
#print axioms space_rights_card
end Go.Proofs.YtlakjlmaboioiaaGreatDoor
