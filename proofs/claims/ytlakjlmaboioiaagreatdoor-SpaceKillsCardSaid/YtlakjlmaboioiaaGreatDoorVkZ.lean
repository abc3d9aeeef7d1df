/- SpaceKills returns true at every input. No condition. -/
import Derived.Test.YtlakjlmaboioiaaGreatDoorVkP
import Derived.Test.YtlakjlmaboioiaaGreatDoorTie
import Derived.Test.YtlakjlmaboioiaaGreatDoorCards
import Derived.SevenTiedAt
set_option linter.unusedVariables false
namespace Go.Proofs.YtlakjlmaboioiaaGreatDoor
open Go Go.Proofs.Tryz
namespace spaceKills
theorem cardText:Rows.spaceKillsRow.wfByText (OpenSpec.ofChange Rows.spaceKillsSpec)=true:=by kernel_rfl
theorem cardMain:Tryz.pinned.checked.prog.mainIs=some (true, "46c981935fdbb8f731de0b3e23d509c9324a65cb8423fa6168ae4048fd4c3ee3".toList):=by kernel_rfl
theorem cardNamed:Tryz.pinned.checked.prog.funcNamed "quartermaster/quartermasterlaw17.SpaceKills" = some 9:=by kernel_rfl
theorem cardLooks:false=Tryz.pinned.checked.prog.looks []:=by kernel_rfl
theorem cardStand:([52,63,5].all fun u=>!Tryz.pinned.checked.prog.wantsStandIn u)=true:=by kernel_rfl
theorem cardGoes:false=Rows.spaceKillsRow.goesBy Tryz.pinned.checked.prog:=by kernel_rfl
end spaceKills
theorem space_kills_card:Rows.SpaceKillsCardSaid:=
 Claim7.holds_tied_plain_at .later [] [.data,.data,.data] true (true, "46c981935fdbb8f731de0b3e23d509c9324a65cb8423fa6168ae4048fd4c3ee3") false
  spaceKills.proved (fun _ h=>by cases h) spaceKills.cardText (fun _ h=>by cases h) spaceKills_row_tie rfl ⟨rfl,rfl⟩ spaceKills.cardMain rfl
  (fun f fn hf ER=>by
   obtain rfl:f=9:=J3e (spaceKills.cardNamed.symm.trans hf) |>.symm;obtain rfl:fn=f9:=(J3e (func9.symm.trans ER)).symm;exact⟨spaceKills.cardLooks,fun j t ht=>by
    rw [params9] at ht;have hm:t∈[52,63,5]:=by simpa using J6K ht
    exact (show Tryz.pinned.checked.prog.wantsStandIn t=false by simpa using J5m.1 spaceKills.cardStand t hm)⟩)
  spaceKills.cardGoes
#print axioms space_kills_card
end Go.Proofs.YtlakjlmaboioiaaGreatDoor
