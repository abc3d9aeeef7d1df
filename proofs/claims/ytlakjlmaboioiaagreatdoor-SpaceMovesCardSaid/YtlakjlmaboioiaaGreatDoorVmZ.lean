/- SpaceMoves returns true at every input. No condition. -/
import Derived.Test.YtlakjlmaboioiaaGreatDoorVmP
import Derived.Test.YtlakjlmaboioiaaGreatDoorTie
import Derived.Test.YtlakjlmaboioiaaGreatDoorCards
import Derived.SevenTiedAt
set_option linter.unusedVariables false
namespace Go.Proofs.YtlakjlmaboioiaaGreatDoor
open Go Go.Proofs.Tryz
namespace spaceMoves
theorem cardText:Rows.spaceMovesRow.wfByText (OpenSpec.ofChange Rows.spaceMovesSpec)=true:=by kernel_rfl
theorem cardMain:Tryz.pinned.checked.prog.mainIs=some (true, "46c981935fdbb8f731de0b3e23d509c9324a65cb8423fa6168ae4048fd4c3ee3".toList):=by kernel_rfl
theorem cardNamed:Tryz.pinned.checked.prog.funcNamed "quartermaster/quartermasterlaw17.SpaceMoves" = some 7:=by kernel_rfl
theorem cardLooks:false=Tryz.pinned.checked.prog.looks []:=by kernel_rfl
theorem cardStand:([52,63,5,5,39].all fun u=>!Tryz.pinned.checked.prog.wantsStandIn u)=true:=by kernel_rfl
theorem cardGoes:false=Rows.spaceMovesRow.goesBy Tryz.pinned.checked.prog:=by kernel_rfl
end spaceMoves
theorem space_moves_card:Rows.SpaceMovesCardSaid:=
 Claim7.holds_tied_plain_at .later [] [.data,.data,.data] true (true, "46c981935fdbb8f731de0b3e23d509c9324a65cb8423fa6168ae4048fd4c3ee3") false
  spaceMoves.proved (fun _ h=>by cases h) spaceMoves.cardText (fun _ h=>by cases h) spaceMoves_row_tie rfl ⟨rfl,rfl⟩ spaceMoves.cardMain rfl
  (fun f fn hf ER=>by
   obtain rfl:f=7:=J3e (spaceMoves.cardNamed.symm.trans hf) |>.symm;obtain rfl:fn=f7:=(J3e (func7.symm.trans ER)).symm;exact⟨spaceMoves.cardLooks,fun j t ht=>by
    rw [params7] at ht;have hm:t∈[52,63,5,5,39]:=by simpa using J6K ht
    exact (show Tryz.pinned.checked.prog.wantsStandIn t=false by simpa using J5m.1 spaceMoves.cardStand t hm)⟩)
  spaceMoves.cardGoes
#print axioms space_moves_card
end Go.Proofs.YtlakjlmaboioiaaGreatDoor
