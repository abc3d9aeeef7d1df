/- SpaceGrants returns true at every input. No condition. -/
import Derived.Test.YtlakjlmaboioiaaGreatDoorSg27
import Derived.Test.YtlakjlmaboioiaaGreatDoorTie
import Derived.Test.YtlakjlmaboioiaaGreatDoorCards
import Derived.SevenTiedAt
set_option linter.unusedVariables false
namespace Go.Proofs.YtlakjlmaboioiaaGreatDoor
open Go
namespace spaceGrants
theorem cardText:Rows.spaceGrantsRow.wfByText (OpenSpec.ofChange Rows.spaceGrantsSpec) = true:=by kernel_rfl
theorem cardMain:Tryz.pinned.checked.prog.mainIs = some (true, "46c981935fdbb8f731de0b3e23d509c9324a65cb8423fa6168ae4048fd4c3ee3".toList):=by kernel_rfl
theorem cardNamed:Tryz.pinned.checked.prog.funcNamed "quartermaster/quartermasterlaw17.SpaceGrants" = some 4:=by kernel_rfl
theorem cardLooks:false = Tryz.pinned.checked.prog.looks []:=by kernel_rfl
theorem cardStand:([5,4,5].all fun u=>!Tryz.pinned.checked.prog.wantsStandIn u) = true:=by kernel_rfl
theorem cardGoes:false = Rows.spaceGrantsRow.goesBy Tryz.pinned.checked.prog:=by kernel_rfl
end spaceGrants
theorem space_grants_card:Rows.SpaceGrantsCardSaid:=
  Claim7.holds_tied_plain_at .later [] [.data,.data,.data] true (true, "46c981935fdbb8f731de0b3e23d509c9324a65cb8423fa6168ae4048fd4c3ee3") false
    spaceGrants.proved (fun _ h=>by cases h) spaceGrants.cardText (fun _ h=>by cases h) spaceGrants_row_tie rfl ⟨rfl,rfl⟩ spaceGrants.cardMain rfl
    (fun f fn hf hfn=>by
      obtain rfl:f = 4:=Option.some.inj (spaceGrants.cardNamed.symm.trans hf) |>.symm
      obtain rfl:fn = Tryz.f4:=(Option.some.inj (Tryz.func4.symm.trans hfn)).symm
      exact⟨spaceGrants.cardLooks,fun j t ht=>by
        rw [Tryz.params4] at ht
        have hm:t ∈ [5,4,5]:=by simpa using Array.mem_of_getElem? ht
        exact (show Tryz.pinned.checked.prog.wantsStandIn t = false by simpa using List.all_eq_true.1 spaceGrants.cardStand t hm)⟩)
    spaceGrants.cardGoes
#print axioms space_grants_card
end Go.Proofs.YtlakjlmaboioiaaGreatDoor
