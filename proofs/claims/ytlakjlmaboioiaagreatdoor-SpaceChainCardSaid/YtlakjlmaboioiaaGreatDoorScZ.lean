/- SpaceChain returns true at every input. No condition. -/
import Derived.Test.YtlakjlmaboioiaaGreatDoorSc27
import Derived.Test.YtlakjlmaboioiaaGreatDoorTie
import Derived.Test.YtlakjlmaboioiaaGreatDoorCards
import Derived.SevenTiedAt
set_option linter.unusedVariables false
namespace Go.Proofs.YtlakjlmaboioiaaGreatDoor
open Go
namespace spaceChain
theorem cardText:Rows.spaceChainRow.wfByText (OpenSpec.ofChange Rows.spaceChainSpec) = true:=by kernel_rfl
theorem cardMain:Tryz.pinned.checked.prog.mainIs = some (true, "46c981935fdbb8f731de0b3e23d509c9324a65cb8423fa6168ae4048fd4c3ee3".toList):=by kernel_rfl
theorem cardNamed:Tryz.pinned.checked.prog.funcNamed "quartermaster/quartermasterlaw17.SpaceChain" = some 3:=by kernel_rfl
theorem cardLooks:false = Tryz.pinned.checked.prog.looks []:=by kernel_rfl
theorem cardStand:([22,5,4].all fun u=>!Tryz.pinned.checked.prog.wantsStandIn u) = true:=by kernel_rfl
theorem cardGoes:false = Rows.spaceChainRow.goesBy Tryz.pinned.checked.prog:=by kernel_rfl
end spaceChain
theorem space_chain_card:Rows.SpaceChainCardSaid:=
  Claim7.holds_tied_plain_at .later [] [.data,.data,.data] true (true, "46c981935fdbb8f731de0b3e23d509c9324a65cb8423fa6168ae4048fd4c3ee3") false
    spaceChain.proved (fun _ h=>by cases h) spaceChain.cardText (fun _ h=>by cases h) spaceChain_row_tie rfl ⟨rfl,rfl⟩ spaceChain.cardMain rfl
    (fun f fn hf hfn=>by
      obtain rfl:f = 3:=Option.some.inj (spaceChain.cardNamed.symm.trans hf) |>.symm
      obtain rfl:fn = Tryz.f3:=(Option.some.inj (Tryz.func3.symm.trans hfn)).symm
      exact⟨spaceChain.cardLooks,fun j t ht=>by
        rw [Tryz.params3] at ht
        have hm:t ∈ [22,5,4]:=by simpa using Array.mem_of_getElem? ht
        exact (show Tryz.pinned.checked.prog.wantsStandIn t = false by simpa using List.all_eq_true.1 spaceChain.cardStand t hm)⟩)
    spaceChain.cardGoes
#print axioms space_chain_card
end Go.Proofs.YtlakjlmaboioiaaGreatDoor
