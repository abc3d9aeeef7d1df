/- CoreExact returns true at every input: an object is made just if what it costs is left of the account. No condition. -/
import Derived.Test.YtcnbbenmlffgpaaGreatDoorCe19
import Derived.Test.YtcnbbenmlffgpaaGreatDoorTie
import Derived.Test.YtcnbbenmlffgpaaGreatDoorCards
import Derived.SevenTiedAt
set_option linter.unusedVariables false
/- CoreExact returns true at every input, with the three listed tables tied to the program's text. No condition. -/
namespace Go.Proofs.YtcnbbenmlffgpaaGreatDoor
open Go

theorem core_exact_card : Rows.CoreExactCardSaid :=
  Claim7.holds_tied_plain_at .later [] [.data, .data, .data] true (true, "9eeb70a455bfebfe72500bbecc9b58ff50b59a74f18b615be7bcd7dd98533419") false
    coreExact.proved (fun _ h => by cases h) (by kernel_rfl) (fun _ h => by cases h) coreExact_row_tie rfl ⟨rfl, rfl⟩ (by kernel_rfl) rfl
    (fun f fn hf hfn => by
      obtain rfl : f = 5 := Option.some.inj ((show Tryz.prog.funcNamed "quartermaster/quartermasterlaw16.CoreExact" = some 5 by kernel_rfl).symm.trans hf) |>.symm
      obtain rfl : fn = Tryz.f5 := (Option.some.inj (Tryz.func5.symm.trans hfn)).symm
      exact ⟨by kernel_rfl, fun j t ht => by
        rw [Tryz.params5] at ht
        have hm : t ∈ [49, 50, 5] := by simpa using Array.mem_of_getElem? ht
        have hall : ([49, 50, 5].all fun u => !Tryz.prog.wantsStandIn u) = true := by kernel_rfl
        exact (show Tryz.prog.wantsStandIn t = false by simpa using List.all_eq_true.1 hall t hm)⟩)
    (by kernel_rfl)
#print axioms core_exact_card
end Go.Proofs.YtcnbbenmlffgpaaGreatDoor
