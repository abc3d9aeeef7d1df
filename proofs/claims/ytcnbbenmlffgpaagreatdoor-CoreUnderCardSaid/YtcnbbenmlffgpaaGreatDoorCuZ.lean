/- CoreUnder returns true at every input: what is under a factory is just what was made through it, and dooms in that order. No condition. -/
import Derived.Test.YtcnbbenmlffgpaaGreatDoorCu19
import Derived.Test.YtcnbbenmlffgpaaGreatDoorTie
import Derived.Test.YtcnbbenmlffgpaaGreatDoorCards
import Derived.SevenTiedAt
/- CoreUnder returns true at every input, with the three listed tables tied to the program's text. No condition. -/
namespace Go.Proofs.YtcnbbenmlffgpaaGreatDoor
open Go

theorem core_under_card : Rows.CoreUnderCardSaid :=
  Claim7.holds_tied_plain_at .later [] [.data, .data, .data] true (true, "9eeb70a455bfebfe72500bbecc9b58ff50b59a74f18b615be7bcd7dd98533419") false
    coreUnder.proved (fun _ h => by cases h) (by kernel_rfl) (fun _ h => by cases h) coreUnder_row_tie rfl ⟨rfl, rfl⟩ (by kernel_rfl) rfl
    (fun f fn hf hfn => by
      obtain rfl : f = 3 := Option.some.inj ((show Tryz.prog.funcNamed "quartermaster/quartermasterlaw16.CoreUnder" = some 3 by kernel_rfl).symm.trans hf) |>.symm
      obtain rfl : fn = Tryz.f3 := (Option.some.inj (Tryz.func3.symm.trans hfn)).symm
      exact ⟨by kernel_rfl, fun j t ht => by
        rw [Tryz.params3] at ht
        have hm : t ∈ [22, 5] := by simpa using Array.mem_of_getElem? ht
        have hall : ([22, 5].all fun u => !Tryz.prog.wantsStandIn u) = true := by kernel_rfl
        exact (show Tryz.prog.wantsStandIn t = false by simpa using List.all_eq_true.1 hall t hm)⟩)
    (by kernel_rfl)
#print axioms core_under_card
end Go.Proofs.YtcnbbenmlffgpaaGreatDoor
