/- CoreApart returns true at every input. No condition. -/
import Derived.Test.YtcnbbenmlffgpaaGreatDoorCa23
import Derived.Test.YtcnbbenmlffgpaaGreatDoorTie
import Derived.Test.YtcnbbenmlffgpaaGreatDoorCards
import Derived.SevenTiedAt
set_option linter.unusedVariables false
/- CoreApart returns true at every input, with the three listed tables tied to the program's text. No condition. -/
namespace Go.Proofs.YtcnbbenmlffgpaaGreatDoor
open Go

theorem core_apart_card : Rows.CoreApartCardSaid :=
  Claim7.holds_tied_plain_at .later [] [.data, .data, .data] true (true, "9eeb70a455bfebfe72500bbecc9b58ff50b59a74f18b615be7bcd7dd98533419") false
    coreApart.proved (fun _ h => by cases h) (by kernel_rfl) (fun _ h => by cases h) coreApart_row_tie rfl ⟨rfl, rfl⟩ (by kernel_rfl) rfl
    (fun f fn hf hfn => by
      obtain rfl : f = 8 := Option.some.inj ((show Tryz.prog.funcNamed "quartermaster/quartermasterlaw16.CoreApart" = some 8 by kernel_rfl).symm.trans hf) |>.symm
      obtain rfl : fn = Tryz.f8 := (Option.some.inj (Tryz.func8.symm.trans hfn)).symm
      exact ⟨by kernel_rfl, fun j t ht => by
        rw [Tryz.params8] at ht
        have hm : t ∈ [49, 5, 22] := by simpa using Array.mem_of_getElem? ht
        have hall : ([49, 5, 22].all fun u => !Tryz.prog.wantsStandIn u) = true := by kernel_rfl
        exact (show Tryz.prog.wantsStandIn t = false by simpa using List.all_eq_true.1 hall t hm)⟩)
    (by kernel_rfl)
#print axioms core_apart_card
end Go.Proofs.YtcnbbenmlffgpaaGreatDoor
