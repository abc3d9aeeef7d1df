/- PoolZeros returns true at every input, with the three listed tables tied to the program's text. No condition. -/
import Derived.Test.YtfefdleadocpmaaDoorPz13
import Derived.Test.YtfefdleadocpmaaDoorTie
import Derived.Test.YtfefdleadocpmaaDoorCards
import Derived.SevenTiedAt
/- PoolZeros returns true at every input, with the three listed tables tied to the program's text. No condition. -/
namespace Go.Proofs.YtfefdleadocpmaaDoor
open Go

theorem pool_zeros_card : Rows.PoolZerosCardSaid :=
  Claim7.holds_tied_plain_at .later [] [.data, .data, .data] true (true, "8a4ceb0ecf97b5bcd355cfe1a3ff642c5f79d71629043a3ab83b14b09052d9e5") false
    poolZeros.proved (fun _ h => by cases h) (by kernel_rfl) (fun _ h => by cases h) poolZeros_row_tie rfl ⟨rfl, rfl⟩ (by kernel_rfl) rfl
    (fun f fn hf hfn => by
      obtain rfl : f = 4 := Option.some.inj ((show Tryd.prog.funcNamed "quartermaster/quartermasterlaw06.PoolZeros" = some 4 by kernel_rfl).symm.trans hf) |>.symm
      obtain rfl : fn = Tryd.f4 := (Option.some.inj (Tryd.func4.symm.trans hfn)).symm
      exact ⟨by kernel_rfl, fun j t ht => by
        rw [Tryd.params4] at ht
        have hm : t ∈ [43, 5] := by simpa using Array.mem_of_getElem? ht
        have hall : ([43, 5].all fun u => !Tryd.prog.wantsStandIn u) = true := by kernel_rfl
        exact (show Tryd.prog.wantsStandIn t = false by simpa using List.all_eq_true.1 hall t hm)⟩)
    (by kernel_rfl)
#print axioms pool_zeros_card
end Go.Proofs.YtfefdleadocpmaaDoor
