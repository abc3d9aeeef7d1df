/- PoolSums returns true at every input, with the three listed tables tied to the program's text. No condition. -/
import Derived.Test.YtfefdleadocpmaaDoorPs12
import Derived.Test.YtfefdleadocpmaaDoorTie
import Derived.Test.YtfefdleadocpmaaDoorCards
import Derived.SevenTiedAt
/- PoolSums returns true at every input, with the three listed tables tied to the program's text. No condition. -/
namespace Go.Proofs.YtfefdleadocpmaaDoor
open Go

theorem pool_sums_card : Rows.PoolSumsCardSaid :=
  Claim7.holds_tied_plain_at .later [] [.data, .data, .data] true (true, "8a4ceb0ecf97b5bcd355cfe1a3ff642c5f79d71629043a3ab83b14b09052d9e5") false
    poolSums.proved (fun _ h => by cases h) (by kernel_rfl) (fun _ h => by cases h) poolSums_row_tie rfl ⟨rfl, rfl⟩ (by kernel_rfl) rfl
    (fun f fn hf hfn => by
      obtain rfl : f = 3 := Option.some.inj ((show Tryd.prog.funcNamed "quartermaster/quartermasterlaw06.PoolSums" = some 3 by kernel_rfl).symm.trans hf) |>.symm
      obtain rfl : fn = Tryd.f3 := (Option.some.inj (Tryd.func3.symm.trans hfn)).symm
      exact ⟨by kernel_rfl, fun j t ht => by
        rw [Tryd.params3] at ht
        have hm : t ∈ [22, 23] := by simpa using Array.mem_of_getElem? ht
        have hall : ([22, 23].all fun u => !Tryd.prog.wantsStandIn u) = true := by kernel_rfl
        exact (show Tryd.prog.wantsStandIn t = false by simpa using List.all_eq_true.1 hall t hm)⟩)
    (by kernel_rfl)
#print axioms pool_sums_card
end Go.Proofs.YtfefdleadocpmaaDoor
