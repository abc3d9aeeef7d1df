/- What an act answers, of both controllers: the same; kind by kind. Condition: what AR says. -/
import Derived.Test.YtekgfdfganelmaaActsE
import Derived.Test.YtekgfdfganelmaaActsF
import Derived.Test.YtekgfdfganelmaaActsG
import Derived.Test.YtekgfdfganelmaaActsH
namespace Go.Proofs.Ytekgfdfganelmaa
open Go.RowKit

section
variable {B : Nat} {w0 w : World} {c m r t : Nat} {K : List (Nat × Obj)}
theorem does_any (h : AR B w0 w c m r t K) (ht : t < 1000) (hB : B ≤ w0.heap.size) (k id n : Int) (hid : id ≤ 9223372036854775807) (la : Option Addr) (ln cap : Nat) (hln : ln ≤ 1048576) (z : Nat → Int) (hz : ∀ j, j < ln → ∃ gl gof, la = some ⟨gl, gof, none⟩ ∧ gl < B ∧ w0.cell? ⟨gl, gof + j, none⟩ = some (.int .i64 (z j))) :
    Calls Try.prog 25 #[cp c, cp r, .agg #[.int .i64 k, .int .i64 id, .int .i64 n, .slice la ln cap]] w (Does B w0 c m r (t + 1) K) := by
  by_cases hk : k < 0 ∨ 10 < k
  · exact doesx h ht k id n _ hk
  have : k = 0 ∨ k = 1 ∨ k = 2 ∨ k = 3 ∨ k = 4 ∨ k = 5 ∨ k = 6 ∨ k = 7 ∨ k = 8 ∨ k = 9 ∨ k = 10 := by omega
  rcases this with rfl | rfl | rfl | rfl | rfl | rfl | rfl | rfl | rfl | rfl | rfl
  · exact does0 h ht id n _ hid
  · exact does1 h ht id n _
  · exact does2 h ht id n _
  · exact does3 h ht id n _
  · exact does4 h ht id n _
  · exact does5 h ht hB id n la ln cap hln z hz
  · exact does6 h ht hB id n la ln cap hln z hz
  · exact does7 h ht id n _
  · exact does8 h ht id n _
  · exact does9 h ht id n _
  · exact does10 h ht id n _
end
end Go.Proofs.Ytekgfdfganelmaa
