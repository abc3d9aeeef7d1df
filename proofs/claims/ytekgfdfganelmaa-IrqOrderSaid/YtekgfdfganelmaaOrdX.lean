/- IrqOrder: the long arguments; from what is read of the bytes to the walk. No condition. -/
import Derived.Test.YtekgfdfganelmaaOrdW
namespace Go.Proofs.Ytekgfdfganelmaa
open Go.RowKit

set_option maxHeartbeats 1000000 in
theorem order_big (a0 : Option Addr) (len cap : Nat) (o : Int) (w : World) (h : 100 < len) :
    Calls Try.prog 4 #[.slice a0 len cap, .int .u8 o] w fun e w' => e = .returned (.bool true) ∧ Below w.heap.size w w' := by
  go_enter Try.func4, Try.ntmps4
  go_wp2_with fail
  refine (alive_any w).mono ?_
  rintro e w1 ⟨rfl, hb0⟩
  go_wp2_with fail
  go_ret
  exact ⟨rfl, hb0⟩
theorem addr_plain {w : World} {x : Addr} {v : Value} (h : w.cell? x = some v) : x = ⟨x.block, x.off, none⟩ := by
  obtain ⟨b, o, s⟩ := x
  cases s with
  | none => rfl
  | some s =>
    exfalso
    unfold World.cell? at h
    split at h <;> simp at h
theorem add_plain (b o j : Nat) : (⟨b, o, none⟩ : Addr).add j = ⟨b, o + j, none⟩ := by
  unfold Addr.add
  split
  · rename_i h; simp [h]
  · rfl
theorem cell_lt {w : World} {x : Addr} {v : Value} (h : w.cell? x = some v) : x.block < w.heap.size := World.block_lt_of_cell? w x h
theorem order_all (a0 : Option Addr) (len cap : Nat) (o : Nat) (ho : o < 256) (w : World) (zs : List Int)
    (h : ∀ j, j < len → ∃ x, a0 = some x ∧ w.cell? (x.add j) = some (.int .u8 (zs.getD j 0)) ∧ 0 ≤ zs.getD j 0 ∧ zs.getD j 0 ≤ 255) :
    Calls Try.prog 4 #[.slice a0 len cap, .int .u8 o] w fun e w' => e = .returned (.bool true) ∧ Below w.heap.size w w' := by
  by_cases h100 : len ≤ 100
  · refine order_any a0 len cap (fun j => (zs.getD j 0).toNat) o ho w (fun j hj => ?_) h100
    obtain ⟨x, hx, hc, h1, h2⟩ := h j hj
    obtain ⟨x0, hx0, hc0, _, _⟩ := h 0 (by omega)
    rw [hx] at hx0
    cases hx0
    have hp := addr_plain (x := x) (by simpa [Addr.add] using hc0)
    rw [hp, add_plain] at hc
    have hlt0 := cell_lt (x := ⟨x.block, x.off + j, none⟩) hc
    refine ⟨by show (zs.getD j 0).toNat < 256; omega, x.block, x.off, by rw [hx]; exact congrArg some hp, hlt0, ?_⟩
    rw [hc]
    show some (Value.int .u8 (zs.getD j 0)) = some (.int .u8 ((zs.getD j 0).toNat : Int))
    rw [Int.toNat_of_nonneg h1]
  · exact order_big a0 len cap o w (by omega)
end Go.Proofs.Ytekgfdfganelmaa
