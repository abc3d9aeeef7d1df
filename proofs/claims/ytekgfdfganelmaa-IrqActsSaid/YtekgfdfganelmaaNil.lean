/- Walks of the irq controller's methods at a nil receiver. No condition. Printed by a program. -/
import Derived.Test.YtekgfdfganelmaaIrqI
namespace Go.Proofs.Ytekgfdfganelmaa
open Go.RowKit

set_option maxHeartbeats 400000 in
theorem nil_at (w : World) (id : Int) : Calls Try.prog 29 #[.pointer none, .int .i64 id] w fun e w' => e = .returned (.tuple #[.pointer none, .int .i64 1]) ∧ w = w' := by
  go_enter Try.func29, Try.ntmps29
  go_wp2
  go_ret2
  exact ⟨rfl, rfl⟩
set_option maxHeartbeats 400000 in
theorem nil_add (w : World) (id t : Int) : Calls Try.prog 10 #[.pointer none, .int .i64 id] w fun e w' => e = .returned (.int .i64 1) ∧ w = w' := by
  go_enter Try.func10, Try.ntmps10
  go_wp2_with (go_at_call 29; refine (nil_at _ _).mono ?_; rintro e w' ⟨rfl, rfl⟩)
  go_ret
  exact ⟨rfl, rfl⟩
set_option maxHeartbeats 400000 in
theorem nil_remove (w : World) (id t : Int) : Calls Try.prog 21 #[.pointer none, .int .i64 id] w fun e w' => e = .returned (.int .i64 1) ∧ w = w' := by
  go_enter Try.func21, Try.ntmps21
  go_wp2_with (go_at_call 29; refine (nil_at _ _).mono ?_; rintro e w' ⟨rfl, rfl⟩)
  go_ret
  exact ⟨rfl, rfl⟩
set_option maxHeartbeats 400000 in
theorem nil_bind (w : World) (id t : Int) : Calls Try.prog 18 #[.pointer none, .int .i64 id, .int .i64 t] w fun e w' => e = .returned (.int .i64 1) ∧ w = w' := by
  go_enter Try.func18, Try.ntmps18
  go_wp2_with (go_at_call 29; refine (nil_at _ _).mono ?_; rintro e w' ⟨rfl, rfl⟩)
  go_ret
  exact ⟨rfl, rfl⟩
set_option maxHeartbeats 400000 in
theorem nil_unbind (w : World) (id t : Int) : Calls Try.prog 22 #[.pointer none, .int .i64 id] w fun e w' => e = .returned (.int .i64 1) ∧ w = w' := by
  go_enter Try.func22, Try.ntmps22
  go_wp2_with (go_at_call 29; refine (nil_at _ _).mono ?_; rintro e w' ⟨rfl, rfl⟩)
  go_ret
  exact ⟨rfl, rfl⟩
set_option maxHeartbeats 400000 in
theorem nil_attach (w : World) (id t : Int) : Calls Try.prog 11 #[.pointer none, .int .i64 id, .int .i64 t] w fun e w' => e = .returned (.int .i64 1) ∧ w = w' := by
  go_enter Try.func11, Try.ntmps11
  go_wp2_with (go_at_call 29; refine (nil_at _ _).mono ?_; rintro e w' ⟨rfl, rfl⟩)
  go_ret
  exact ⟨rfl, rfl⟩
set_option maxHeartbeats 400000 in
theorem nil_mask (w : World) (on : Bool) (gl : Nat) (hc : w.cell? ⟨gl, 0, none⟩ = some (.int .i64 1)) : Calls Try.prog 13 #[.pointer none, .bool on, .slice (some ⟨gl, 0, none⟩) 1 1] w fun e w' => e = .returned (.int .i64 0) ∧ w = w' := by
  go_enter Try.func13, Try.ntmps13
  go_wp2_with fail
  go_loop [7, 14] (fun n i => ∃ k : Nat, n = .int .i64 0 ∧ i = .int .i64 k ∧ k ≤ 1) (fun _ i => 1 - (intOf i).toNat)
  case atStart => exact ⟨0, rfl, rfl, by omega⟩
  case round =>
    obtain ⟨k, rfl, rfl, hk⟩ := hrel
    by_cases h0 : k = 0
    · subst h0
      go_wp2_with fail
      refine (nil_at _ _).mono ?_
      rintro e w' ⟨rfl, rfl⟩
      go_wp2_with fail
      go_round
      case rel => exact ⟨1, rfl, by go_num, by omega⟩
      case measure => simp [intOf]
    · obtain rfl : k = 1 := by omega
      go_wp2_with fail
      go_ret
      exact ⟨rfl, rfl⟩
set_option maxHeartbeats 400000 in
theorem nil_raise (w : World) (id t : Int) : Calls Try.prog 19 #[.pointer none, .int .i64 id] w fun e w' => e = .returned (.int .i64 (-1)) ∧ w = w' := by
  go_enter Try.func19, Try.ntmps19
  go_wp2_with (go_at_call 29; refine (nil_at _ _).mono ?_; rintro e w' ⟨rfl, rfl⟩)
  go_ret
  exact ⟨rfl, rfl⟩
set_option maxHeartbeats 400000 in
theorem nil_trigger (w : World) (id t : Int) : Calls Try.prog 12 #[.pointer none, .int .i64 id] w fun e w' => e = .returned (.int .i64 1) ∧ w = w' := by
  go_enter Try.func12, Try.ntmps12
  go_wp2_with (go_at_call 29; refine (nil_at _ _).mono ?_; rintro e w' ⟨rfl, rfl⟩)
  go_ret
  exact ⟨rfl, rfl⟩
set_option maxHeartbeats 400000 in
theorem nil_first (w : World) (id : Int) : Calls Try.prog 16 #[.pointer none, .int .i64 id] w fun e w' => e = .returned (.int .i64 (-1)) ∧ Below w.heap.size w w' := by
  go_enter Try.func16, Try.ntmps16
  go_wp2_with fail
  refine bodyPost_ret (v := .int .i64 (-1)) (by simp [results, Try.results16, go_sem]) rfl ⟨rfl, (Below.refl _ _).alloc (Nat.le_refl _) _⟩
set_option maxHeartbeats 400000 in
theorem nil_take (w : World) (id t : Int) : Calls Try.prog 14 #[.pointer none, .int .i64 id] w fun e w' => e = .returned (.int .i64 1) ∧ w = w' := by
  go_enter Try.func14, Try.ntmps14
  go_wp2_with (go_at_call 29; refine (nil_at _ _).mono ?_; rintro e w' ⟨rfl, rfl⟩)
  go_ret
  exact ⟨rfl, rfl⟩
set_option maxHeartbeats 400000 in
theorem nil_pending (w : World) (id t : Int) : Calls Try.prog 17 #[.pointer none] w fun e w' => e = .returned (.slice none 0 0) ∧ w = w' := by
  go_enter Try.func17, Try.ntmps17
  go_wp2_with (go_at_call 29; refine (nil_at _ _).mono ?_; rintro e w' ⟨rfl, rfl⟩)
  go_ret
  exact ⟨rfl, rfl⟩
set_option maxHeartbeats 400000 in
theorem nil_lost (w : World) (id t : Int) : Calls Try.prog 15 #[.pointer none, .int .i64 id] w fun e w' => e = .returned (.int .i64 0) ∧ w = w' := by
  go_enter Try.func15, Try.ntmps15
  go_wp2_with (go_at_call 29; refine (nil_at _ _).mono ?_; rintro e w' ⟨rfl, rfl⟩)
  go_ret
  exact ⟨rfl, rfl⟩
set_option maxHeartbeats 400000 in
theorem nil_line (w : World) (id t : Int) : Calls Try.prog 23 #[.pointer none, .int .i64 id] w fun e w' => e = .returned (.int .i64 (-1)) ∧ w = w' := by
  go_enter Try.func23, Try.ntmps23
  go_wp2_with (go_at_call 29; refine (nil_at _ _).mono ?_; rintro e w' ⟨rfl, rfl⟩)
  go_ret
  exact ⟨rfl, rfl⟩
set_option maxHeartbeats 400000 in
theorem nil_owner (w : World) (id t : Int) : Calls Try.prog 24 #[.pointer none, .int .i64 id] w fun e w' => e = .returned (.int .i64 (-1)) ∧ w = w' := by
  go_enter Try.func24, Try.ntmps24
  go_wp2_with (go_at_call 29; refine (nil_at _ _).mono ?_; rintro e w' ⟨rfl, rfl⟩)
  go_ret
  exact ⟨rfl, rfl⟩
end Go.Proofs.Ytekgfdfganelmaa
