/- What an act answers, of both controllers: the same; kind by kind. Condition: what AR says. -/
import Derived.Test.YtekgfdfganelmaaActsD
namespace Go.Proofs.Ytekgfdfganelmaa
open Go.RowKit

section
variable {B : Nat} {w0 w : World} {c m r t : Nat} {K : List (Nat × Obj)}
set_option maxHeartbeats 1000000 in
theorem does6 (h : AR B w0 w c m r t K) (ht : t < 1000) (hB : B ≤ w0.heap.size) (id n : Int) (la : Option Addr) (ln cap : Nat) (hln : ln ≤ 1048576) (z : Nat → Int) (hz : ∀ j, j < ln → ∃ gl gof, la = some ⟨gl, gof, none⟩ ∧ gl < B ∧ w0.cell? ⟨gl, gof + j, none⟩ = some (.int .i64 (z j))) :
    Calls Try.prog 25 #[cp c, cp r, .agg #[.int .i64 6, .int .i64 id, .int .i64 n, .slice la ln cap]] w (Does B w0 c m r (t + 1) K) := by
  have hA := (h.alloc (.cells (Array.mk [.int .i64 6, .int .i64 id, .int .i64 n, .slice la ln cap]) 44)).grown (below_drewN _ 1)
  have HP : Hid (Calls Try.prog 13 #[cp c, .bool false, .slice la ln cap] (w.alloc (.cells (Array.mk [.int .i64 6, .int .i64 id, .int .i64 n, .slice la ln cap]) 44)).drew (Half B w0 c m r (t + 1) ((w.heap.size, .cells (Array.mk [.int .i64 6, .int .i64 id, .int .i64 n, .slice la ln cap]) 44) :: K) 42 #[cp r, .bool false, .slice la ln cap])) := mask_pair hA ht hB false la ln cap hln z hz
  clear hA h hB hln hz
  go_enter Try.func25, Try.ntmps25
  go_wp2_with fail
  go_region_with (first | (go_at_call 13; refine HP.out.mono ?_; rintro e w1 ⟨x, rfl, hk, hm⟩; have c3 := box_cells hk 3 _ rfl; clear hk; have hm0 := hm 0) | (go_at_call 42; refine hm0.mono ?_; rintro e w2 ⟨rfl, hR⟩))
  all_goals go_wp2_with fail
  all_goals go_ret2
  all_goals exact ⟨⟨_, rfl⟩, hR.tail⟩
set_option maxHeartbeats 1000000 in
theorem doesx (h : AR B w0 w c m r t K) (ht : t < 1000) (k id n : Int) (s : Value) (hk : k < 0 ∨ 10 < k) :
    Calls Try.prog 25 #[cp c, cp r, .agg #[.int .i64 k, .int .i64 id, .int .i64 n, s]] w (Does B w0 c m r (t + 1) K) := by
  have hA : Hid (AR B w0 (w.alloc (.cells (Array.mk [.int .i64 k, .int .i64 id, .int .i64 n, s]) 44)) c m r (t + 1) K) := by
    obtain ⟨E, L, row, rv, lv, rv2, h, s⟩ := h
    exact ⟨E, L, row, rv, lv, rv2, (h.alloc _).tail, s.mono⟩
  clear h
  have g0 : (k == 0) = false := by simp; omega
  have g1 : (k == 1) = false := by simp; omega
  have g2 : (k == 2) = false := by simp; omega
  have g3 : (k == 3) = false := by simp; omega
  have g4 : (k == 4) = false := by simp; omega
  have g5 : (k == 5) = false := by simp; omega
  have g6 : (k == 6) = false := by simp; omega
  have g7 : (k == 7) = false := by simp; omega
  have g8 : (k == 8) = false := by simp; omega
  have g9 : (k == 9) = false := by simp; omega
  have g10 : (k == 10) = false := by simp; omega
  clear hk
  go_enter Try.func25, Try.ntmps25
  go_wp2_with fail
  go_ret2
  exact ⟨⟨_, rfl⟩, hA.out⟩
set_option maxHeartbeats 1000000 in
theorem does10 (h : AR B w0 w c m r t K) (ht : t < 1000) (id n : Int) (s : Value) :
    Calls Try.prog 25 #[cp c, cp r, .agg #[.int .i64 10, .int .i64 id, .int .i64 n, s]] w (Does B w0 c m r (t + 1) K) := by
  have hA := (h.alloc (.cells (Array.mk [.int .i64 10, .int .i64 id, .int .i64 n, s]) 44)).grown (below_drewN _ 1)
  have HP := hidden (ft_pair hA ht n)
  clear hA h
  go_enter Try.func25, Try.ntmps25
  go_wp2_with fail
  go_region_with (first | (go_at_call 16; refine HP.out.mono ?_; rintro e w1 ⟨x, rfl, hk, hm⟩; have c2 := box_cells hk 2 _ rfl; clear hk) | (go_at_call 14; refine hm.mono ?_; rintro e w2 ⟨y, rfl, hk, hm2⟩; have c3 := box_cells hk 2 _ rfl; clear hk) | (go_at_call 28; refine hm2.mono ?_; rintro e w3 ⟨rfl, hk, hm3⟩; have c4 := box_cells hk 2 _ rfl; clear hk) | (go_at_call 45; refine hm3.mono ?_; rintro e w4 ⟨rfl, hR⟩))
  all_goals go_wp2_with fail
  all_goals go_ret2
  all_goals exact ⟨⟨_, rfl⟩, hR.tail⟩
end
end Go.Proofs.Ytekgfdfganelmaa
