/- What an act answers, of both controllers: the same; kind by kind. Condition: what AR says. -/
import Derived.Test.YtekgfdfganelmaaActsD
namespace Go.Proofs.Ytekgfdfganelmaa
open Go.RowKit

section
variable {B : Nat} {w0 w : World} {c m r t : Nat} {K : List (Nat × Obj)}
set_option maxHeartbeats 1000000 in
theorem does8 (h : AR B w0 w c m r t K) (ht : t < 1000) (id n : Int) (s : Value) :
    Calls Try.prog 25 #[cp c, cp r, .agg #[.int .i64 8, .int .i64 id, .int .i64 n, s]] w (Does B w0 c m r (t + 1) K) := by
  have hA := (h.alloc (.cells (Array.mk [.int .i64 8, .int .i64 id, .int .i64 n, s]) 44)).grown (below_drewN _ 1)
  have HP : Hid (Calls Try.prog 12 #[cp c, .int .i64 id] (w.alloc (.cells (Array.mk [.int .i64 8, .int .i64 id, .int .i64 n, s]) 44)).drew (Half B w0 c m r (t + 1) ((w.heap.size, .cells (Array.mk [.int .i64 8, .int .i64 id, .int .i64 n, s]) 44) :: K) 44 #[cp r, .int .i64 id])) := trigger_pair hA ht id
  clear hA h
  go_enter Try.func25, Try.ntmps25
  go_wp2_with fail
  go_region_with (first | (go_at_call 12; refine HP.out.mono ?_; rintro e w1 ⟨x, rfl, hk, hm⟩; have c1 := box_cells hk 1 _ rfl; clear hk; have hm0 := hm 0) | (go_at_call 44; refine hm0.mono ?_; rintro e w2 ⟨rfl, hR⟩))
  all_goals go_wp2_with fail
  all_goals go_ret2
  all_goals exact ⟨⟨_, rfl⟩, hR.tail⟩
set_option maxHeartbeats 1000000 in
theorem does9 (h : AR B w0 w c m r t K) (ht : t < 1000) (id n : Int) (s : Value) :
    Calls Try.prog 25 #[cp c, cp r, .agg #[.int .i64 9, .int .i64 id, .int .i64 n, s]] w (Does B w0 c m r (t + 1) K) := by
  have hA := (h.alloc (.cells (Array.mk [.int .i64 9, .int .i64 id, .int .i64 n, s]) 44)).grown (below_drewN _ 1)
  have HP : Hid (Calls Try.prog 14 #[cp c, .int .i64 id] (w.alloc (.cells (Array.mk [.int .i64 9, .int .i64 id, .int .i64 n, s]) 44)).drew (Half B w0 c m r (t + 1) ((w.heap.size, .cells (Array.mk [.int .i64 9, .int .i64 id, .int .i64 n, s]) 44) :: K) 45 #[cp r, .int .i64 id])) := take_pair hA ht id
  clear hA h
  go_enter Try.func25, Try.ntmps25
  go_wp2_with fail
  go_region_with (first | (go_at_call 14; refine HP.out.mono ?_; rintro e w1 ⟨x, rfl, hk, hm⟩; have c1 := box_cells hk 1 _ rfl; clear hk; have hm0 := hm 0) | (go_at_call 45; refine hm0.mono ?_; rintro e w2 ⟨rfl, hR⟩))
  all_goals go_wp2_with fail
  all_goals go_ret2
  all_goals exact ⟨⟨_, rfl⟩, hR.tail⟩
set_option maxHeartbeats 1000000 in
theorem does5 (h : AR B w0 w c m r t K) (ht : t < 1000) (hB : B ≤ w0.heap.size) (id n : Int) (la : Option Addr) (ln cap : Nat) (hln : ln ≤ 1048576) (z : Nat → Int) (hz : ∀ j, j < ln → ∃ gl gof, la = some ⟨gl, gof, none⟩ ∧ gl < B ∧ w0.cell? ⟨gl, gof + j, none⟩ = some (.int .i64 (z j))) :
    Calls Try.prog 25 #[cp c, cp r, .agg #[.int .i64 5, .int .i64 id, .int .i64 n, .slice la ln cap]] w (Does B w0 c m r (t + 1) K) := by
  have hA := (h.alloc (.cells (Array.mk [.int .i64 5, .int .i64 id, .int .i64 n, .slice la ln cap]) 44)).grown (below_drewN _ 1)
  have HP : Hid (Calls Try.prog 13 #[cp c, .bool true, .slice la ln cap] (w.alloc (.cells (Array.mk [.int .i64 5, .int .i64 id, .int .i64 n, .slice la ln cap]) 44)).drew (Half B w0 c m r (t + 1) ((w.heap.size, .cells (Array.mk [.int .i64 5, .int .i64 id, .int .i64 n, .slice la ln cap]) 44) :: K) 42 #[cp r, .bool true, .slice la ln cap])) := mask_pair hA ht hB true la ln cap hln z hz
  clear hA h hB hln hz
  go_enter Try.func25, Try.ntmps25
  go_wp2_with fail
  go_region_with (first | (go_at_call 13; refine HP.out.mono ?_; rintro e w1 ⟨x, rfl, hk, hm⟩; have c3 := box_cells hk 3 _ rfl; clear hk; have hm0 := hm 0) | (go_at_call 42; refine hm0.mono ?_; rintro e w2 ⟨rfl, hR⟩))
  all_goals go_wp2_with fail
  all_goals go_ret2
  all_goals exact ⟨⟨_, rfl⟩, hR.tail⟩
end
end Go.Proofs.Ytekgfdfganelmaa
