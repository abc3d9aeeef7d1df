/- What an act answers, of both controllers: the same; kind by kind. Condition: what AR says. -/
import Derived.Test.YtekgfdfganelmaaActsD
import Derived.Deep.RegionHeld3
namespace Go.Proofs.Ytekgfdfganelmaa
open Go.RowKit

section
variable {B : Nat} {w0 w : World} {c m r t : Nat} {K : List (Nat × Obj)}
set_option maxHeartbeats 4000000 in
theorem does3 (h : AR B w0 w c m r t K) (ht : t < 1000) (id n : Int) (s : Value) :
    Calls Try.prog 25 #[cp c, cp r, .agg #[.int .i64 3, .int .i64 id, .int .i64 n, s]] w (Does B w0 c m r (t + 1) K) := by
  have hA := (h.alloc (.cells (Array.mk [.int .i64 3, .int .i64 id, .int .i64 n, s]) 44)).grown (below_drewN _ 1)
  have HP : Hid (Calls Try.prog 22 #[cp c, .int .i64 id] (w.alloc (.cells (Array.mk [.int .i64 3, .int .i64 id, .int .i64 n, s]) 44)).drew (Half B w0 c m r (t + 1) ((w.heap.size, .cells (Array.mk [.int .i64 3, .int .i64 id, .int .i64 n, s]) 44) :: K) 40 #[cp r, .int .i64 id])) := unbind_pair hA ht id
  clear hA h
  have z1 : (w.alloc (.cells (Array.mk [.int .i64 3, .int .i64 id, .int .i64 n, s]) 44)).cell? ⟨w.heap.size, 1, none⟩ = some (.int .i64 id) := (Cells.new w 44 [.int .i64 3, .int .i64 id, .int .i64 n, s]).cell 1 _ rfl
  go_enter Try.func25, Try.ntmps25
  go_wp2_with fail
  go_region_held3 (fun w' => w'.cell? ⟨w.heap.size, 1, none⟩ = some (.int .i64 id))
    (first | exact z1 | exact c1 | exact f1)
    (first | (go_at_call 22; refine HP.out.mono ?_; rintro e w1 ⟨x, rfl, hk, hm⟩; have c1 := box_cells hk 1 _ rfl; clear hk; have hm0 := hm 0) | (go_at_call 40; refine hm0.mono ?_; rintro e w2 ⟨rfl, hR⟩; have f1 := box_cells hR.kept 1 _ rfl))
  all_goals go_wp2_with fail
  all_goals go_ret2
  all_goals exact ⟨⟨_, rfl⟩, hR.tail⟩
set_option maxHeartbeats 4000000 in
theorem does4 (h : AR B w0 w c m r t K) (ht : t < 1000) (id n : Int) (s : Value) :
    Calls Try.prog 25 #[cp c, cp r, .agg #[.int .i64 4, .int .i64 id, .int .i64 n, s]] w (Does B w0 c m r (t + 1) K) := by
  have hA := (h.alloc (.cells (Array.mk [.int .i64 4, .int .i64 id, .int .i64 n, s]) 44)).grown (below_drewN _ 1)
  have HP : Hid (Calls Try.prog 11 #[cp c, .int .i64 id, .int .i64 n] (w.alloc (.cells (Array.mk [.int .i64 4, .int .i64 id, .int .i64 n, s]) 44)).drew (Half B w0 c m r (t + 1) ((w.heap.size, .cells (Array.mk [.int .i64 4, .int .i64 id, .int .i64 n, s]) 44) :: K) 41 #[cp r, .int .i64 id, .int .i64 n])) := attach_pair hA ht id n
  clear hA h
  have z1 : (w.alloc (.cells (Array.mk [.int .i64 4, .int .i64 id, .int .i64 n, s]) 44)).cell? ⟨w.heap.size, 1, none⟩ = some (.int .i64 id) := (Cells.new w 44 [.int .i64 4, .int .i64 id, .int .i64 n, s]).cell 1 _ rfl
  have z2 : (w.alloc (.cells (Array.mk [.int .i64 4, .int .i64 id, .int .i64 n, s]) 44)).cell? ⟨w.heap.size, 2, none⟩ = some (.int .i64 n) := (Cells.new w 44 [.int .i64 4, .int .i64 id, .int .i64 n, s]).cell 2 _ rfl
  go_enter Try.func25, Try.ntmps25
  go_wp2_with fail
  go_region_held3 (fun w' => w'.cell? ⟨w.heap.size, 1, none⟩ = some (.int .i64 id) ∧ w'.cell? ⟨w.heap.size, 2, none⟩ = some (.int .i64 n))
    (first | exact ⟨z1, z2⟩ | exact ⟨c1, c2⟩ | exact ⟨f1, f2⟩)
    (first | (go_at_call 11; refine HP.out.mono ?_; rintro e w1 ⟨x, rfl, hk, hm⟩; have c1 := box_cells hk 1 _ rfl; have c2 := box_cells hk 2 _ rfl; clear hk; have hm0 := hm 0) | (go_at_call 41; refine hm0.mono ?_; rintro e w2 ⟨rfl, hR⟩; have f1 := box_cells hR.kept 1 _ rfl; have f2 := box_cells hR.kept 2 _ rfl))
  all_goals go_wp2_with fail
  all_goals go_ret2
  all_goals exact ⟨⟨_, rfl⟩, hR.tail⟩
set_option maxHeartbeats 4000000 in
theorem does7 (h : AR B w0 w c m r t K) (ht : t < 1000) (id n : Int) (s : Value) :
    Calls Try.prog 25 #[cp c, cp r, .agg #[.int .i64 7, .int .i64 id, .int .i64 n, s]] w (Does B w0 c m r (t + 1) K) := by
  have hA := (h.alloc (.cells (Array.mk [.int .i64 7, .int .i64 id, .int .i64 n, s]) 44)).grown (below_drewN _ 1)
  have HP : Hid (Calls Try.prog 19 #[cp c, .int .i64 n] (w.alloc (.cells (Array.mk [.int .i64 7, .int .i64 id, .int .i64 n, s]) 44)).drew (Half B w0 c m r (t + 1) ((w.heap.size, .cells (Array.mk [.int .i64 7, .int .i64 id, .int .i64 n, s]) 44) :: K) 43 #[cp r, .int .i64 n])) := raise_pair hA ht n
  clear hA h
  have z2 : (w.alloc (.cells (Array.mk [.int .i64 7, .int .i64 id, .int .i64 n, s]) 44)).cell? ⟨w.heap.size, 2, none⟩ = some (.int .i64 n) := (Cells.new w 44 [.int .i64 7, .int .i64 id, .int .i64 n, s]).cell 2 _ rfl
  go_enter Try.func25, Try.ntmps25
  go_wp2_with fail
  go_region_held3 (fun w' => w'.cell? ⟨w.heap.size, 2, none⟩ = some (.int .i64 n))
    (first | exact z2 | exact c2 | exact f2)
    (first | (go_at_call 19; refine HP.out.mono ?_; rintro e w1 ⟨x, rfl, hk, hm⟩; have c2 := box_cells hk 2 _ rfl; clear hk; have hm0 := hm 0) | (go_at_call 43; refine hm0.mono ?_; rintro e w2 ⟨rfl, hR⟩; have f2 := box_cells hR.kept 2 _ rfl))
  all_goals go_wp2_with fail
  all_goals go_ret2
  all_goals exact ⟨⟨_, rfl⟩, hR.tail⟩
end
end Go.Proofs.Ytekgfdfganelmaa
