/- Walks of the irq controller's functions, on. Conditions: the controller's blocks hold what Rep says. -/
import Derived.Test.YtekgfdfganelmaaIrqB
import Derived.Test.YtekgfdfganelmaaDel
namespace Go.Proofs.Ytekgfdfganelmaa
open Go.RowKit

theorem Rep.line {w : World} {c : Nat} {g : G} (h : Rep w c g) (k : Nat) (hk : k < 16) : w.cell? ⟨c, 1 + k, none⟩ = some (.int .i64 (g.lines[k]?.getD 0)) := by
  refine h.ctl.cell _ _ ?_
  have : k < g.lines.length := by rw [h.len]; exact hk
  rw [Nat.add_comm, List.getElem?_cons_succ, List.getElem?_append_left (by simpa using this)]
  simp [this]

set_option maxHeartbeats 400000 in
theorem has_yes (n : Int) (w : World) (h0 : 0 ≤ n) (h1 : n < 16) :
    Calls Try.prog 35 #[.int .i64 n] w fun e w' => e = .returned (.bool true) ∧ w = w' := by
  go_enter Try.func35, Try.ntmps35
  go_wp2
  go_ret
  exact ⟨rfl, rfl⟩
set_option maxHeartbeats 400000 in
theorem has_no (n : Int) (w : World) (h0 : n < 0 ∨ 16 ≤ n) :
    Calls Try.prog 35 #[.int .i64 n] w fun e w' => e = .returned (.bool false) ∧ w = w' := by
  rcases h0 with h0 | h0
  · have h1 : ¬ (0 ≤ n) := by omega
    go_enter Try.func35, Try.ntmps35
    go_wp2
    go_ret
    exact ⟨rfl, rfl⟩
  · have h1 : 0 ≤ n := by omega
    have h2 : ¬ (n < 16) := by omega
    go_enter Try.func35, Try.ntmps35
    go_wp2
    go_ret
    exact ⟨rfl, rfl⟩
set_option maxHeartbeats 400000 in
theorem bound_any {w : World} {b : Nat} {n : Int} (h0 : w.cell? ⟨b, 0, none⟩ = some (.int .i64 n)) :
    Calls Try.prog 36 #[.pointer (some ⟨b, 0, none⟩)] w fun e w' => e = .returned (.bool (n != -1)) ∧ w = w' := by
  go_enter Try.func36, Try.ntmps36
  go_wp2
  go_ret
  exact ⟨rfl, rfl⟩
set_option maxHeartbeats 400000 in
theorem mask1_any {w : World} {b : Nat} {m on : Bool} (h0 : w.cell? ⟨b, 1, none⟩ = some (.bool m)) (hf : w.frozen? ⟨b, 1, none⟩ = false) :
    Calls Try.prog 30 #[.pointer (some ⟨b, 0, none⟩), .bool on] w fun e w' => e = .returned (.bool (m != on)) ∧ w' = w.setCell ⟨b, 1, none⟩ (.bool on) := by
  go_enter Try.func30, Try.ntmps30
  go_wp2
  go_ret
  exact ⟨rfl, rfl⟩
def Irq.rdy (q : Irq) : Bool := q.pending && !q.masked && q.thread != -1
set_option maxHeartbeats 400000 in
theorem ready_any {w : World} {b : Nat} {m p : Bool} {t : Int} (h1 : w.cell? ⟨b, 1, none⟩ = some (.bool m)) (h2 : w.cell? ⟨b, 2, none⟩ = some (.int .i64 t)) (h4 : w.cell? ⟨b, 4, none⟩ = some (.bool p)) :
    Calls Try.prog 31 #[.pointer (some ⟨b, 0, none⟩)] w fun e w' => e = .returned (.bool (p && !m && t != -1)) ∧ w = w' := by
  cases p <;> cases m
  all_goals
    go_enter Try.func31, Try.ntmps31
    go_wp2
    go_ret
    exact ⟨by simp, rfl⟩

-- New
def G.new (m : Nat) : G := ⟨m, [], List.replicate 16 0, [], .slice none 0 0⟩
theorem Rep.new (w : World) : Rep ((w.alloc (.map #[] 0)).alloc (.cells (Array.mk (.map (some w.heap.size) :: (List.replicate 16 (Value.int .i64 0) ++ [.slice none 0 0]))) 55)) (w.heap.size + 1) (G.new w.heap.size) where
  ctl := by
    have := Cells.new (w.alloc (.map #[] 0)) 55 (.map (some w.heap.size) :: (List.replicate 16 (Value.int .i64 0) ++ [.slice none 0 0]))
    rw [World.size_alloc] at this
    simpa [G.new] using this
  len := rfl
  map := MapIs.alloc (MapIs.new w) _
  irq := by simp [G.new]
  row := World.ownsRow_nil _ _ _ _
  nd := by simp [G.new]
  ids := by simp [G.new]
set_option maxHeartbeats 400000 in
theorem new_any (w : World) : Calls Try.prog 9 #[] w fun r w' => ∃ c m, r = .returned (.pointer (some ⟨c, 0, none⟩)) ∧ Rep w' c (G.new m) ∧ Chg (fun _ => False) w w' ∧ ∀ b, fp c (G.new m) b → w.heap.size ≤ b := by
  have hr := Rep.new w
  have hch : Chg (fun _ => False) w ((w.alloc (.map #[] 0)).alloc (.cells (Array.mk (.map (some w.heap.size) :: (List.replicate 16 (Value.int .i64 0) ++ [.slice none 0 0]))) 55)) := ((Chg.refl _ _).alloc _).alloc _
  have hmm := @run_makeMap Try.prog
  go_enter Try.func9, Try.ntmps9
  go_wp2
  go_ret
  refine ⟨w.heap.size + 1, w.heap.size, rfl, hr, hch, ?_⟩
  rintro b (rfl | rfl | hb | ⟨x, hx, rfl⟩)
  · omega
  · exact Nat.le_refl _
  · cases hb
  · simp [G.new] at hx

-- what is told of one
set_option maxHeartbeats 400000 in
theorem lost_some {w : World} {c : Nat} {g : G} (h : Rep w c g) {id : Int} {e : Ent} (hf : find g.E id = some e) :
    Calls Try.prog 15 #[.pointer (some ⟨c, 0, none⟩), .int .i64 id] w fun r w' => r = .returned (.int .i64 e.q.lost) ∧ w = w' := by
  obtain ⟨k0, k1, k2, k3, k4, kf⟩ := irq_cells h hf
  have hcall := at_some h hf
  clear h hf kf
  go_enter Try.func15, Try.ntmps15
  go_wp2_with (go_at_call 29; refine hcall.mono ?_; rintro e w' ⟨rfl, rfl⟩)
  go_ret
  exact ⟨rfl, rfl⟩
set_option maxHeartbeats 400000 in
theorem lost_none {w : World} {c : Nat} {g : G} (h : Rep w c g) {id : Int} (hf : find g.E id = none) :
    Calls Try.prog 15 #[.pointer (some ⟨c, 0, none⟩), .int .i64 id] w fun r w' => r = .returned (.int .i64 0) ∧ w = w' := by
  go_enter Try.func15, Try.ntmps15
  go_wp2_with (go_at_call 29; refine (at_none h hf).mono ?_; rintro e w' ⟨rfl, rfl⟩)
  go_ret
  exact ⟨rfl, rfl⟩
set_option maxHeartbeats 400000 in
theorem line_some {w : World} {c : Nat} {g : G} (h : Rep w c g) {id : Int} {e : Ent} (hf : find g.E id = some e) :
    Calls Try.prog 23 #[.pointer (some ⟨c, 0, none⟩), .int .i64 id] w fun r w' => r = .returned (.int .i64 e.q.line) ∧ w = w' := by
  obtain ⟨k0, k1, k2, k3, k4, kf⟩ := irq_cells h hf
  have hcall := at_some h hf
  clear h hf kf
  go_enter Try.func23, Try.ntmps23
  go_wp2_with (go_at_call 29; refine hcall.mono ?_; rintro e w' ⟨rfl, rfl⟩)
  go_ret
  exact ⟨rfl, rfl⟩
set_option maxHeartbeats 400000 in
theorem line_none {w : World} {c : Nat} {g : G} (h : Rep w c g) {id : Int} (hf : find g.E id = none) :
    Calls Try.prog 23 #[.pointer (some ⟨c, 0, none⟩), .int .i64 id] w fun r w' => r = .returned (.int .i64 (-1)) ∧ w = w' := by
  go_enter Try.func23, Try.ntmps23
  go_wp2_with (go_at_call 29; refine (at_none h hf).mono ?_; rintro e w' ⟨rfl, rfl⟩)
  go_ret
  exact ⟨rfl, rfl⟩
set_option maxHeartbeats 400000 in
theorem owner_some {w : World} {c : Nat} {g : G} (h : Rep w c g) {id : Int} {e : Ent} (hf : find g.E id = some e) :
    Calls Try.prog 24 #[.pointer (some ⟨c, 0, none⟩), .int .i64 id] w fun r w' => r = .returned (.int .i64 e.q.thread) ∧ w = w' := by
  obtain ⟨k0, k1, k2, k3, k4, kf⟩ := irq_cells h hf
  have hcall := at_some h hf
  clear h hf kf
  go_enter Try.func24, Try.ntmps24
  go_wp2_with (go_at_call 29; refine hcall.mono ?_; rintro e w' ⟨rfl, rfl⟩)
  go_ret
  exact ⟨rfl, rfl⟩
set_option maxHeartbeats 400000 in
theorem owner_none {w : World} {c : Nat} {g : G} (h : Rep w c g) {id : Int} (hf : find g.E id = none) :
    Calls Try.prog 24 #[.pointer (some ⟨c, 0, none⟩), .int .i64 id] w fun r w' => r = .returned (.int .i64 (-1)) ∧ w = w' := by
  go_enter Try.func24, Try.ntmps24
  go_wp2_with (go_at_call 29; refine (at_none h hf).mono ?_; rintro e w' ⟨rfl, rfl⟩)
  go_ret
  exact ⟨rfl, rfl⟩

-- Attach
set_option maxHeartbeats 400000 in
theorem attach_none {w : World} {c : Nat} {g : G} (h : Rep w c g) {id : Int} (hf : find g.E id = none) (t : Int) :
    Calls Try.prog 11 #[.pointer (some ⟨c, 0, none⟩), .int .i64 id, .int .i64 t] w fun r w' => r = .returned (.int .i64 6) ∧ w = w' := by
  go_enter Try.func11, Try.ntmps11
  go_wp2_with (go_at_call 29; refine (at_none h hf).mono ?_; rintro e w' ⟨rfl, rfl⟩)
  go_ret
  exact ⟨rfl, rfl⟩
set_option maxHeartbeats 400000 in
theorem attach_arg {w : World} {c : Nat} {g : G} (h : Rep w c g) {id : Int} {e : Ent} (hf : find g.E id = some e) (t : Int) (ht : t < -1) :
    Calls Try.prog 11 #[.pointer (some ⟨c, 0, none⟩), .int .i64 id, .int .i64 t] w fun r w' => r = .returned (.int .i64 1) ∧ w = w' := by
  go_enter Try.func11, Try.ntmps11
  go_wp2_with (go_at_call 29; refine (at_some h hf).mono ?_; rintro e w' ⟨rfl, rfl⟩)
  go_ret
  exact ⟨rfl, rfl⟩
set_option maxHeartbeats 400000 in
theorem attach_ok {w : World} {c : Nat} {g : G} (h : Rep w c g) {id : Int} {e : Ent} (hf : find g.E id = some e) (t : Int) (ht : -1 ≤ t) :
    Calls Try.prog 11 #[.pointer (some ⟨c, 0, none⟩), .int .i64 id, .int .i64 t] w fun r w' => r = .returned (.int .i64 0) ∧ Post c w g { g with E := upd g.E id { e.q with thread := t } } w' := by
  have hpost := Post.setIrq h hf 2 (.int .i64 t) { e.q with thread := t } rfl
  obtain ⟨k0, k1, k2, k3, k4, kf⟩ := irq_cells h hf
  have kf2 := kf 2
  have hcall := at_some h hf
  have ht2 : ¬ (t < -1) := by omega
  clear h hf kf
  go_enter Try.func11, Try.ntmps11
  go_wp2_with (go_at_call 29; refine hcall.mono ?_; rintro e w' ⟨rfl, rfl⟩)
  go_ret
  exact ⟨rfl, hpost⟩
end Go.Proofs.Ytekgfdfganelmaa
