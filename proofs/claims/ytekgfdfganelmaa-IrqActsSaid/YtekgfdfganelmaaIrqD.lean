/- Walks of the irq controller's functions: those that write. Conditions: the controller's blocks hold what Rep says. -/
import Derived.Test.YtekgfdfganelmaaIrqC
namespace Go.Proofs.Ytekgfdfganelmaa
open Go.RowKit

-- Add
set_option maxHeartbeats 400000 in
theorem add_arg {w : World} {c : Nat} {g : G} (h : Rep w c g) {id : Int} (hid : id < 0) :
    Calls Try.prog 10 #[.pointer (some ⟨c, 0, none⟩), .int .i64 id] w fun r w' => r = .returned (.int .i64 1) ∧ w = w' := by
  cases hf : find g.E id with
  | none =>
    have hcall := at_none h hf
    clear hf h
    go_enter Try.func10, Try.ntmps10
    go_wp2_with (go_at_call 29; refine hcall.mono ?_; rintro e w' ⟨rfl, rfl⟩)
    go_ret
    exact ⟨rfl, rfl⟩
  | some e =>
    have hcall := at_some h hf
    clear hf h
    go_enter Try.func10, Try.ntmps10
    go_wp2_with (go_at_call 29; refine hcall.mono ?_; rintro e w' ⟨rfl, rfl⟩)
    go_ret
    exact ⟨rfl, rfl⟩
set_option maxHeartbeats 400000 in
theorem add_twice {w : World} {c : Nat} {g : G} (h : Rep w c g) {id : Int} (hid : 0 ≤ id) {e : Ent} (hf : find g.E id = some e) :
    Calls Try.prog 10 #[.pointer (some ⟨c, 0, none⟩), .int .i64 id] w fun r w' => r = .returned (.int .i64 7) ∧ w = w' := by
  have hcall := at_some h hf
  have hid2 : ¬ (id < 0) := by omega
  clear hf h
  go_enter Try.func10, Try.ntmps10
  go_wp2_with (go_at_call 29; refine hcall.mono ?_; rintro e w' ⟨rfl, rfl⟩)
  go_ret
  exact ⟨rfl, rfl⟩
def Irq.fresh : Irq := ⟨-1, false, -1, 0, false⟩
theorem Post.add {w w' : World} {c : Nat} {g : G} (h : Rep w c g) {id : Int} (hf : find g.E id = none) (hm : MapInt w' g.m (put (kvs g.E) id (ptr w.heap.size)))
    (hg : (w.alloc (.cells (Array.mk Irq.fresh.cells) 62)).grownBy w' (some g.m)) : Post c w g { g with E := g.E ++ [⟨id, w.heap.size, .fresh⟩] } w' := by
  have hn : Cells (w.alloc (.cells (Array.mk Irq.fresh.cells) 62)) w.heap.size 62 Irq.fresh.cells := Cells.new w 62 _
  have hmlt := MapIs.lt h.map
  have hblk : ∀ k, k < w.heap.size → k ≠ g.m → w'.heap[k]? = w.heap[k]? := fun k hk hne =>
    (hg.block k (by simp; omega) (by simpa using hne)).trans (Below.heap_alloc _ _ _ hk)
  have hsz := hg.size
  rw [World.size_alloc] at hsz
  refine ⟨⟨h.ctl.same (hblk c h.ctl.lt h.mne.1), h.len, ?_, ?_, ownsRow_same h.row fun b hb => hblk b (h.lt (.inr (.inr (.inl hb)))) (h.mne.2.2 b hb), ?_, ?_⟩, ?_, ?_⟩
  · show MapInt w' g.m (kvs (g.E ++ _))
    rw [← put_kvs g.E id w.heap.size .fresh hf]; exact hm
  · intro e he
    rcases List.mem_append.1 he with he | he
    · exact (h.irq e he).same (hblk _ (h.irq e he).lt (h.mne.2.1 e he))
    · simp only [List.mem_singleton] at he; subst he
      exact hn.same (hg.block _ (by simp) (by simp; omega))
  · refine List.pairwise_append.2 ⟨h.nd, by simp, fun a ha b hb => ?_⟩
    simp only [List.mem_singleton] at hb; subst hb
    have := (h.irq a ha).lt
    show a.b ≠ w.heap.size
    omega
  · refine List.pairwise_append.2 ⟨h.ids, by simp, fun a ha b hb => ?_⟩
    simp only [List.mem_singleton] at hb; subst hb
    exact find_none hf a ha
  · exact ⟨hg.os, hg.tape, hg.output, by omega, fun k hk hne => hblk k hk (fun e => hne (.inr (.inl e)))⟩
  · rintro b (rfl | rfl | hb | ⟨x, hx, rfl⟩)
    · exact .inl (.inl rfl)
    · exact .inl (.inr (.inl rfl))
    · exact .inl (.inr (.inr (.inl hb)))
    · rcases List.mem_append.1 hx with hx | hx
      · exact .inl (.inr (.inr (.inr ⟨x, hx, rfl⟩)))
      · simp only [List.mem_singleton] at hx; subst hx; exact .inr (Nat.le_refl _)
set_option maxHeartbeats 400000 in
theorem add_ok {w : World} {c : Nat} {g : G} (h : Rep w c g) {id : Int} (hid : 0 ≤ id) (hf : find g.E id = none) :
    Calls Try.prog 10 #[.pointer (some ⟨c, 0, none⟩), .int .i64 id] w fun r w' => r = .returned (.int .i64 0) ∧ ∃ b, Post c w g { g with E := g.E ++ [⟨id, b, .fresh⟩] } w' := by
  have hcall := at_none h hf
  have hid2 : ¬ (id < 0) := by omega
  have h0 := h.c0
  have hmap := MapIs.alloc h.map (.cells (Array.mk Irq.fresh.cells) 62)
  have H : Hid (∀ w', MapInt w' g.m (put (kvs g.E) id (ptr w.heap.size)) → (w.alloc (.cells (Array.mk Irq.fresh.cells) 62)).grownBy w' (some g.m) → ∃ b, Post c w g { g with E := g.E ++ [⟨id, b, .fresh⟩] } w') := fun w' hm hg => ⟨_, Post.add h hf hm hg⟩
  clear hf h
  go_enter Try.func10, Try.ntmps10
  go_wp2_with (first | (refine wpList_mapUpdate_int _ rfl _ _ _ 52 3 56 rfl Try.underlying52 Try.underlying3 g.m (kvs g.E) hmap id _ rfl rfl rfl ?_; intro w2 hm2 hg2) | (go_at_call 29; refine hcall.mono ?_; rintro e w' ⟨rfl, rfl⟩))
  go_ret
  exact ⟨rfl, H.out _ hm2 hg2⟩

-- Bind
def wr64 (x : Int) : Int := IntKind.i64.wrap x
set_option maxHeartbeats 400000 in
theorem bind_none {w : World} {c : Nat} {g : G} (h : Rep w c g) {id : Int} (hf : find g.E id = none) (l : Int) :
    Calls Try.prog 18 #[.pointer (some ⟨c, 0, none⟩), .int .i64 id, .int .i64 l] w fun r w' => r = .returned (.int .i64 6) ∧ w = w' := by
  go_enter Try.func18, Try.ntmps18
  go_wp2_with (go_at_call 29; refine (at_none h hf).mono ?_; rintro e w' ⟨rfl, rfl⟩)
  go_ret
  exact ⟨rfl, rfl⟩
set_option maxHeartbeats 400000 in
theorem bind_range {w : World} {c : Nat} {g : G} (h : Rep w c g) {id : Int} {e : Ent} (hf : find g.E id = some e) (l : Int) (hl : l < 0 ∨ 16 ≤ l) :
    Calls Try.prog 18 #[.pointer (some ⟨c, 0, none⟩), .int .i64 id, .int .i64 l] w fun r w' => r = .returned (.int .i64 2) ∧ w = w' := by
  have hcall := at_some h hf
  clear h hf
  go_enter Try.func18, Try.ntmps18
  go_wp2_with (first | (go_at_call 29; refine hcall.mono ?_; rintro e w' ⟨rfl, rfl⟩) | (go_at_call 35; refine (has_no _ _ hl).mono ?_; rintro e w' ⟨rfl, rfl⟩))
  go_ret
  exact ⟨rfl, rfl⟩
set_option maxHeartbeats 400000 in
theorem bind_state {w : World} {c : Nat} {g : G} (h : Rep w c g) {id : Int} {e : Ent} (hf : find g.E id = some e) (l : Int) (hl : 0 ≤ l) (hl2 : l < 16) (hb : e.q.line ≠ -1) :
    Calls Try.prog 18 #[.pointer (some ⟨c, 0, none⟩), .int .i64 id, .int .i64 l] w fun r w' => r = .returned (.int .i64 12) ∧ w = w' := by
  have hcall := at_some h hf
  obtain ⟨k0, _⟩ := irq_cells h hf
  have hb2 : (e.q.line != -1) = true := by simpa using hb
  clear h hf hb
  go_enter Try.func18, Try.ntmps18
  go_wp2_with (first | (go_at_call 29; refine hcall.mono ?_; rintro e w' ⟨rfl, rfl⟩) | (go_at_call 35; refine (has_yes _ _ hl hl2).mono ?_; rintro e w' ⟨rfl, rfl⟩) | (go_at_call 36; refine (bound_any k0).mono ?_; rintro e w' ⟨rfl, rfl⟩))
  go_ret
  exact ⟨rfl, rfl⟩
set_option maxHeartbeats 400000 in
theorem bind_twice {w : World} {c : Nat} {g : G} (h : Rep w c g) {id : Int} {e : Ent} (hf : find g.E id = some e) (k : Nat) (hk : k < 16) (hb : e.q.line = -1) (hl : g.lines[k]?.getD 0 ≠ 0) :
    Calls Try.prog 18 #[.pointer (some ⟨c, 0, none⟩), .int .i64 id, .int .i64 k] w fun r w' => r = .returned (.int .i64 7) ∧ w = w' := by
  have hcall := at_some h hf
  obtain ⟨k0, _⟩ := irq_cells h hf
  have hln := h.line k hk
  generalize g.lines[k]?.getD 0 = x at hln hl
  have hx : (x != 0) = true := by simpa using hl
  rw [hb] at k0
  clear h hf hb hl
  go_enter Try.func18, Try.ntmps18
  go_wp2_with (first | (go_at_call 29; refine hcall.mono ?_; rintro e w' ⟨rfl, rfl⟩) | (go_at_call 35; refine (has_yes _ _ (by omega) (by omega)).mono ?_; rintro e w' ⟨rfl, rfl⟩) | (go_at_call 36; refine (bound_any k0).mono ?_; rintro e w' ⟨rfl, rfl⟩))
  go_ret
  exact ⟨rfl, rfl⟩
theorem Post.setLine {w : World} {c : Nat} {g : G} (h : Rep w c g) (k : Nat) (x : Int) (hk : k < 16) : Post c w g { g with lines := g.lines.set k x } (w.setCell ⟨c, 1 + k, none⟩ (.int .i64 x)) := by
  rw [Nat.add_comm]
  exact ⟨h.setLine k x hk, (Chg.refl _ _).set _ _ (.inl (.inl rfl)), fun b hb => .inl hb⟩
theorem Post.drew {w w' : World} {c : Nat} {g g' : G} (h : Post c w g g' w') : Post c w g g' w'.drew := ⟨h.1.drew, h.2.1.drew, h.2.2⟩
set_option maxHeartbeats 400000 in
theorem bind_ok {w : World} {c : Nat} {g : G} (h : Rep w c g) {id : Int} {e : Ent} (hf : find g.E id = some e) (k : Nat) (hk : k < 16) (hb : e.q.line = -1) (hl : g.lines[k]?.getD 0 = 0) (hid : 0 ≤ id) (hid2 : id < 9223372036854775807) :
    Calls Try.prog 18 #[.pointer (some ⟨c, 0, none⟩), .int .i64 id, .int .i64 k] w fun r w' => r = .returned (.int .i64 0) ∧ Post c w g { g with E := upd g.E id { e.q with line := k }, lines := g.lines.set k (id + 1) } w' := by
  have hcall := at_some h hf
  obtain ⟨k0, _, _, _, _, kf⟩ := irq_cells h hf
  have kf0 := kf 0
  have hln := h.line k hk
  have hp1 := Post.setIrq h hf 0 (.int .i64 k) { e.q with line := k } rfl
  have hp2 := hp1.trans (Post.setLine hp1.1 k (id + 1) hk)
  have hcf := hp1.1.f17 (1 + k)
  have hln2 := hp1.1.line k hk
  rw [hl] at hln
  simp only [hl] at hln2
  rw [hb] at k0
  have hid3 : id < 9223372036854775807 := hid2
  clear h hf hb hl kf hp1
  go_enter Try.func18, Try.ntmps18
  go_wp2_with (first | (go_at_call 29; refine hcall.mono ?_; rintro e w' ⟨rfl, rfl⟩) | (go_at_call 35; refine (has_yes _ _ (by omega) (by omega)).mono ?_; rintro e w' ⟨rfl, rfl⟩) | (go_at_call 36; refine (bound_any k0).mono ?_; rintro e w' ⟨rfl, rfl⟩))
  go_ret
  exact ⟨rfl, hp2⟩
end Go.Proofs.Ytekgfdfganelmaa
