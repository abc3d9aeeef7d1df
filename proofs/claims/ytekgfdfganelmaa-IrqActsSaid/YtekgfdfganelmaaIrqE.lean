/- Walks of the irq controller's functions: those that take ids out of the row. Conditions: the controller's blocks hold what Rep says. -/
import Derived.Test.YtekgfdfganelmaaIrqD
namespace Go.Proofs.Ytekgfdfganelmaa
open Go.RowKit

-- off
theorem ownsRow_deleted {w' : World} {g cap : Nat} {ys : List Int} {n : Nat} (hd : (∃ cs, Cells w' g 3 cs ∧ cs.length = cap ∧ cs.take ys.length = ys.map (Value.int .i64))) (hn : ys.length ≤ n) (hc : n ≤ cap) (hm : cap ≤ maxLen) :
    w'.ownsRow 0 3 1 (.slice (some ⟨g, 0, none⟩) ys.length cap) ys.length (ys.map (Value.int .i64)) := by
  obtain ⟨cs, h1, h2, h3⟩ := hd
  refine ⟨by simp, .inr ⟨g, cap, cs.toArray, rfl, Nat.zero_le _, h1, by omega, hm, by simpa using h2, by simpa using h3⟩⟩
set_option maxHeartbeats 400000 in
theorem delete_nil (id : Int) (b : Nat) (w : World) (h : w.cell? ⟨b, 0, none⟩ = some (.int .i64 id)) :
    Calls Try.prog 48 #[.slice none 0 0, pred b] w fun e w' => e = .returned (.slice none 0 0) ∧ w = w' := by
  have hix := index_nil id b w h
  unfold pred at hix ⊢
  go_enter Try.func48, Try.ntmps48
  go_wp2_with (go_at_call 54; refine hix.mono ?_; rintro e w' ⟨rfl, rfl⟩)
  go_ret
  exact ⟨rfl, rfl⟩
theorem flt_le (xs : List Int) (id : Int) : (flt xs id).length ≤ xs.length := List.length_filter_le _ _
set_option maxHeartbeats 1000000 in
theorem off_any {w : World} {c : Nat} {g : G} (h : Rep w c g) (id : Int) (hlen : g.row.length ≤ 1048576) :
    Calls Try.prog 32 #[.pointer (some ⟨c, 0, none⟩), .int .i64 id] w fun r w' => r = .returned (.tuple #[]) ∧ ∃ rv', Post c w g { g with row := flt g.row id, rv := rv' } w' := by
  have h17 := h.c17
  have hrow := h.row
  have hb := cell_of_one (w := w.alloc (.cells #[.int .i64 id] 3)) (b := w.heap.size) (v := .int .i64 id) (t := 3) (by show (w.heap.push _)[w.heap.size]? = _; simp)
  rcases hrow.2 with ⟨hrv, hn⟩ | ⟨gb, cap, cur, hrv, _, hgb, hnc, hcm, hcs, htake⟩
  · have hr0 : g.row = [] := List.eq_nil_of_length_eq_zero hn
    have hcall := delete_nil id w.heap.size (w.alloc (.cells #[.int .i64 id] 3)) hb
    rw [hrv] at h17
    have hf17 := h.f17 17
    have hpost : Post c w g { g with row := flt g.row id, rv := .slice none 0 0 } ((w.alloc (.cells #[.int .i64 id] 3)).setCell ⟨c, 17, none⟩ (.slice none 0 0)) := by
      refine Post.append h ?_ ⟨rfl, rfl, rfl, by simp, fun k hk _ => Below.heap_alloc _ _ _ hk⟩ (.inl (by rw [hrv]))
      rw [hr0]; exact World.ownsRow_nil _ _ _ _
    have hclt := h.ctl.lt
    rw [World.setCell_alloc_past _ _ _ _ hclt] at hpost
    have H : Hid (Post c w g { g with row := flt g.row id, rv := .slice none 0 0 } ((w.setCell ⟨c, 17, none⟩ (.slice none 0 0)).alloc (.cells #[.int .i64 id] 3))) := hpost
    unfold pred at hcall
    clear hpost h hrow hrv hr0 hn hb
    go_enter Try.func32, Try.ntmps32
    go_wp2_with (go_at_call 48; refine hcall.mono ?_; rintro e w' ⟨rfl, rfl⟩)
    go_end0
    exact ⟨rfl, _, H.out⟩
  · have hclt := h.ctl.lt
    have hglt : gb < w.heap.size := lt_of_block hgb
    have hcall := delete_some g.row id w.heap.size gb cap (w.alloc (.cells #[.int .i64 id] 3)) cur.toList hb (by omega) (Cells.alloc (by simpa [Cells] using hgb) _) hnc (by simpa using hcs) (by simpa using htake) hlen
    rw [hrv] at h17
    have hf17 := h.f17 17
    have H : Hid (∀ w', Deleted (w.alloc (.cells #[.int .i64 id] 3)) gb cap (flt g.row id) (.returned (.slice (some ⟨gb, 0, none⟩) (flt g.row id).length cap)) w' →
        Post c w g { g with row := flt g.row id, rv := .slice (some ⟨gb, 0, none⟩) (flt g.row id).length cap } (w'.setCell ⟨c, 17, none⟩ (.slice (some ⟨gb, 0, none⟩) (flt g.row id).length cap))) := by
      rintro w' ⟨_, hd, hg⟩
      refine Post.append h (ownsRow_deleted hd (flt_le _ _) hnc hcm) (by rw [hrv]; exact grown_alloc hg) (.inl (by rw [hrv]; rfl))
    have hcg : c ≠ gb := (h.rne (by rw [hrv]; rfl)).1
    unfold pred at hcall
    clear h hrow hrv hb hcs htake hgb
    go_enter Try.func32, Try.ntmps32
    go_wp2_with (go_at_call 48; refine hcall.mono ?_; rintro e w' hd; obtain ⟨rfl, hd1, hg⟩ := hd; have h17' : w'.cell? ⟨c, 17, none⟩ = some (.slice (some ⟨gb, 0, none⟩) g.row.length cap) := (grown_alloc hg).cell h17 (by simpa using hcg); have hf17' : w'.frozen? ⟨c, 17, none⟩ = false := (World.frozen?_of_block (w := w) ((grown_alloc hg).block c hclt (by simpa using hcg))).trans hf17)
    go_end0
    exact ⟨rfl, _, H.out _ ⟨rfl, hd1, hg⟩⟩

-- Take
set_option maxHeartbeats 400000 in
theorem take_none {w : World} {c : Nat} {g : G} (h : Rep w c g) {id : Int} (hf : find g.E id = none) :
    Calls Try.prog 14 #[.pointer (some ⟨c, 0, none⟩), .int .i64 id] w fun r w' => r = .returned (.int .i64 6) ∧ w = w' := by
  go_enter Try.func14, Try.ntmps14
  go_wp2_with (go_at_call 29; refine (at_none h hf).mono ?_; rintro e w' ⟨rfl, rfl⟩)
  go_ret
  exact ⟨rfl, rfl⟩
theorem rdy_call {w : World} {c : Nat} {g : G} (h : Rep w c g) {id : Int} {e : Ent} (hf : find g.E id = some e) :
    Calls Try.prog 31 #[.pointer (some ⟨e.b, 0, none⟩)] w fun r w' => r = .returned (.bool e.q.rdy) ∧ w = w' := by
  obtain ⟨k0, k1, k2, k3, k4, kf⟩ := irq_cells h hf
  exact ready_any k1 k2 k4
set_option maxHeartbeats 400000 in
theorem take_state {w : World} {c : Nat} {g : G} (h : Rep w c g) {id : Int} {e : Ent} (hf : find g.E id = some e) (hr : e.q.rdy = false) :
    Calls Try.prog 14 #[.pointer (some ⟨c, 0, none⟩), .int .i64 id] w fun r w' => r = .returned (.int .i64 12) ∧ w = w' := by
  have hcall := at_some h hf
  have hcall2 := rdy_call h hf
  rw [hr] at hcall2
  clear h hf hr
  go_enter Try.func14, Try.ntmps14
  go_wp2_with (first | (go_at_call 29; refine hcall.mono ?_; rintro e w' ⟨rfl, rfl⟩) | (go_at_call 31; refine hcall2.mono ?_; rintro e w' ⟨rfl, rfl⟩))
  go_ret
  exact ⟨rfl, rfl⟩
set_option maxHeartbeats 400000 in
theorem take_ok {w : World} {c : Nat} {g : G} (h : Rep w c g) {id : Int} {e : Ent} (hf : find g.E id = some e) (hr : e.q.rdy = true) (hlen : g.row.length ≤ 1048576) :
    Calls Try.prog 14 #[.pointer (some ⟨c, 0, none⟩), .int .i64 id] w fun r w' => r = .returned (.int .i64 0) ∧ ∃ rv', Post c w g { g with E := upd g.E id { e.q with pending := false }, row := flt g.row id, rv := rv' } w' := by
  have hcall := at_some h hf
  have hcall2 := rdy_call h hf
  rw [hr] at hcall2
  obtain ⟨_, _, _, _, k4, kf⟩ := irq_cells h hf
  have kf4 := kf 4
  have hp1 := Post.setIrq h hf 4 (.bool false) { e.q with pending := false } rfl
  have hoff := off_any hp1.1 id hlen
  have H : Hid (∀ w', (∃ rv', Post c (w.setCell ⟨e.b, 4, none⟩ (.bool false)) { g with E := upd g.E id { e.q with pending := false } } { g with E := upd g.E id { e.q with pending := false }, row := flt g.row id, rv := rv' } w') → ∃ rv', Post c w g { g with E := upd g.E id { e.q with pending := false }, row := flt g.row id, rv := rv' } w') :=
    fun w' ⟨rv, hp2⟩ => ⟨rv, hp1.trans hp2⟩
  clear h hf hr kf hp1
  go_enter Try.func14, Try.ntmps14
  go_wp2_with (first | (go_at_call 29; refine hcall.mono ?_; rintro e w' ⟨rfl, rfl⟩) | (go_at_call 31; refine hcall2.mono ?_; rintro e w' ⟨rfl, rfl⟩) | (go_at_call 32; refine hoff.mono ?_; rintro e w' ⟨rfl, hp⟩))
  go_ret
  exact ⟨rfl, H.out _ hp⟩

-- Raise
set_option maxHeartbeats 400000 in
theorem raise_none {w : World} {c : Nat} {g : G} (h : Rep w c g) (k : Nat) (hk : k < 16) (hl : g.lines[k]?.getD 0 = 0) :
    Calls Try.prog 19 #[.pointer (some ⟨c, 0, none⟩), .int .i64 k] w fun r w' => r = .returned (.int .i64 (-1)) ∧ w = w' := by
  have hln := h.line k hk
  rw [hl] at hln
  clear h hl
  go_enter Try.func19, Try.ntmps19
  go_wp2_with (go_at_call 35; refine (has_yes _ _ (by omega) (by omega)).mono ?_; rintro e w' ⟨rfl, rfl⟩)
  go_ret
  exact ⟨rfl, rfl⟩
set_option maxHeartbeats 400000 in
theorem raise_range {w : World} (c : Nat) (l : Int) (hl : l < 0 ∨ 16 ≤ l) :
    Calls Try.prog 19 #[.pointer (some ⟨c, 0, none⟩), .int .i64 l] w fun r w' => r = .returned (.int .i64 (-1)) ∧ w = w' := by
  go_enter Try.func19, Try.ntmps19
  go_wp2_with (go_at_call 35; refine (has_no _ _ hl).mono ?_; rintro e w' ⟨rfl, rfl⟩)
  go_ret
  exact ⟨rfl, rfl⟩
-- Raising a line that has an irq is triggering that.
set_option maxHeartbeats 400000 in
theorem raise_some {w : World} {c : Nat} {g : G} (h : Rep w c g) (k : Nat) (hk : k < 16) (id : Int) (hl : g.lines[k]?.getD 0 = id + 1) (hid : 0 ≤ id) (hid2 : id < 9223372036854775807) (x : Int) (Q : World → Prop)
    (ht : Calls Try.prog 12 #[.pointer (some ⟨c, 0, none⟩), .int .i64 id] w fun r w' => r = .returned (.int .i64 x) ∧ Q w') :
    Calls Try.prog 19 #[.pointer (some ⟨c, 0, none⟩), .int .i64 k] w fun r w' => r = .returned (.int .i64 id) ∧ Q w' := by
  have hln := h.line k hk
  rw [hl] at hln
  have h1 : (id + 1 == 0) = false := by simp; omega
  have hid3 : id + 1 - 1 = id := by omega
  have e1 : ¬ (id + 1 = 0) := by omega
  clear h hl
  go_enter Try.func19, Try.ntmps19
  go_wp2_with (first | (go_at_call 35; refine (has_yes _ _ (by omega) (by omega)).mono ?_; rintro e w' ⟨rfl, rfl⟩) | (go_at_call 12; refine ht.mono ?_; rintro e w' ⟨rfl, hq⟩))
  go_ret
  exact ⟨rfl, hq⟩
end Go.Proofs.Ytekgfdfganelmaa
