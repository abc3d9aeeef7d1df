/- One contract a method, while one irq is counted, whatever comes of the call. Conditions: what CI says of the controller. -/
import Derived.Test.YtekgfdfganelmaaCountP
namespace Go.Proofs.Ytekgfdfganelmaa
open Go.RowKit

/-- The controller, with the counts, some while into the acts. -/
def CR (B : Nat) (w0 wr : World) (c m : Nat) (k came went : Int) : Prop := ∃ E L row rv ek, In B w0 wr c ⟨m, E, L, row, rv⟩ ∧ CI E L row k came went ek
def Keeps (B : Nat) (w0 : World) (c m : Nat) (k came went : Int) (e : Ending) (w' : World) : Prop := ∃ r, e = .returned (.int .i64 r) ∧ CR B w0 w' c m k came went

section
variable {B : Nat} {w0 wr : World} {c m : Nat} {k came went : Int}
theorem CR.le (h : CR B w0 wr c m k came went) : B ≤ wr.heap.size := by obtain ⟨E, L, row, rv, ek, hin, _⟩ := h; exact hin.le
theorem CR.bel (h : CR B w0 wr c m k came went) : Below B w0 wr := by obtain ⟨E, L, row, rv, ek, hin, _⟩ := h; exact hin.bel
theorem CR.wpos (h : CR B w0 wr c m k came went) : 0 ≤ went ∧ went ≤ came := by
  obtain ⟨E, L, row, rv, ek, hin, hc⟩ := h
  have h1 := hc.sum; have h2 := hc.lost; have h3 := hc.wpos
  have h4 : 0 ≤ one ek.q.pending := by unfold one; split <;> omega
  omega
theorem CR.grown (h : CR B w0 wr c m k came went) {w' : World} (hb : Below wr.heap.size wr w') : CR B w0 w' c m k came went := by
  obtain ⟨E, L, row, rv, ek, hin, hc⟩ := h
  exact ⟨E, L, row, rv, ek, hin.grown hb, hc⟩
theorem rowOf_len (k : Int) (b : Bool) : (rowOf k b).length ≤ 1 := by unfold rowOf; split <;> simp

theorem add_keeps (h : CR B w0 wr c m k came went) (id : Int) : Calls Try.prog 10 #[.pointer (some ⟨c, 0, none⟩), .int .i64 id] wr (Keeps B w0 c m k came went) := by
  obtain ⟨E, L, row, rv, ek, hin, hc⟩ := h
  by_cases hid : id < 0
  · exact (add_arg hin.rep hid).mono fun e w' ⟨he, hw⟩ => ⟨_, he, hw ▸ ⟨E, L, row, rv, ek, hin, hc⟩⟩
  · cases hf : find E id with
    | some e => exact (add_twice hin.rep (by omega) hf).mono fun e w' ⟨he, hw⟩ => ⟨_, he, hw ▸ ⟨E, L, row, rv, ek, hin, hc⟩⟩
    | none => exact (add_ok hin.rep (by omega) hf).mono fun e w' ⟨he, b, hp⟩ => ⟨_, he, _, L, row, rv, ek, hin.post hp, hc.add hf b⟩
theorem remove_keeps (h : CR B w0 wr c m k came went) (id : Int) (hne : id ≠ k) : Calls Try.prog 21 #[.pointer (some ⟨c, 0, none⟩), .int .i64 id] wr (Keeps B w0 c m k came went) := by
  obtain ⟨E, L, row, rv, ek, hin, hc⟩ := h
  cases hf : find E id with
  | none => exact (remove_none hin.rep hf).mono fun e w' ⟨he, hw⟩ => ⟨_, he, hw ▸ ⟨E, L, row, rv, ek, hin, hc⟩⟩
  | some x =>
    have hm := find_mem hf
    refine (remove_free hin.rep hf (hc.others x hm.1 (by rw [hm.2]; exact hne)) (by show row.length ≤ _; rw [hc.row]; have := rowOf_len k ek.q.pending; omega)).mono fun e w' ⟨he, rv', hp⟩ => ⟨_, he, _, _, _, rv', ek, hin.post hp, hc.remove hin.rep.ids hne⟩
theorem bind_keeps (h : CR B w0 wr c m k came went) (hk : 0 ≤ k) (hk2 : k < 1000) (l : Int) : Calls Try.prog 18 #[.pointer (some ⟨c, 0, none⟩), .int .i64 k, .int .i64 l] wr (Keeps B w0 c m k came went) := by
  obtain ⟨E, L, row, rv, ek, hin, hc⟩ := h
  by_cases hl : l < 0 ∨ 16 ≤ l
  · exact (bind_range hin.rep hc.fk l hl).mono fun e w' ⟨he, hw⟩ => ⟨_, he, hw ▸ ⟨E, L, row, rv, ek, hin, hc⟩⟩
  · by_cases hb : ek.q.line = -1
    · obtain ⟨p, rfl⟩ := Int.eq_ofNat_of_zero_le (show 0 ≤ l by omega)
      have hp : p < 16 := by omega
      have h0 : L[p]?.getD 0 = 0 := by
        rcases hc.lines p hp with h | ⟨_, h⟩
        · exact h
        · rw [hb] at h; omega
      refine (bind_ok hin.rep hc.fk p hp hb h0 hk (by omega)).mono fun e w' ⟨he, hps⟩ => ⟨_, he, _, _, row, rv, _, hin.post hps, hc.turn { ek.q with line := p } hc.row (.inr ⟨p, hp, rfl, ?_⟩) ?_ hc.lost hc.sum hc.wpos⟩
      · have : p < L.length := by rw [show L.length = 16 from hin.rep.len]; exact hp
        simp [this]
      · intro j hj
        by_cases e : p = j
        · subst e
          right
          refine ⟨?_, rfl⟩
          have : p < L.length := by rw [show L.length = 16 from hin.rep.len]; exact hp
          simp [this]
        · left
          rw [List.getElem?_set_ne e]
          rcases hc.lines j hj with h | ⟨_, h⟩
          · exact h
          · rw [hb] at h; omega
    · exact (bind_state hin.rep hc.fk l (by omega) (by omega) hb).mono fun e w' ⟨he, hw⟩ => ⟨_, he, hw ▸ ⟨E, L, row, rv, ek, hin, hc⟩⟩
theorem unbind_keeps (h : CR B w0 wr c m k came went) : Calls Try.prog 22 #[.pointer (some ⟨c, 0, none⟩), .int .i64 k] wr (Keeps B w0 c m k came went) := by
  obtain ⟨E, L, row, rv, ek, hin, hc⟩ := h
  rcases hc.line with hb | ⟨p, hp, hb, hLp⟩
  · exact (unbind_state hin.rep hc.fk hb).mono fun e w' ⟨he, hw⟩ => ⟨_, he, hw ▸ ⟨E, L, row, rv, ek, hin, hc⟩⟩
  · refine (unbind_ok hin.rep hc.fk p hp hb).mono fun e w' ⟨he, hps⟩ => ⟨_, he, _, _, row, rv, _, hin.post hps, hc.turn { ek.q with line := -1 } hc.row (.inl rfl) ?_ hc.lost hc.sum hc.wpos⟩
    intro j hj
    left
    by_cases e : p = j
    · subst e
      have : p < L.length := by rw [show L.length = 16 from hin.rep.len]; exact hp
      simp [this]
    · rw [List.getElem?_set_ne e]
      rcases hc.lines j hj with h | ⟨_, h⟩
      · exact h
      · rw [hb] at h; omega
theorem attach_keeps (h : CR B w0 wr c m k came went) (t : Int) : Calls Try.prog 11 #[.pointer (some ⟨c, 0, none⟩), .int .i64 k, .int .i64 t] wr (Keeps B w0 c m k came went) := by
  obtain ⟨E, L, row, rv, ek, hin, hc⟩ := h
  by_cases ht : t < -1
  · exact (attach_arg hin.rep hc.fk t ht).mono fun e w' ⟨he, hw⟩ => ⟨_, he, hw ▸ ⟨E, L, row, rv, ek, hin, hc⟩⟩
  · exact (attach_ok hin.rep hc.fk t (by omega)).mono fun e w' ⟨he, hps⟩ => ⟨_, he, _, _, row, rv, _, hin.post hps, hc.turn { ek.q with thread := t } hc.row hc.line hc.lines hc.lost hc.sum hc.wpos⟩
theorem trigger_keeps (h : CR B w0 wr c m k came went) (hc0 : came < 4611686018427387904) : Calls Try.prog 12 #[.pointer (some ⟨c, 0, none⟩), .int .i64 k] wr fun e w' => e = .returned (.int .i64 0) ∧ CR B w0 w' c m k (came + 1) went := by
  have hw := h.wpos
  obtain ⟨E, L, row, rv, ek, hin, hc⟩ := h
  have hsum := hc.sum
  have hl0 := hc.lost
  cases hpd : ek.q.pending with
  | true =>
    rw [hpd] at hsum
    have hone : one true = 1 := rfl
    refine (trigger_lost hin.rep hc.fk hpd hl0 (by omega)).mono fun e w' ⟨he, hps⟩ => ⟨he, _, _, row, rv, _, hin.post hps, hc.turn { ek.q with lost := ek.q.lost + 1 } hc.row hc.line hc.lines (by show 0 ≤ ek.q.lost + 1; omega) (by show came + 1 = went + (ek.q.lost + 1) + one ek.q.pending; rw [hpd]; omega) hc.wpos⟩
  | false =>
    rw [hpd] at hsum
    have hone : one false = 0 := rfl
    have hone2 : one true = 1 := rfl
    have hrow : row = [] := by rw [hc.row, hpd]; rfl
    refine (trigger_new hin.rep hc.fk hpd (by show row.length < _; rw [hrow]; simp)).mono fun e w' ⟨he, rv', hps⟩ => ⟨he, _, _, row ++ [k], rv', _, hin.post hps, hc.turn { ek.q with pending := true } (by rw [hrow]; rfl) hc.line hc.lines hl0 (by show came + 1 = went + ek.q.lost + one true; omega) hc.wpos⟩
def Raised (B : Nat) (w0 : World) (c m : Nat) (k came went : Int) (e : Ending) (w' : World) : Prop :=
  (∃ r : Int, r ≠ k ∧ e = .returned (.int .i64 r) ∧ CR B w0 w' c m k came went) ∨ (e = .returned (.int .i64 k) ∧ CR B w0 w' c m k (came + 1) went)
theorem raise_keeps (h : CR B w0 wr c m k came went) (hk : 0 ≤ k) (hk2 : k < 1000) (hc0 : came < 4611686018427387904) (l : Int) : Calls Try.prog 19 #[.pointer (some ⟨c, 0, none⟩), .int .i64 l] wr (Raised B w0 c m k came went) := by
  have ht := trigger_keeps h hc0
  obtain ⟨E, L, row, rv, ek, hin, hc⟩ := h
  by_cases hl : l < 0 ∨ 16 ≤ l
  · exact (raise_range c l hl).mono fun e w' ⟨he, hw⟩ => .inl ⟨-1, by omega, he, hw ▸ ⟨E, L, row, rv, ek, hin, hc⟩⟩
  · obtain ⟨p, rfl⟩ := Int.eq_ofNat_of_zero_le (show 0 ≤ l by omega)
    have hp : p < 16 := by omega
    rcases hc.lines p hp with h0 | ⟨h1, _⟩
    · exact (raise_none hin.rep p hp h0).mono fun e w' ⟨he, hw⟩ => .inl ⟨-1, by omega, he, hw ▸ ⟨E, L, row, rv, ek, hin, hc⟩⟩
    · exact (raise_some hin.rep p hp k h1 hk (by omega) 0 _ ht).mono fun e w' ⟨he, hr⟩ => .inr ⟨he, hr⟩
def Took (B : Nat) (w0 : World) (c m : Nat) (k came went : Int) (e : Ending) (w' : World) : Prop :=
  (e = .returned (.int .i64 12) ∧ CR B w0 w' c m k came went) ∨ (e = .returned (.int .i64 0) ∧ CR B w0 w' c m k came (went + 1))
theorem take_keeps (h : CR B w0 wr c m k came went) : Calls Try.prog 14 #[.pointer (some ⟨c, 0, none⟩), .int .i64 k] wr (Took B w0 c m k came went) := by
  obtain ⟨E, L, row, rv, ek, hin, hc⟩ := h
  cases hr : ek.q.rdy with
  | false => exact (take_state hin.rep hc.fk hr).mono fun e w' ⟨he, hw⟩ => .inl ⟨he, hw ▸ ⟨E, L, row, rv, ek, hin, hc⟩⟩
  | true =>
    have hpd : ek.q.pending = true := by
      unfold Irq.rdy at hr
      cases hp : ek.q.pending with
      | true => rfl
      | false => rw [hp] at hr; simp at hr
    have hsum := hc.sum
    rw [hpd] at hsum
    have hone : one true = 1 := rfl
    have hone0 : one false = 0 := rfl
    have hw := hc.wpos
    have hrow : row = [k] := by rw [hc.row, hpd]; rfl
    refine (take_ok hin.rep hc.fk hr (by show row.length ≤ _; rw [hrow]; simp)).mono fun e w' ⟨he, rv', hps⟩ => .inr ⟨he, _, _, flt row k, rv', _, hin.post hps, hc.turn { ek.q with pending := false } (by rw [hrow]; simp [flt, rowOf]) hc.line hc.lines hc.lost (by show came = went + 1 + ek.q.lost + one false; omega) (by omega)⟩
set_option maxHeartbeats 400000 in
theorem mask_zero (w : World) (c : Nat) (on : Bool) (la : Option Addr) (cap : Nat) : Calls Try.prog 13 #[.pointer (some ⟨c, 0, none⟩), .bool on, .slice la 0 cap] w fun e w' => e = .returned (.int .i64 0) ∧ w = w' := by
  go_enter Try.func13, Try.ntmps13
  go_wp2_with fail
  go_loop [7, 14] (fun n i => n = .int .i64 0 ∧ i = .int .i64 0) (fun _ _ => 0)
  case atStart => exact ⟨rfl, rfl⟩
  case round =>
    obtain ⟨rfl, rfl⟩ := hrel
    go_wp2_with fail
    go_ret
    exact ⟨rfl, rfl⟩
theorem mask_keeps (h : CR B w0 wr c m k came went) (hB : B ≤ w0.heap.size) (on : Bool) (la : Option Addr) (ln cap : Nat) (hln : ln ≤ 1048576) (z : Nat → Int) (hz : ∀ j, j < ln → ∃ gl gof, la = some ⟨gl, gof, none⟩ ∧ gl < B ∧ w0.cell? ⟨gl, gof + j, none⟩ = some (.int .i64 (z j))) :
    Calls Try.prog 13 #[.pointer (some ⟨c, 0, none⟩), .bool on, .slice la ln cap] wr (Keeps B w0 c m k came went) := by
  by_cases h0 : ln = 0
  · subst h0
    exact (mask_zero wr c on la cap).mono fun e w' ⟨he, hw⟩ => ⟨_, he, hw ▸ h⟩
  · obtain ⟨gl, gof, rfl, hgl, _⟩ := hz 0 (by omega)
    obtain ⟨E, L, row, rv, ek, hin, hc⟩ := h
    have hll : ((List.range ln).map z).length = ln := by simp
    have := mask_any hin.rep on ((List.range ln).map z) gl gof cap (by
      intro j hj
      rw [hll] at hj
      obtain ⟨gl', gof', he, _, hcell⟩ := hz j hj
      cases he
      rw [(hin.bel.cell (p := ⟨gl, gof + j, none⟩) hgl).trans hcell]
      simp [hj]) (by have := hin.le; omega) (fun hf => by have := hin.own gl hf; omega) (by rw [hll]; exact hln)
    rw [hll] at this
    refine this.mono fun e w' ⟨he, hp⟩ => ?_
    obtain ⟨ek', hc'⟩ := CI.mask on ((List.range ln).map z) E 0 ek hc
    exact ⟨_, he, _, L, row, rv, ek', hin.post hp, hc'⟩
end
end Go.Proofs.Ytekgfdfganelmaa
