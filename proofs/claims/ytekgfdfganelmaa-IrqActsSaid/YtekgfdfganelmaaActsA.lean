/- Bind and Raise at whatever number, where the line's word may go round; Mask at whatever slice; nil receivers left. No condition but the controller's blocks. -/
import Derived.Test.YtekgfdfganelmaaIrqE
import Derived.Test.YtekgfdfganelmaaIrqI
namespace Go.Proofs.Ytekgfdfganelmaa
open Go.RowKit

/-- A fact laid where the walk does not look. -/
theorem hidden {p : Prop} (h : p) : Hid p := h
theorem wrap_ne (id : Int) (h0 : 0 ≤ id) (h1 : id ≤ 9223372036854775807) : wrap64 (id + 1) ≠ 0 := by unfold wrap64; omega
theorem wrap_back (id : Int) (h0 : 0 ≤ id) (h1 : id ≤ 9223372036854775807) : wrap64 (wrap64 (id + 1) - 1) = id := by unfold wrap64; omega
theorem wrap_inj (a b : Int) (h0 : 0 ≤ a) (h1 : a ≤ 9223372036854775807) (h2 : 0 ≤ b) (h3 : b ≤ 9223372036854775807) (h : wrap64 (a + 1) = wrap64 (b + 1)) : a = b := by unfold wrap64 at h; omega

set_option maxHeartbeats 400000 in
theorem bind_ok2 {w : World} {c : Nat} {g : G} (h : Rep w c g) {id : Int} {e : Ent} (hf : find g.E id = some e) (k : Nat) (hk : k < 16) (hb : e.q.line = -1) (hl : g.lines[k]?.getD 0 = 0) :
    Calls Try.prog 18 #[.pointer (some ⟨c, 0, none⟩), .int .i64 id, .int .i64 k] w fun r w' => r = .returned (.int .i64 0) ∧ Post c w g { g with E := upd g.E id { e.q with line := k }, lines := g.lines.set k (wrap64 (id + 1)) } w' := by
  have hcall := at_some h hf
  obtain ⟨k0, _, _, _, _, kf⟩ := irq_cells h hf
  have kf0 := kf 0
  have hln := h.line k hk
  have hp1 := Post.setIrq h hf 0 (.int .i64 k) { e.q with line := k } rfl
  have hp2 := hp1.trans (Post.setLine hp1.1 k (wrap64 (id + 1)) hk)
  have hcf := hp1.1.f17 (1 + k)
  have hln2 := hp1.1.line k hk
  rw [hl] at hln
  simp only [hl] at hln2
  rw [hb] at k0
  clear h hf hb hl kf hp1
  go_enter Try.func18, Try.ntmps18
  go_wp2_with (first | (go_at_call 29; refine hcall.mono ?_; rintro e w' ⟨rfl, rfl⟩) | (go_at_call 35; refine (has_yes _ _ (by omega) (by omega)).mono ?_; rintro e w' ⟨rfl, rfl⟩) | (go_at_call 36; refine (bound_any k0).mono ?_; rintro e w' ⟨rfl, rfl⟩))
  go_ret
  exact ⟨rfl, hp2⟩

set_option maxHeartbeats 400000 in
theorem raise_some2 {w : World} {c : Nat} {g : G} (h : Rep w c g) (k : Nat) (hk : k < 16) (id : Int) (hl : g.lines[k]?.getD 0 = wrap64 (id + 1)) (hid : 0 ≤ id) (hid2 : id ≤ 9223372036854775807) (x : Int) (Q : World → Prop)
    (ht : Calls Try.prog 12 #[.pointer (some ⟨c, 0, none⟩), .int .i64 id] w fun r w' => r = .returned (.int .i64 x) ∧ Q w') :
    Calls Try.prog 19 #[.pointer (some ⟨c, 0, none⟩), .int .i64 k] w fun r w' => r = .returned (.int .i64 id) ∧ Q w' := by
  have hln := h.line k hk
  have h1 := wrap_ne id hid hid2
  have h2 := wrap_back id hid hid2
  rw [← hl] at h1 h2
  generalize g.lines[k]?.getD 0 = y at hln h1 h2
  have h3 : (y == 0) = false := by simpa using h1
  have h4 : (y != 0) = true := by simpa using h1
  clear h hl hid2
  go_enter Try.func19, Try.ntmps19
  go_wp2_with (first | (go_at_call 35; refine (has_yes _ _ (by omega) (by omega)).mono ?_; rintro e w' ⟨rfl, rfl⟩) | (go_at_call 12; refine ht.mono ?_; rintro e w' ⟨rfl, hq⟩))
  go_ret
  exact ⟨rfl, hq⟩
end Go.Proofs.Ytekgfdfganelmaa
