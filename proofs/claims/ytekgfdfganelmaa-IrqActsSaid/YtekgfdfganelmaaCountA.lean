/- What is read of a slice of acts that came in. No condition. -/
import Derived.Test.YtekgfdfganelmaaCountX
import Derived.ProofKit
import Derived.Deep.Slices
namespace Go.Proofs.Ytekgfdfganelmaa
open Go.ChangeShapes Go.WideShapes Go.ChangeAt Go.RowKit Go.Deep

theorem addr_plain' {w : World} {x : Addr} {v : Value} (h : w.cell? x = some v) : x = ⟨x.block, x.off, none⟩ := by
  obtain ⟨b, o, s⟩ := x
  cases s with
  | none => rfl
  | some s =>
    exfalso
    unfold World.cell? at h
    split at h <;> simp at h
theorem add_plain' (b o j : Nat) : (⟨b, o, none⟩ : Addr).add j = ⟨b, o + j, none⟩ := by
  unfold Addr.add
  split
  · rename_i h; simp [h]
  · rfl
theorem cells31 : Try.prog.cellsOf 31 = 1 := by kernel_rfl
theorem cells3 : Try.prog.cellsOf 3 = 1 := by kernel_rfl
theorem cells44 : Try.prog.cellsOf 44 = 4 := by kernel_rfl

/-- One act, read off its four cells. -/
theorem open_act {H : Type} {enc : TypeId × Value → H} {w : World} {n : Nat} {cs : List Value} {y : DataW H × List MemPlace}
    (h : DataW.trod enc Try.prog w 0 (fun _ => true) true n 44 cs = some y) : ∃ x : ActD, cs = [.int .i64 x.kind, .int .i64 x.id, .int .i64 x.n, .slice x.la x.ln x.cap] ∧
      ∀ i, i < x.ln → ∃ b, x.la = some b ∧ w.cell? (b.add i) = some (.int .i64 (x.z i)) := by
  obtain ⟨xs, n', _, _, hlen, hxl, hf⟩ := DataW.trod_struct Try.underlying44 h
  rw [cells44] at hlen
  match cs, hlen with
  | [v0, v1, v2, v3], _ =>
    match xs, hxl with
    | [y0, y1, y2, y3], _ =>
      have g0 : DataW.trod enc Try.prog w 0 (fun _ => true) true n' 3 (List.take (Try.prog.cellsOf 3) (List.drop 0 [v0, v1, v2, v3])) = some y0 := hf 0 _ rfl
      have g1 : DataW.trod enc Try.prog w 0 (fun _ => true) true n' 3 (List.take (Try.prog.cellsOf 3) (List.drop 1 [v0, v1, v2, v3])) = some y1 := hf 1 _ rfl
      have g2 : DataW.trod enc Try.prog w 0 (fun _ => true) true n' 3 (List.take (Try.prog.cellsOf 3) (List.drop 2 [v0, v1, v2, v3])) = some y2 := hf 2 _ rfl
      have g3 : DataW.trod enc Try.prog w 0 (fun _ => true) true n' 31 (List.take (Try.prog.cellsOf 31) (List.drop 3 [v0, v1, v2, v3])) = some y3 := hf 3 _ rfl
      rw [cells3] at g0 g1 g2
      rw [cells31] at g3
      simp only [List.drop_zero, List.take_succ_cons, List.take_zero, List.drop_succ_cons] at g0 g1 g2 g3
      obtain ⟨k, e0, _, _⟩ := DataW.trod_int Try.underlying3 g0
      obtain ⟨id, e1, _, _⟩ := DataW.trod_int Try.underlying3 g1
      obtain ⟨nn, e2, _, _⟩ := DataW.trod_int Try.underlying3 g2
      simp only [List.cons.injEq, and_true] at e0 e1 e2
      subst e0; subst e1; subst e2
      rcases open_ints Try.underlying31 Try.underlying3 cells3 g3 with ⟨e3, _⟩ | ⟨b, len, cap, zs, e3, _, hl, _, hz, _, hc, _⟩
      · simp only [List.cons.injEq, and_true] at e3
        subst e3
        exact ⟨⟨k, id, nn, none, 0, 0, fun _ => 0⟩, rfl, by intro i hi; exact absurd hi (Nat.not_lt_zero _)⟩
      · simp only [List.cons.injEq, and_true] at e3
        subst e3
        refine ⟨⟨k, id, nn, some b, len, cap, fun i => zs.getD i 0⟩, rfl, fun i hi => ⟨b, rfl, hc i ?_⟩⟩
        have hi' : i < len := hi
        rw [hz]; simp; omega

theorem open_acts {H : Type} {enc : TypeId × Value → H} {w : World} {fuel : Nat} {a0 : Option Addr} {len cap : Nat} {x : DataW H × List MemPlace}
    (h : DataW.trod enc Try.prog w 0 (fun _ => true) true fuel 37 [.slice a0 len cap] = some x) : ∃ A, IsActs w a0 len A := by
  rcases open_slice Try.underlying37 h with ⟨hcs, _⟩ | ⟨a, len', cap', m, n, D, Pl, hcs, _, hl, _, hmm, _, hi⟩
  · simp only [List.cons.injEq, Value.slice.injEq, and_true] at hcs
    obtain ⟨rfl, rfl, rfl⟩ := hcs
    exact ⟨fun _ => ⟨0, 0, 0, none, 0, 0, fun _ => 0⟩, fun j hj => absurd hj (Nat.not_lt_zero _)⟩
  · simp only [List.cons.injEq, Value.slice.injEq, and_true] at hcs
    obtain ⟨rfl, rfl, rfl⟩ := hcs
    have hm : len ≤ m := by rw [hmm]; simp; exact hl
    have each : ∀ j, j < len → ∃ x : ActD, w.cell? (a.add (j * 4)) = some (.int .i64 x.kind) ∧ w.cell? ((a.add (j * 4)).add 1) = some (.int .i64 x.id) ∧ w.cell? ((a.add (j * 4)).add 2) = some (.int .i64 x.n) ∧ w.cell? ((a.add (j * 4)).add 3) = some (.slice x.la x.ln x.cap) ∧
        ∀ i, i < x.ln → ∃ b, x.la = some b ∧ w.cell? (b.add i) = some (.int .i64 (x.z i)) := by
      intro j hj
      obtain ⟨cs', hc, ht⟩ := hi j (by omega)
      rw [cells44] at hc
      obtain ⟨x, rfl, hx⟩ := open_act ht
      obtain ⟨_, _, hat⟩ := World.cells?_some hc
      refine ⟨x, ?_, hat 1 (by omega), hat 2 (by omega), hat 3 (by omega), hx⟩
      have := hat 0 (by omega)
      simpa [Addr.add] using this
    by_cases h0 : len = 0
    · exact ⟨fun _ => ⟨0, 0, 0, none, 0, 0, fun _ => 0⟩, fun j hj => by omega⟩
    · obtain ⟨x0, c0, _⟩ := each 0 (by omega)
      have hp := addr_plain' (x := a) (by simpa [Addr.add] using c0)
      refine ⟨fun j => if hj : j < len then (each j hj).choose else ⟨0, 0, 0, none, 0, 0, fun _ => 0⟩, fun j hj => ?_⟩
      obtain ⟨h1, h2, h3, h4, h5⟩ := (each j hj).choose_spec
      simp only [hj, dif_pos]
      generalize (each j hj).choose = y at h1 h2 h3 h4 h5
      rw [hp, add_plain'] at h1 h2 h3 h4
      rw [add_plain'] at h2 h3 h4
      refine ⟨a.block, a.off, congrArg some hp, World.block_lt_of_cell? w ⟨a.block, a.off + j * 4, none⟩ h1, h1, h2, h3, h4, fun i hi' => ?_⟩
      obtain ⟨b, hb, hcb⟩ := h5 i hi'
      obtain ⟨b0, hb0, hcb0⟩ := h5 0 (by omega)
      rw [hb] at hb0
      cases hb0
      have hpb := addr_plain' (x := b) (by simpa [Addr.add] using hcb0)
      rw [hpb, add_plain'] at hcb
      exact ⟨b.block, b.off, by rw [hb]; exact congrArg some hpb, World.block_lt_of_cell? w ⟨b.block, b.off + i, none⟩ hcb, hcb⟩
end Go.Proofs.Ytekgfdfganelmaa
