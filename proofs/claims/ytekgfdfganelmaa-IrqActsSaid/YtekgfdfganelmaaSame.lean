/- quartermasterref04.Same: are two lists of numbers the same? Conditions: the slices own their blocks. -/
import Derived.Test.YtekgfdfganelmaaBase
namespace Go.Proofs.Ytekgfdfganelmaa
open Go.RowKit

theorem ownsRow_get {w : World} {base g cap : Nat} {xs : List Int} (h : w.ownsRow base 3 1 (.slice (some ⟨g, 0, none⟩) xs.length cap) xs.length (xs.map (Value.int .i64))) (k : Nat) (hk : k < xs.length) :
    w.cell? ⟨g, k, none⟩ = some (.int .i64 (xs[k]?.getD 0)) := by
  have := h.cells (g := g) rfl k (.int .i64 (xs[k]?.getD 0)) (by simp [hk])
  unfold Addr.add at this
  by_cases hk0 : k = 0
  · subst hk0; simpa using this
  · simpa [hk0] using this
theorem ownsRow_block3 {w : World} {v : Value} {base n : Nat} {xs : List Value} {g : Nat} (h : w.ownsRow base 3 1 v n xs) (hg : v.ownBlock = some g) : ∃ cs, Cells w g 3 cs := by
  rcases h.2 with ⟨rfl, _⟩ | ⟨g', cap, cur, rfl, _, hgg, _⟩
  · cases hg
  · simp [Value.ownBlock] at hg; subst hg; exact ⟨cur.toList, by simpa [Cells] using hgg⟩

def Same (xs ys : List Int) (w : World) (e : Ending) (w' : World) : Prop := e = .returned (.bool (decide (xs = ys))) ∧ Chg (fun _ => False) w w'

set_option maxHeartbeats 1000000 in
theorem same_any (w : World) (a b : Value) (xs ys : List Int) (ba bb : Nat) (ha : w.ownsRow ba 3 1 a xs.length (xs.map (Value.int .i64))) (hb : w.ownsRow bb 3 1 b ys.length (ys.map (Value.int .i64))) (hl : xs.length ≤ 4611686018427387904) (hl2 : ys.length ≤ 4611686018427387904) :
    Calls Try.prog 27 #[a, b] w (Same xs ys w) := by
  by_cases hlen : xs.length = ys.length
  · by_cases h0 : xs.length = 0
    · have hx : xs = [] := List.eq_nil_of_length_eq_zero h0
      have hy : ys = [] := List.eq_nil_of_length_eq_zero (by omega)
      subst hx; subst hy
      have e1 : ∃ p c, a = .slice p 0 c := by rcases ha.2 with ⟨rfl, _⟩ | ⟨g, c, _, rfl, _⟩; exact ⟨_, _, rfl⟩; exact ⟨_, _, rfl⟩
      have e2 : ∃ p c, b = .slice p 0 c := by rcases hb.2 with ⟨rfl, _⟩ | ⟨g, c, _, rfl, _⟩; exact ⟨_, _, rfl⟩; exact ⟨_, _, rfl⟩
      obtain ⟨p, c, rfl⟩ := e1
      obtain ⟨p2, c2, rfl⟩ := e2
      clear ha hb h0 hlen hl hl2
      go_enter Try.func27, Try.ntmps27
      go_wp2_with fail
      go_loop [5] (fun k => k = .int .i64 0) (fun _ => 0)
      case atStart => rfl
      case round =>
        obtain rfl := hrel
        go_wp2
        go_ret
        exact ⟨rfl, Chg.refl _ _⟩
    · rcases ha.2 with ⟨_, h⟩ | ⟨g, c, _, rfl, _⟩
      · exact absurd h h0
      rcases hb.2 with ⟨_, h⟩ | ⟨g2, c2, _, rfl, _⟩
      · omega
      have Hx := fun k hk => ownsRow_get ha k hk
      have Hy := fun k hk => ownsRow_get hb k hk
      have HX : Hid (∀ k, k < xs.length → w.cell? ⟨g, k, none⟩ = some (.int .i64 (xs[k]?.getD 0))) := Hx
      have HY : Hid (∀ k, k < ys.length → w.cell? ⟨g2, k, none⟩ = some (.int .i64 (ys[k]?.getD 0))) := Hy
      have hglt : g < w.heap.size := by obtain ⟨cs, hc⟩ := ownsRow_block3 ha rfl; exact hc.lt
      have hg2lt : g2 < w.heap.size := by obtain ⟨cs, hc⟩ := ownsRow_block3 hb rfl; exact hc.lt
      have HL : Hid (xs.length = ys.length) := hlen
      rw [← hlen]
      clear Hx Hy ha hb hlen hl2
      generalize hn : xs.length = n at hl h0
      have HN : Hid (xs.length = n) := hn
      clear hn
      go_enter Try.func27, Try.ntmps27
      go_wp2_with fail
      go_loopw [5] (fun i wr => ∃ k : Nat, k ≤ n ∧ i = .int .i64 k ∧ (∀ j, j < k → xs[j]?.getD 0 = ys[j]?.getD 0) ∧ Chg (fun _ => False) w wr) (fun i _ => n - (intOf i).toNat)
      case atStart => exact ⟨0, Nat.zero_le _, rfl, by intro j hj; omega, Chg.refl _ _⟩
      case round =>
        obtain ⟨k, hk, rfl, hpre, hch⟩ := hrel
        have Hp : Hid (∀ j, j < k → xs[j]?.getD 0 = ys[j]?.getD 0) := hpre
        clear hpre
        by_cases hlt : k < n
        · have cx := (World.cell?_of_block (w := w) (hch.block g hglt (fun h => h))).trans (HX.out k (by rw [HN.out]; exact hlt))
          have cy := (World.cell?_of_block (w := w) (hch.block g2 hg2lt (fun h => h))).trans (HY.out k (by rw [← HL.out, HN.out]; exact hlt))
          generalize hx : xs[k]?.getD 0 = x at cx
          generalize hy : ys[k]?.getD 0 = y at cy
          have Hxk : Hid (xs[k]?.getD 0 = x) := hx
          have Hyk : Hid (ys[k]?.getD 0 = y) := hy
          clear hx hy
          by_cases hxy : x = y
          · have hb1 : (x != y) = false := by simpa using hxy
            have Hxy : Hid (x = y) := hxy
            clear hxy
            go_wp2
            go_region
            all_goals go_wp2
            all_goals go_roundw
            all_goals first
              | (refine ⟨k + 1, by omega, by go_num, fun j hj => ?_, hch.drew⟩
                 by_cases e : j = k
                 · subst e; rw [Hxk.out, Hyk.out]; exact Hxy.out
                 · exact Hp.out j (by omega))
              | (simp [intOf]; omega)
          · have hb1 : (x != y) = true := by simpa using hxy
            have Hxy : Hid (x ≠ y) := hxy
            clear hxy
            go_wp2
            go_region
            all_goals go_wp2
            all_goals go_ret
            all_goals
              have hne : ¬ (xs = ys) := by rintro rfl; exact Hxy.out (by rw [← Hxk.out, ← Hyk.out])
              exact ⟨by simp [hne], hch.drew⟩
        · have heq : Hid (xs = ys) := by
            refine List.ext_getElem HL.out fun j h1 h2 => ?_
            have := Hp.out j (by have := HN.out; omega)
            simpa [h1, h2] using this
          go_wp2
          go_ret
          exact ⟨by simp [heq.out], hch⟩
  · have hne : ¬ (xs = ys) := fun e => hlen (by rw [e])
    have e1 : ∃ p c, a = .slice p xs.length c := by rcases ha.2 with ⟨rfl, h⟩ | ⟨g, c, _, rfl, _⟩; rw [h]; exact ⟨_, _, rfl⟩; exact ⟨_, _, rfl⟩
    have e2 : ∃ p c, b = .slice p ys.length c := by rcases hb.2 with ⟨rfl, h⟩ | ⟨g, c, _, rfl, _⟩; rw [h]; exact ⟨_, _, rfl⟩; exact ⟨_, _, rfl⟩
    obtain ⟨p, c, rfl⟩ := e1
    obtain ⟨p2, c2, rfl⟩ := e2
    have hb1 : ((xs.length : Int) != ys.length) = true := by simp; omega
    clear ha hb
    have HR : Hid (Same xs ys w (.returned (.bool false)) w) := ⟨by simp [hne], Chg.refl _ _⟩
    clear hlen hne
    generalize xs.length = n1 at *
    generalize ys.length = n2 at *
    go_enter Try.func27, Try.ntmps27
    go_wp2_with fail
    go_ret
    exact HR.out
end Go.Proofs.Ytekgfdfganelmaa
