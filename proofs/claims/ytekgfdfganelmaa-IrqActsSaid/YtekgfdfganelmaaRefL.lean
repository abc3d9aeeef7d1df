/- Walk of the document's Remove. Condition: no list is longer than 1048576. -/
import Derived.Test.YtekgfdfganelmaaRefK
namespace Go.Proofs.Ytekgfdfganelmaa
open Go.RowKit

theorem flat_take (L : List Rc) (k : Nat) : flat (L.take k) = (flat L).take (k * 5) := by
  induction L generalizing k with
  | nil => simp [flat]
  | cons q r ih =>
    cases k with
    | zero => simp [flat]
    | succ k =>
      show q.cells ++ flat (r.take k) = (q.cells ++ flat r).take ((k + 1) * 5)
      rw [ih, List.take_append]
      have e : (k + 1) * 5 - q.cells.length = k * 5 := by simp [Rc.cells]; omega
      have e2 : q.cells.take ((k + 1) * 5) = q.cells := List.take_of_length_le (by show 5 ≤ (k + 1) * 5; omega)
      rw [e, e2]
theorem flat_drop (L : List Rc) (k : Nat) : flat (L.drop k) = (flat L).drop (k * 5) := by
  induction L generalizing k with
  | nil => simp [flat]
  | cons q r ih =>
    cases k with
    | zero => simp
    | succ k =>
      show flat (r.drop k) = (q.cells ++ flat r).drop ((k + 1) * 5)
      rw [ih, List.drop_append]
      have e : (k + 1) * 5 - q.cells.length = k * 5 := by simp [Rc.cells]; omega
      have e2 : q.cells.drop ((k + 1) * 5) = [] := List.drop_of_length_le (by show 5 ≤ (k + 1) * 5; omega)
      rw [e, e2, List.nil_append]
theorem flat_one (L : List Rc) : ∀ u ∈ flat L, u.oneCell' = true := by
  intro u hu
  obtain ⟨q, _, hq⟩ := List.mem_flatMap.1 hu
  simp only [Rc.cells, List.mem_cons, List.not_mem_nil, or_false] at hq
  rcases hq with rfl | rfl | rfl | rfl | rfl <;> rfl

set_option maxHeartbeats 1000000 in
theorem rRemove_none {w : World} {r : Nat} {g : RG} (h : RRep w r g) (id : Int) (hlen : g.L.length ≤ 1048576) (hk : atI g.L id = none) :
    Calls Try.prog 38 #[.pointer (some ⟨r, 0, none⟩), .int .i64 id] w fun e w' => e = .returned (.int .i64 6) ∧ w = w' := by
  have k1 := rAt_any h id hlen
  rw [hk] at k1; simp only [numOf] at k1
  clear h hk hlen
  go_enter Try.func38, Try.ntmps38
  go_wp2_with fail
  refine k1.mono ?_
  rintro e w' ⟨rfl, rfl⟩
  clear k1
  go_wp2_with fail
  go_ret
  exact ⟨rfl, rfl⟩

set_option maxHeartbeats 4000000 in
theorem rRemove_some {w : World} {r : Nat} {g : RG} (h : RRep w r g) (id : Int) (hlen : g.L.length ≤ 1048576) {k : Nat} (hk : atI g.L id = some k) (row' : List Int)
    (hoff : Calls Try.prog 51 #[.pointer (some ⟨r, 0, none⟩), .int .i64 id] w fun e w' => e = .returned (.tuple #[]) ∧ ∃ rv', RPost r w g { g with row := row', rv := rv' } w') :
    Calls Try.prog 38 #[.pointer (some ⟨r, 0, none⟩), .int .i64 id] w fun e w' => e = .returned (.int .i64 0) ∧ ∃ lv' rv', RPost r w g { L := g.L.take k ++ g.L.drop (k + 1), row := row', lv := lv', rv := rv' } w' := by
  have k1 := rAt_any h id hlen
  obtain ⟨hkl, _⟩ := atI_lt hk
  rw [hk] at k1
  simp only [numOf] at k1
  clear h hk
  go_enter Try.func38, Try.ntmps38
  go_wp2_with fail
  refine k1.mono ?_
  rintro e w' ⟨rfl, rfl⟩
  clear k1
  go_wp2_with fail
  refine hoff.mono ?_
  rintro e wz ⟨rfl, rv', hpz⟩
  clear hoff
  have h := hpz.1
  have HZ : Hid (RPost r w g { g with row := row', rv := rv' } wz) := hpz
  clear hpz
  obtain ⟨a, cap, hv, hA⟩ := h.open_recs
  obtain ⟨gb, rfl, _⟩ := hA k hkl
  dsimp only at hv
  have hr1 := h.ctl.cell 0 _ rfl
  dsimp only at hr1
  have hcap : g.L.length ≤ cap := by
    rcases h.recs.2 with ⟨hv2, _⟩ | ⟨g2, cap2, cur, hv2, _, _, h4, _⟩
    · dsimp only at hv2; rw [hv] at hv2; cases hv2
    · dsimp only at hv2; rw [hv] at hv2; cases hv2; exact h4
  rw [hv] at hr1
  have hE := empty_owns wz 73 5
  obtain ⟨i0, hi, hz0, hz1, hz2⟩ := info_parts Try.info73
  have hcells : ∀ W, Chg (fun _ => False) wz W → ∀ j u, (flat g.L)[j]? = some u → W.cell? ((⟨gb, 0, none⟩ : Addr).add j) = some u := fun W hc => (h.chg hc (fun _ x => x.elim)).recs.cells (by dsimp only; rw [hv]; rfl)
  have HC : Hid (∀ w2, Chg (fun _ => False) wz w2 → w2.cell? ⟨r, 0, none⟩ = some (.slice (some ⟨gb, 0, none⟩) g.L.length cap) ∧ w2.frozen? ⟨r, 0, none⟩ = false) := fun w2 hc => by have := h.rcell hc; dsimp only at this; rw [hv] at this; exact ⟨this.2.2.1, this.2.2.2⟩
  have HP : Hid (∀ v w1, Chg (fun _ => False) wz w1 → w1.ownsRow wz.heap.size 73 5 v (g.L.take k ++ g.L.drop (k + 1)).length (flat (g.L.take k ++ g.L.drop (k + 1))) → RPost r w g { L := g.L.take k ++ g.L.drop (k + 1), row := row', lv := v, rv := rv' } (w1.setCell ⟨r, 0, none⟩ v)) := fun v w1 hc hr => RPost.trans HZ.out (RPost.newL h hc hr)
  have hn1 : ∀ j u, (flat (g.L.take k))[j]? = some u → ((wz.alloc (.cells #[] 73)).drew).cell? ((⟨gb, 0, none⟩ : Addr).add j) = some u := by
    intro j u hj
    refine hcells _ (((Chg.refl _ wz).alloc _).drew) j u ?_
    rw [flat_take, List.getElem?_take] at hj
    split at hj
    · exact hj
    · cases hj
  have HN2 : Hid (∀ W, Chg (fun _ => False) wz W → ∀ j u, (flat (g.L.drop (k + 1)))[j]? = some u → W.cell? ((⟨gb, (k + 1) * 5, none⟩ : Addr).add j) = some u) := by
    intro W hc j u hj
    rw [flat_drop, List.getElem?_drop] at hj
    have := hcells W hc ((k + 1) * 5 + j) u hj
    rw [addp] at this ⊢
    simpa using this
  have hl1 : (flat (g.L.take k)).length = k * 5 := by rw [flat_len]; simp; omega
  have hl2 : (flat (g.L.drop (k + 1))).length = (g.L.length - (k + 1)) * 5 := by rw [flat_len]; simp
  have ho1 := flat_one (g.L.take k)
  have ho2 := flat_one (g.L.drop (k + 1))
  have HL : Hid ((g.L.take k ++ g.L.drop (k + 1)).length = k + (g.L.length - (k + 1)) ∧ flat (g.L.take k ++ g.L.drop (k + 1)) = flat (g.L.take k) ++ flat (g.L.drop (k + 1))) := ⟨by simp; omega, flat_append _ _⟩
  generalize hx1 : flat (g.L.take k) = xs1 at hn1 hl1 ho1 HL
  generalize hx2 : flat (g.L.drop (k + 1)) = xs2 at HN2 hl2 ho2 HL
  have hrl := h.ctl.lt
  clear h hv hA hx1 hx2 hcells HZ
  generalize hn : g.L.length = n at hr1 hkl hcap hl2 HL hlen HC
  have hk1 : (0 : Int) ≤ (k : Int) := by omega
  have hk2 : (k : Int) < (n : Int) := by omega
  have hk3 : k ≤ cap := by omega
  have hk4 : k + 1 ≤ n := by omega
  have hk5 : (k : Int) + 1 ≤ (n : Int) := by omega
  have hk6 : ((k : Int) + 1).toNat = k + 1 := by omega
  have hk7 : (0 : Int) ≤ (k : Int) + 1 := by omega
  have hm1 : 0 + k ≤ maxLen := by unfold maxLen; omega
  have hm2 : k + (n - (k + 1)) ≤ maxLen := by unfold maxLen; omega
  have hm3 : (0 + k) * 40 ≤ 140737488355328 := by omega
  have hm4 : (k + (n - (k + 1))) * 40 ≤ 140737488355328 := by omega
  have hwr : IntKind.i64.wrap ((k : Int) + 1) = (k : Int) + 1 := IntWalk.i64_in _ (by omega)
  clear hn
  by_cases hce : cap = k + 1
  · subst hce
    obtain rfl : n = k + 1 := by omega
    have hl3 : xs2.length = 0 * 5 := by rw [hl2]; omega
    have HN3 : Hid (∀ W : World, ∀ j u, xs2[j]? = some u → W.cell? ((⟨gb, 0, none⟩ : Addr).add j) = some u) := by
      intro W j u hj
      have hxs : xs2 = [] := List.eq_nil_of_length_eq_zero (by omega)
      rw [hxs] at hj
      simp at hj
    have hm5 : k + 0 ≤ maxLen := by unfold maxLen; omega
    have hm6 : (k + 0) * 40 ≤ 140737488355328 := by omega
    have hk8 : (k : Int) ≤ (k : Int) + 1 := by omega
    have hk9 : k ≤ k + 1 := by omega
    clear hl2 hm2 hm4 hk4 hcap hkl
    go_wp2_with fail
    go_region_law (first
      | (refine step_append_own rfl (.tmp 15) (.tmp 21) 40 rfl wz.heap.size 73 i0 (.agg #[.int .i64 0, .int .i64 0, .int .i64 0, .int .i64 0, .bool false]) 5 40 Try.underlying40 hi hz0 hz1 hz2 rfl (by decide) (.slice (some ⟨wz.heap.size, 0, none⟩) 0 0) 0 [] rfl hE ⟨gb, 0, none⟩ k (k + 1) xs1 rfl hl1 hn1 ho1 hm1 hm3 (by show wz.heap.size ≤ (wz.heap.push _).size; simp) ?_; intro v1 w1 hown1 hgrow1; have hown1' : w1.ownsRow wz.heap.size 73 5 v1 k xs1 := by simpa using hown1
         have hc1 : Chg (fun _ => False) wz w1 := (((Chg.refl _ wz).alloc _).drew).grown hgrow1 (fun q hq => .inr (by cases hq; exact Nat.le_refl _))
         have hz1c := hc1.size
         obtain ⟨c3, c4⟩ := HC.out w1 hc1)
      | (refine step_append_own rfl (.tmp 22) (.tmp 29) 40 rfl wz.heap.size 73 i0 (.agg #[.int .i64 0, .int .i64 0, .int .i64 0, .int .i64 0, .bool false]) 5 40 Try.underlying40 hi hz0 hz1 hz2 rfl (by decide) v1 k xs1 rfl hown1' ⟨gb, 0, none⟩ 0 0 xs2 rfl hl3 (HN3.out _) ho2 hm5 hm6 hz1c ?_; intro v2 w2 hown2 hgrow2; have hc2 : Chg (fun _ => False) wz w2 := hc1.grown hgrow2 (fun q hq => .inr (hown1'.lt q hq).1); obtain ⟨c1, c2⟩ := HC.out w2 hc2; obtain ⟨ax, cx, hvx⟩ := owns_shape hown2; subst hvx))
    all_goals
      go_wp2_with fail
      go_ret
      refine ⟨rfl, _, _, HP.out _ _ hc2 ?_⟩
      rw [HL.out.1, HL.out.2]
      simpa using hown2
  · have hce2 : ¬ cap = k + 1 := hce
    go_wp2_with fail
    go_region_law (first
      | (refine step_append_own rfl (.tmp 15) (.tmp 21) 40 rfl wz.heap.size 73 i0 (.agg #[.int .i64 0, .int .i64 0, .int .i64 0, .int .i64 0, .bool false]) 5 40 Try.underlying40 hi hz0 hz1 hz2 rfl (by decide) (.slice (some ⟨wz.heap.size, 0, none⟩) 0 0) 0 [] rfl hE ⟨gb, 0, none⟩ k cap xs1 rfl hl1 hn1 ho1 hm1 hm3 (by show wz.heap.size ≤ (wz.heap.push _).size; simp) ?_; intro v1 w1 hown1 hgrow1; have hown1' : w1.ownsRow wz.heap.size 73 5 v1 k xs1 := by simpa using hown1
         have hc1 : Chg (fun _ => False) wz w1 := (((Chg.refl _ wz).alloc _).drew).grown hgrow1 (fun q hq => .inr (by cases hq; exact Nat.le_refl _))
         have hz1c := hc1.size
         obtain ⟨c3, c4⟩ := HC.out w1 hc1)
      | (refine step_append_own rfl (.tmp 22) (.tmp 29) 40 rfl wz.heap.size 73 i0 (.agg #[.int .i64 0, .int .i64 0, .int .i64 0, .int .i64 0, .bool false]) 5 40 Try.underlying40 hi hz0 hz1 hz2 rfl (by decide) v1 k xs1 rfl hown1' ⟨gb, (k + 1) * 5, none⟩ (n - (k + 1)) (cap - (k + 1)) xs2 rfl hl2 (HN2.out _ hc1) ho2 hm2 hm4 hz1c ?_; intro v2 w2 hown2 hgrow2; have hc2 : Chg (fun _ => False) wz w2 := hc1.grown hgrow2 (fun q hq => .inr (hown1'.lt q hq).1); obtain ⟨c1, c2⟩ := HC.out w2 hc2; obtain ⟨ax, cx, hvx⟩ := owns_shape hown2; subst hvx))
    all_goals
      go_wp2_with fail
      go_ret
      refine ⟨rfl, _, _, HP.out _ _ hc2 ?_⟩
      rw [HL.out.1, HL.out.2]
      exact hown2
end Go.Proofs.Ytekgfdfganelmaa
