/- Walk of the document's Add where it adds. Condition: no list is longer than 1048576. -/
import Derived.Test.YtekgfdfganelmaaRefJ
namespace Go.Proofs.Ytekgfdfganelmaa
open Go.RowKit

theorem Try.info73 : (Try.prog.info? 73).map (fun i => (i.zero, i.size, i.bytes)) = some (some (.agg #[.int .i64 0, .int .i64 0, .int .i64 0, .int .i64 0, .bool false]), 5, 40) := by kernel_rfl
theorem cells_new (w : World) (cs : List Value) (T : TypeId) : ∀ j u, cs[j]? = some u → (w.alloc (.cells cs.toArray T)).cell? ((⟨w.heap.size, 0, none⟩ : Addr).add j) = some u := by
  intro j u hj
  rw [addp, Nat.zero_add]
  exact (Cells.new w T cs).cell j u hj

set_option maxHeartbeats 2000000 in
theorem rAdd_ok {w : World} {r : Nat} {g : RG} (h : RRep w r g) (id : Int) (hid : 0 ≤ id) (hlen : g.L.length < 1048576) (hk : atI g.L id = none) :
    Calls Try.prog 37 #[.pointer (some ⟨r, 0, none⟩), .int .i64 id] w fun e w' => e = .returned (.int .i64 0) ∧ ∃ lv', RPost r w g { g with L := g.L ++ [.fresh id], lv := lv' } w' := by
  have k1 := rAt_any h id (by omega)
  rw [hk] at k1
  simp only [numOf] at k1
  have HP : Hid (∀ v w1, Chg (fun _ => False) w w1 → w1.ownsRow w.heap.size 73 5 v (g.L.length + 1) (flat g.L ++ [.int .i64 id, .int .i64 (-1), .int .i64 (-1), .int .i64 0, .bool false]) → RPost r w g { g with lv := v, L := g.L ++ [.fresh id] } (w1.setCell ⟨r, 0, none⟩ v)) := fun v w1 hc hr => RPost.newL h hc (by rw [flat_append, List.length_append]; exact hr)
  have HC : Hid (∀ w2, Chg (fun _ => False) w w2 → w2.cell? ⟨r, 0, none⟩ = some g.lv ∧ w2.frozen? ⟨r, 0, none⟩ = false) := fun w2 hc => (h.rcell hc).2.2
  have hr1 := h.ctl.cell 0 _ rfl
  have hrl := h.ctl.lt
  have hE := empty_owns w 73 5
  obtain ⟨i0, hi, hz0, hz1, hz2⟩ := info_parts Try.info73
  rcases h.recs.2 with ⟨hv, h0⟩ | ⟨gb, cap, cur, hv, _⟩
  · have hrow : g.L = [] := List.eq_nil_of_length_eq_zero h0
    rw [hv] at hr1
    clear hk
    rw [hrow] at HP ⊢
    simp only [flat, List.flatMap_nil, List.nil_append, List.length_nil, Nat.zero_add] at HP ⊢
    clear hrow h0 hv hlen h
    have hN : ∀ j u, [Value.int .i64 id, .int .i64 (-1), .int .i64 (-1), .int .i64 0, .bool false][j]? = some u → ((w.alloc (.cells #[] 73)).alloc (.cells #[.int .i64 id, .int .i64 (-1), .int .i64 (-1), .int .i64 0, .bool false] 73)).cell? ((⟨w.heap.size + 1, 0, none⟩ : Addr).add j) = some u := by
      have := cells_new (w.alloc (.cells #[] 73)) [.int .i64 id, .int .i64 (-1), .int .i64 (-1), .int .i64 0, .bool false] 73
      have e : (w.alloc (.cells #[] 73)).heap.size = w.heap.size + 1 := by simp
      rw [e] at this
      exact this
    go_enter Try.func37, Try.ntmps37
    go_wp2_with fail
    refine k1.mono ?_
    rintro e w' ⟨rfl, rfl⟩
    clear k1
    go_wp2_with (at_builtin; first
      | (refine wpList_append_own_none rfl _ _ 40 rfl w.heap.size 73 i0 5 Try.underlying40 hi _ 0 [] rfl hE rfl ?_)
      | (refine wpList_append_own_at _ rfl _ _ 40 rfl w.heap.size 73 i0 (.agg #[.int .i64 0, .int .i64 0, .int .i64 0, .int .i64 0, .bool false]) 5 40 Try.underlying40 hi hz0 hz1 hz2 rfl (by decide) (.slice (some ⟨w.heap.size, 0, none⟩) 0 0) 0 [] rfl (hE.alloc _) _ 1 1 [.int .i64 id, .int .i64 (-1), .int .i64 (-1), .int .i64 0, .bool false] rfl rfl hN (by simp [Value.oneCell']) (by unfold maxLen; omega) (by omega) (by simp <;> omega) ?_; intro v2 w2 hown2 hgrow2 _ _; obtain ⟨gg, cp, rfl⟩ := ownsRow_succ hown2; have hc2 : Chg (fun _ => False) w w2 := (((Chg.refl _ w).alloc _).alloc _).grown hgrow2 (fun q hq => .inr (by cases hq; exact Nat.le_refl _)); obtain ⟨c1, c2⟩ := HC.out w2 hc2))
    go_ret
    exact ⟨rfl, _, HP.out _ _ hc2 (by simpa using hown2)⟩
  · have hcells : ∀ j u, (flat g.L)[j]? = some u → (w.alloc (.cells #[] 73)).cell? ((⟨gb, 0, none⟩ : Addr).add j) = some u := (h.alloc _).recs.cells (by rw [hv]; rfl)
    have hl1 : (flat g.L).length = g.L.length * 5 := flat_len _
    have hoc : ∀ u ∈ flat g.L, u.oneCell' = true := by
      intro u hu
      obtain ⟨q, _, hq⟩ := List.mem_flatMap.1 hu
      simp only [Rc.cells, List.mem_cons, List.not_mem_nil, or_false] at hq
      rcases hq with rfl | rfl | rfl | rfl | rfl <;> rfl
    rw [hv] at hr1
    clear h hk hv
    generalize flat g.L = xs at HP hcells hl1 hoc
    generalize g.L.length = n at hr1 hlen HP hl1
    go_enter Try.func37, Try.ntmps37
    go_wp2_with fail
    refine k1.mono ?_
    rintro e w' ⟨rfl, rfl⟩
    clear k1
    go_wp2_with (at_builtin; first
      | (refine wpList_append_own_at _ rfl _ _ 40 rfl w.heap.size 73 i0 (.agg #[.int .i64 0, .int .i64 0, .int .i64 0, .int .i64 0, .bool false]) 5 40 Try.underlying40 hi hz0 hz1 hz2 rfl (by decide) (.slice (some ⟨w.heap.size, 0, none⟩) 0 0) 0 [] rfl hE ⟨gb, 0, none⟩ n cap xs rfl hl1 hcells hoc (by unfold maxLen; omega) (by omega) (by simp) ?_; intro v1 w1 hown1 hgrow1 _ _; have hown1' : w1.ownsRow w.heap.size 73 5 v1 n xs := by simpa using hown1)
      | (refine wpList_append_own_at _ rfl _ _ 40 rfl w.heap.size 73 i0 (.agg #[.int .i64 0, .int .i64 0, .int .i64 0, .int .i64 0, .bool false]) 5 40 Try.underlying40 hi hz0 hz1 hz2 rfl (by decide) v1 n xs rfl (hown1'.alloc _) _ 1 1 [.int .i64 id, .int .i64 (-1), .int .i64 (-1), .int .i64 0, .bool false] rfl rfl (cells_new w1 [.int .i64 id, .int .i64 (-1), .int .i64 (-1), .int .i64 0, .bool false] 73) (by simp [Value.oneCell']) (by unfold maxLen; omega) (by omega) (by have := hgrow1.size; simp at this ⊢; omega) ?_; intro v2 w2 hown2 hgrow2 _ _; obtain ⟨gg, cp, rfl⟩ := ownsRow_succ hown2; have hc2 : Chg (fun _ => False) w w2 := ((((Chg.refl _ w).alloc _).grown hgrow1 (fun q hq => .inr (by cases hq; exact Nat.le_refl _))).alloc _).grown hgrow2 (fun q hq => .inr (hown1'.lt q hq).1); obtain ⟨c1, c2⟩ := HC.out w2 hc2))
    go_ret
    exact ⟨rfl, _, HP.out _ _ hc2 hown2⟩
end Go.Proofs.Ytekgfdfganelmaa
