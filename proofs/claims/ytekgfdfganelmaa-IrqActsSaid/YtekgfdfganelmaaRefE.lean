/- Walks of the document's functions that store into a record: Bind, Unbind, Attach. Condition: no list is longer than 1048576. -/
import Derived.Test.YtekgfdfganelmaaRefD
import Derived.Laws.OwnMore
namespace Go.Proofs.Ytekgfdfganelmaa
open Go.RowKit

theorem flat_set : ∀ (L : List Rc) (k f : Nat) (v : Value) (q : Rc), k < L.length → f < 5 → (nth L k).cells.set f v = q.cells → (flat L).set (k * 5 + f) v = flat (L.set k q)
  | [], k, f, v, q, hk, _, _ => by simp at hk
  | x :: r, 0, f, v, q, _, hf, hq => by
    show (x.cells ++ flat r).set (0 * 5 + f) v = q.cells ++ flat r
    rw [List.set_append_left _ _ (by simp [Rc.cells]; omega)]
    have hq' : x.cells.set f v = q.cells := hq
    rw [Nat.zero_mul, Nat.zero_add, hq']
  | x :: r, k + 1, f, v, q, hk, hf, hq => by
    show (x.cells ++ flat r).set ((k + 1) * 5 + f) v = x.cells ++ flat (r.set k q)
    rw [List.set_append_right _ _ (by simp [Rc.cells]; omega)]
    have e : (k + 1) * 5 + f - x.cells.length = k * 5 + f := by simp [Rc.cells]; omega
    have hq' : (nth r k).cells.set f v = q.cells := by have : nth (x :: r) (k + 1) = nth r k := by simp [nth]
                                                       rw [← this]; exact hq
    rw [e, flat_set r k f v q (by simpa using hk) hf hq']
theorem owns_block {w : World} {v : Value} {n : Nat} {e : TypeId} {size : Nat} {xs : List Value} {g : Nat} (h : w.ownsRow 0 e size v n xs) (hg : v.ownBlock = some g) : ∃ cs, Cells w g e cs := by
  rcases h.2 with ⟨rfl, _⟩ | ⟨g', cap, cur, rfl, _, hgg, _⟩
  · cases hg
  · simp [Value.ownBlock] at hg; subst hg; exact ⟨cur.toList, by simpa [Cells] using hgg⟩
theorem RRep.ne {w : World} {r : Nat} {g : RG} (h : RRep w r g) : (∀ b, g.lv.ownBlock = some b → r ≠ b) ∧ (∀ b, g.rv.ownBlock = some b → r ≠ b) ∧ ∀ a b, g.lv.ownBlock = some a → g.rv.ownBlock = some b → a ≠ b := by
  refine ⟨fun b hb => ?_, fun b hb => ?_, fun a b ha hb => ?_⟩
  · obtain ⟨cs, hc⟩ := owns_block h.recs hb; exact h.ctl.type_ne hc (by decide)
  · obtain ⟨cs, hc⟩ := owns_block h.row hb; exact h.ctl.type_ne hc (by decide)
  · obtain ⟨cs, hc⟩ := owns_block h.recs ha; obtain ⟨ds, hd⟩ := owns_block h.row hb; exact hc.type_ne hd (by decide)
theorem RPost.refl {w : World} {r : Nat} {g : RG} (h : RRep w r g) : RPost r w g g w := ⟨h, Chg.refl _ _, fun _ hb => .inl hb⟩
theorem RPost.setRec {w : World} {r : Nat} {g : RG} (h : RRep w r g) {gb cap : Nat} (hv : g.lv = .slice (some ⟨gb, 0, none⟩) g.L.length cap) {k : Nat} (hk : k < g.L.length) (f : Nat) (hf : f < 5) (v : Value) (q : Rc) (hq : (nth g.L k).cells.set f v = q.cells) :
    RPost r w g { g with L := g.L.set k q } (w.setCell ⟨gb, k * 5 + f, none⟩ v) := by
  have hb : g.lv.ownBlock = some gb := by rw [hv]; rfl
  have hr := h.recs
  rw [hv] at hr
  have hst := (hr.stored (k * 5 + f) v).1
  rw [flat_set _ _ _ _ _ hk hf hq] at hst
  refine ⟨⟨h.ctl.set_other _ _ (h.ne.1 gb hb), ?_, ownsRow_set h.row _ _ fun e => h.ne.2.2 gb gb hb e rfl⟩, (Chg.refl _ _).set _ _ (.inl (.inr (.inl hb))), fun _ hb => .inl hb⟩
  show World.ownsRow _ 0 73 5 g.lv (g.L.set k q).length (flat (g.L.set k q))
  rw [hv, List.length_set]; exact hst
theorem RRep.recFree {w : World} {r : Nat} {g : RG} (h : RRep w r g) {gb cap : Nat} (hv : g.lv = .slice (some ⟨gb, 0, none⟩) g.L.length cap) (j : Nat) : w.frozen? ⟨gb, j, none⟩ = false := by
  have hr := h.recs
  rw [hv] at hr
  exact hr.frozenAt j

def attachV (L : List Rc) (id t : Int) : List Rc × Int := match atI L id with
  | none => (L, 6)
  | some k => if t < -1 then (L, 1) else (L.set k { nth L k with thread := t }, 0)
def unbindV (L : List Rc) (id : Int) : List Rc × Int := match atI L id with
  | none => (L, 6)
  | some k => if (nth L k).line < 0 then (L, 12) else (L.set k { nth L k with line := -1 }, 0)
def bindV (L : List Rc) (id l : Int) : List Rc × Int := match atI L id with
  | none => (L, 6)
  | some k => if l < 0 ∨ 15 < l then (L, 2) else if 0 ≤ (nth L k).line then (L, 12) else if 0 ≤ onV L l then (L, 7) else (L.set k { nth L k with line := l }, 0)
def RRes (r : Nat) (w : World) (g : RG) (x : List Rc × Int) (e : Ending) (w' : World) : Prop := e = .returned (.int .i64 x.2) ∧ RPost r w g { g with L := x.1 } w'

set_option maxHeartbeats 1000000 in
theorem rAttach_any {w : World} {r : Nat} {g : RG} (h : RRep w r g) (id t : Int) (hlen : g.L.length ≤ 1048576) :
    Calls Try.prog 41 #[.pointer (some ⟨r, 0, none⟩), .int .i64 id, .int .i64 t] w (RRes r w g (attachV g.L id t)) := by
  have k1 := rAt_any h id hlen
  have HP : Hid (RPost r w g g w) := RPost.refl h
  unfold attachV
  cases hk : atI g.L id with
  | none =>
    rw [hk] at k1; simp only [numOf] at k1
    clear h hk hlen
    go_enter Try.func41, Try.ntmps41
    go_wp2_with fail
    refine k1.mono ?_
    rintro e w' ⟨rfl, rfl⟩
    clear k1
    go_wp2_with fail
    go_ret
    exact ⟨rfl, HP.out⟩
  | some k =>
    rw [hk] at k1; simp only [numOf] at k1
    obtain ⟨hkl, _⟩ := atI_lt hk
    obtain ⟨a, cap, hv, hA⟩ := h.open_recs
    obtain ⟨gb, rfl, _, _, _, _, _⟩ := hA k hkl
    have h0 : w.cell? ⟨r, 0, none⟩ = some (.slice (some ⟨gb, 0, none⟩) g.L.length cap) := by rw [← hv]; exact h.ctl.cell 0 _ rfl
    have hfz := h.recFree hv (k * 5 + 2)
    have HS : Hid (RPost r w g { g with L := g.L.set k { nth g.L k with thread := t } } (w.setCell ⟨gb, k * 5 + 2, none⟩ (.int .i64 t))) := RPost.setRec h hv hkl 2 (by omega) _ _ rfl
    dsimp only
    clear h hk hA hv
    generalize hn : g.L.length = n at h0 hkl hlen
    clear hn
    by_cases ht : t < -1
    · rw [if_pos ht]
      clear HS
      go_enter Try.func41, Try.ntmps41
      go_wp2_with fail
      refine k1.mono ?_
      rintro e w' ⟨rfl, rfl⟩
      clear k1
      go_wp2_with fail
      go_ret
      exact ⟨rfl, HP.out⟩
    · rw [if_neg ht]
      clear HP
      go_enter Try.func41, Try.ntmps41
      go_wp2_with fail
      refine k1.mono ?_
      rintro e w' ⟨rfl, rfl⟩
      clear k1
      go_wp2_with fail
      go_ret
      exact ⟨rfl, HS.out⟩

set_option maxHeartbeats 1000000 in
theorem rUnbind_any {w : World} {r : Nat} {g : RG} (h : RRep w r g) (id : Int) (hlen : g.L.length ≤ 1048576) :
    Calls Try.prog 40 #[.pointer (some ⟨r, 0, none⟩), .int .i64 id] w (RRes r w g (unbindV g.L id)) := by
  have k1 := rAt_any h id hlen
  have HP : Hid (RPost r w g g w) := RPost.refl h
  unfold unbindV
  cases hk : atI g.L id with
  | none =>
    rw [hk] at k1; simp only [numOf] at k1
    clear h hk hlen
    go_enter Try.func40, Try.ntmps40
    go_wp2_with fail
    refine k1.mono ?_
    rintro e w' ⟨rfl, rfl⟩
    clear k1
    go_wp2_with fail
    go_ret
    exact ⟨rfl, HP.out⟩
  | some k =>
    rw [hk] at k1; simp only [numOf] at k1
    obtain ⟨hkl, _⟩ := atI_lt hk
    obtain ⟨a, cap, hv, hA⟩ := h.open_recs
    obtain ⟨gb, rfl, _, c1, _, _, _⟩ := hA k hkl
    have h0 : w.cell? ⟨r, 0, none⟩ = some (.slice (some ⟨gb, 0, none⟩) g.L.length cap) := by rw [← hv]; exact h.ctl.cell 0 _ rfl
    have hfz := h.recFree hv (k * 5 + 1)
    have HS : Hid (RPost r w g { g with L := g.L.set k { nth g.L k with line := -1 } } (w.setCell ⟨gb, k * 5 + 1, none⟩ (.int .i64 (-1)))) := RPost.setRec h hv hkl 1 (by omega) _ _ rfl
    dsimp only
    clear h hk hA hv
    generalize hn : g.L.length = n at h0 hkl hlen
    clear hn
    by_cases ht : (nth g.L k).line < 0
    · rw [if_pos ht]
      clear HS
      generalize (nth g.L k).line = li at c1 ht
      go_enter Try.func40, Try.ntmps40
      go_wp2_with fail
      refine k1.mono ?_
      rintro e w' ⟨rfl, rfl⟩
      clear k1
      go_wp2_with fail
      go_ret
      exact ⟨rfl, HP.out⟩
    · rw [if_neg ht]
      clear HP
      generalize (nth g.L k).line = li at c1 ht
      go_enter Try.func40, Try.ntmps40
      go_wp2_with fail
      refine k1.mono ?_
      rintro e w' ⟨rfl, rfl⟩
      clear k1
      go_wp2_with fail
      go_ret
      exact ⟨rfl, HS.out⟩

set_option maxHeartbeats 2000000 in
theorem rBind_any {w : World} {r : Nat} {g : RG} (h : RRep w r g) (id l : Int) (hlen : g.L.length ≤ 1048576) :
    Calls Try.prog 39 #[.pointer (some ⟨r, 0, none⟩), .int .i64 id, .int .i64 l] w (RRes r w g (bindV g.L id l)) := by
  have k1 := rAt_any h id hlen
  have k2 := rOn_any h l hlen
  have HP : Hid (RPost r w g g w) := RPost.refl h
  unfold bindV
  cases hk : atI g.L id with
  | none =>
    rw [hk] at k1; simp only [numOf] at k1
    clear h hk hlen k2
    go_enter Try.func39, Try.ntmps39
    go_wp2_with fail
    refine k1.mono ?_
    rintro e w' ⟨rfl, rfl⟩
    clear k1
    go_wp2_with fail
    go_ret
    exact ⟨rfl, HP.out⟩
  | some k =>
    rw [hk] at k1; simp only [numOf] at k1
    obtain ⟨hkl, _⟩ := atI_lt hk
    obtain ⟨a, cap, hv, hA⟩ := h.open_recs
    obtain ⟨gb, rfl, _, c1, _, _, _⟩ := hA k hkl
    have h0 : w.cell? ⟨r, 0, none⟩ = some (.slice (some ⟨gb, 0, none⟩) g.L.length cap) := by rw [← hv]; exact h.ctl.cell 0 _ rfl
    have hfz := h.recFree hv (k * 5 + 1)
    have HS : Hid (RPost r w g { g with L := g.L.set k { nth g.L k with line := l } } (w.setCell ⟨gb, k * 5 + 1, none⟩ (.int .i64 l))) := RPost.setRec h hv hkl 1 (by omega) _ _ rfl
    dsimp only
    clear h hk hA hv
    generalize hn : g.L.length = n at h0 hkl hlen
    clear hn
    by_cases hl : l < 0 ∨ 15 < l
    · rw [if_pos hl]
      clear HS k2 c1 h0 hfz
      rcases hl with hl | hl
      · go_enter Try.func39, Try.ntmps39
        go_wp2_with fail
        refine k1.mono ?_
        rintro e w' ⟨rfl, rfl⟩
        clear k1
        go_wp2_with fail
        go_ret
        exact ⟨rfl, HP.out⟩
      · have hl2 : ¬ l < 0 := by omega
        go_enter Try.func39, Try.ntmps39
        go_wp2_with fail
        refine k1.mono ?_
        rintro e w' ⟨rfl, rfl⟩
        clear k1
        go_wp2_with fail
        go_ret
        exact ⟨rfl, HP.out⟩
    · rw [if_neg hl]
      have hl1 : ¬ l < 0 := fun x => hl (.inl x)
      have hl2 : ¬ 15 < l := fun x => hl (.inr x)
      clear hl
      by_cases ht : 0 ≤ (nth g.L k).line
      · rw [if_pos ht]
        clear HS k2 hfz
        generalize (nth g.L k).line = li at c1 ht
        go_enter Try.func39, Try.ntmps39
        go_wp2_with fail
        refine k1.mono ?_
        rintro e w' ⟨rfl, rfl⟩
        clear k1
        go_wp2_with fail
        go_ret
        exact ⟨rfl, HP.out⟩
      · rw [if_neg ht]
        by_cases ho : 0 ≤ onV g.L l
        · rw [if_pos ho]
          clear HS hfz
          generalize (nth g.L k).line = li at c1 ht
          generalize onV g.L l = ov at k2 ho
          go_enter Try.func39, Try.ntmps39
          go_wp2_with fail
          refine k1.mono ?_
          rintro e w' ⟨rfl, rfl⟩
          clear k1
          go_wp2_with fail
          refine k2.mono ?_
          rintro e w' ⟨rfl, rfl⟩
          clear k2
          go_wp2_with fail
          go_ret
          exact ⟨rfl, HP.out⟩
        · rw [if_neg ho]
          clear HP
          generalize (nth g.L k).line = li at c1 ht
          generalize onV g.L l = ov at k2 ho
          go_enter Try.func39, Try.ntmps39
          go_wp2_with fail
          refine k1.mono ?_
          rintro e w' ⟨rfl, rfl⟩
          clear k1
          go_wp2_with fail
          refine k2.mono ?_
          rintro e w' ⟨rfl, rfl⟩
          clear k2
          go_wp2_with fail
          go_ret
          exact ⟨rfl, HS.out⟩
end Go.Proofs.Ytekgfdfganelmaa
