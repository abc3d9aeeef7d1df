/- Walks of the document's functions that only read: on, Of, Ready. Condition: no list is longer than 1048576. -/
import Derived.Test.YtekgfdfganelmaaRefB
namespace Go.Proofs.Ytekgfdfganelmaa
open Go.RowKit

theorem atI_lt {L : List Rc} {id : Int} {k : Nat} (h : atI L id = some k) : k < L.length ∧ (nth L k).id = id := by
  unfold atI at h
  rw [List.findIdx?_eq_some_iff_getElem] at h
  obtain ⟨hk, h1, _⟩ := h
  have := nth_some hk
  rw [List.getElem?_eq_getElem hk] at this
  rw [Option.some.inj this] at h1
  exact ⟨hk, by simpa using h1⟩
def onI (L : List Rc) (l : Int) : Option Nat := L.findIdx? fun q => decide (0 ≤ l) && q.line == l
def onV (L : List Rc) (l : Int) : Int := match onI L l with | none => -1 | some k => (nth L k).id
theorem onI_some {L : List Rc} {l : Int} {k : Nat} (h0 : 0 ≤ l) (hk : k < L.length) (h : (nth L k).line = l) (hp : ∀ j, j < k → (nth L j).line ≠ l) : onI L l = some k := by
  unfold onI
  rw [List.findIdx?_eq_some_iff_getElem]
  refine ⟨hk, ?_, fun j hj => ?_⟩
  · have := nth_some hk; rw [List.getElem?_eq_getElem hk] at this; rw [Option.some.inj this]; simp [h, h0]
  · have hj' : j < L.length := by omega
    have := nth_some hj'; rw [List.getElem?_eq_getElem hj'] at this; rw [Option.some.inj this]; simp [hp j hj]
theorem onI_none {L : List Rc} {l : Int} (hp : ∀ j, j < L.length → ¬ (0 ≤ l ∧ (nth L j).line = l)) : onI L l = none := by
  unfold onI
  rw [List.findIdx?_eq_none_iff]
  intro q hq
  obtain ⟨j, hj, rfl⟩ := List.getElem_of_mem hq
  have := nth_some hj; rw [List.getElem?_eq_getElem hj] at this; rw [Option.some.inj this]
  have h2 := hp j hj
  simp only [Bool.and_eq_false_imp, decide_eq_true_eq, beq_eq_false_iff_ne]
  exact fun h0 h1 => h2 ⟨h0, h1⟩

set_option maxHeartbeats 1000000 in
theorem rOn_any {w : World} {r : Nat} {g : RG} (h : RRep w r g) (l : Int) (hlen : g.L.length ≤ 1048576) :
    Calls Try.prog 52 #[.pointer (some ⟨r, 0, none⟩), .int .i64 l] w fun e w' => e = .returned (.int .i64 (onV g.L l)) ∧ w = w' := by
  obtain ⟨a, cap, hv, hA⟩ := h.open_recs
  have h0 : w.cell? ⟨r, 0, none⟩ = some (.slice a g.L.length cap) := by rw [← hv]; exact h.ctl.cell 0 _ rfl
  generalize g.L = L at h0 hA hlen ⊢
  generalize hn : L.length = n at h0 hlen
  have HN : Hid (L.length = n) := hn
  have HA : Hid (RecsAt w a L) := hA
  clear hA h hv hn
  go_enter Try.func52, Try.ntmps52
  go_wp2_with fail
  go_loop [5] (fun iv => ∃ i : Nat, iv = .int .i64 i ∧ i ≤ n ∧ ∀ j, j < i → ¬ (0 ≤ l ∧ (nth L j).line = l)) (fun iv => n - (intOf iv).toNat)
  case atStart => exact ⟨0, rfl, Nat.zero_le _, by intro j hj; omega⟩
  case round =>
    obtain ⟨i, rfl, hi, hpre⟩ := hrel
    have Hp : Hid (∀ j, j < i → ¬ (0 ≤ l ∧ (nth L j).line = l)) := hpre
    clear hpre
    by_cases hlt : i < n
    · obtain ⟨gb, rfl, c0, c1, _⟩ := HA.out i (by rw [HN.out]; exact hlt)
      generalize hx : (nth L i).id = x at c0
      have Hx : Hid ((nth L i).id = x) := hx
      clear hx
      generalize hy : (nth L i).line = y at c1
      have Hy : Hid ((nth L i).line = y) := hy
      clear hy
      by_cases hl0 : 0 ≤ l
      · by_cases hid : y = l
        · subst hid
          go_wp2_with fail
          go_ret
          exact ⟨by unfold onV; rw [onI_some hl0 (by rw [HN.out]; exact hlt) Hy.out (fun j hj h => Hp.out j hj ⟨hl0, h⟩)]; show _ = Ending.returned (.int .i64 (nth L i).id); rw [Hx.out]; rfl, rfl⟩
        · have hb : (y == l) = false := by simpa using hid
          go_wp2_with fail
          go_round
          case rel =>
            refine ⟨i + 1, by go_num, by omega, fun j hj => ?_⟩
            by_cases e : j = i
            · subst e; rw [Hy.out]; exact fun h => hid h.2
            · exact Hp.out j (by omega)
          case measure => simp [intOf]; omega
      · go_wp2_with fail
        go_round
        case rel =>
          refine ⟨i + 1, by go_num, by omega, fun j hj => ?_⟩
          exact fun h => hl0 h.1
        case measure => simp [intOf]; omega
    · obtain rfl : i = n := by omega
      go_wp2_with fail
      go_ret
      exact ⟨by unfold onV; rw [onI_none (by rw [HN.out]; exact Hp.out)]; rfl, rfl⟩

def rdyB (L : List Rc) (row : List Int) (id : Int) : Bool := match atI L id with
  | none => false
  | some k => (rowI row id).isSome && !(nth L k).masked && decide (0 ≤ (nth L k).thread)

set_option maxHeartbeats 1000000 in
theorem rReady_any {w : World} {r : Nat} {g : RG} (h : RRep w r g) (id : Int) (hlen : g.L.length ≤ 1048576) (hlen2 : g.row.length ≤ 1048576) :
    Calls Try.prog 47 #[.pointer (some ⟨r, 0, none⟩), .int .i64 id] w fun e w' => e = .returned (.bool (rdyB g.L g.row id)) ∧ w = w' := by
  have k1 := rAt_any h id hlen
  have k2 := rWaits_any h id hlen2
  obtain ⟨a, cap, hv, hA⟩ := h.open_recs
  have h0 : w.cell? ⟨r, 0, none⟩ = some (.slice a g.L.length cap) := by rw [← hv]; exact h.ctl.cell 0 _ rfl
  generalize g.L = L at h0 hA hlen k1 ⊢
  generalize g.row = row at k2 hlen2 ⊢
  clear hv h
  unfold rdyB
  cases hk : atI L id with
  | none =>
    rw [hk] at k1
    simp only [numOf] at k1
    clear hk hA k2 h0 hlen hlen2
    go_enter Try.func47, Try.ntmps47
    go_wp2_with fail
    refine k1.mono ?_
    rintro e w' ⟨rfl, rfl⟩
    clear k1
    go_wp2_with fail
    go_ret
    exact ⟨rfl, rfl⟩
  | some k =>
    rw [hk] at k1
    simp only [numOf] at k1
    obtain ⟨hkl, _⟩ := atI_lt hk
    obtain ⟨gb, rfl, _, _, c2, _, c4⟩ := hA k hkl
    clear hA hk
    dsimp only
    generalize (nth L k).thread = th at c2 ⊢
    generalize (nth L k).masked = mk at c4 ⊢
    generalize L.length = n at h0 hkl hlen
    cases hw : rowI row id with
    | none =>
      rw [hw] at k2
      simp only [numOf] at k2
      clear hw
      go_enter Try.func47, Try.ntmps47
      go_wp2_with fail
      refine k1.mono ?_
      rintro e w' ⟨rfl, rfl⟩
      clear k1
      go_wp2_with fail
      refine k2.mono ?_
      rintro e w' ⟨rfl, rfl⟩
      clear k2
      go_wp2_with fail
      go_ret
      exact ⟨rfl, rfl⟩
    | some j =>
      rw [hw] at k2
      simp only [numOf] at k2
      clear hw
      go_enter Try.func47, Try.ntmps47
      go_wp2_with fail
      refine k1.mono ?_
      rintro e w' ⟨rfl, rfl⟩
      clear k1
      go_wp2_with fail
      refine k2.mono ?_
      rintro e w' ⟨rfl, rfl⟩
      clear k2
      cases mk <;> by_cases ht : 0 ≤ th <;>
      · go_wp2_with fail
        go_ret
        exact ⟨by simp [ht], rfl⟩
end Go.Proofs.Ytekgfdfganelmaa
