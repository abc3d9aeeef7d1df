/- Walks of the document's functions that only read. Condition: no list is longer than 1048576. -/
import Derived.Test.YtekgfdfganelmaaRefA
namespace Go.Proofs.Ytekgfdfganelmaa
open Go.RowKit

set_option maxHeartbeats 1000000 in
theorem rAt_any {w : World} {r : Nat} {g : RG} (h : RRep w r g) (id : Int) (hlen : g.L.length ≤ 1048576) :
    Calls Try.prog 46 #[.pointer (some ⟨r, 0, none⟩), .int .i64 id] w fun e w' => e = .returned (.int .i64 (numOf (atI g.L id))) ∧ w = w' := by
  obtain ⟨a, cap, hv, hA⟩ := h.open_recs
  have h0 : w.cell? ⟨r, 0, none⟩ = some (.slice a g.L.length cap) := by rw [← hv]; exact h.ctl.cell 0 _ rfl
  generalize g.L = L at h0 hA hlen ⊢
  generalize hn : L.length = n at h0 hlen
  have HN : Hid (L.length = n) := hn
  have HA : Hid (RecsAt w a L) := hA
  clear hA h hv hn
  go_enter Try.func46, Try.ntmps46
  go_wp2_with fail
  go_loop [5] (fun iv => ∃ i : Nat, iv = .int .i64 i ∧ i ≤ n ∧ ∀ j, j < i → (nth L j).id ≠ id) (fun iv => n - (intOf iv).toNat)
  case atStart => exact ⟨0, rfl, Nat.zero_le _, by intro j hj; omega⟩
  case round =>
    obtain ⟨i, rfl, hi, hpre⟩ := hrel
    have Hp : Hid (∀ j, j < i → (nth L j).id ≠ id) := hpre
    clear hpre
    by_cases hlt : i < n
    · obtain ⟨gb, rfl, c0, _⟩ := HA.out i (by rw [HN.out]; exact hlt)
      generalize hx : (nth L i).id = x at c0
      have Hx : Hid ((nth L i).id = x) := hx
      clear hx
      by_cases hid : x = id
      · subst hid
        go_wp2_with fail
        go_ret
        exact ⟨by rw [atI_some (by rw [HN.out]; exact hlt) Hx.out Hp.out]; rfl, rfl⟩
      · have hb : (x == id) = false := by simpa using hid
        go_wp2_with fail
        go_round
        case rel =>
          refine ⟨i + 1, by go_num, by omega, fun j hj => ?_⟩
          by_cases e : j = i
          · subst e; rw [Hx.out]; exact hid
          · exact Hp.out j (by omega)
        case measure => simp [intOf]; omega
    · obtain rfl : i = n := by omega
      go_wp2_with fail
      go_ret
      exact ⟨by rw [atI_none (by rw [HN.out]; exact Hp.out)]; rfl, rfl⟩

set_option maxHeartbeats 1000000 in
theorem rWaits_any {w : World} {r : Nat} {g : RG} (h : RRep w r g) (id : Int) (hlen : g.row.length ≤ 1048576) :
    Calls Try.prog 53 #[.pointer (some ⟨r, 0, none⟩), .int .i64 id] w fun e w' => e = .returned (.int .i64 (numOf (rowI g.row id))) ∧ w = w' := by
  obtain ⟨a, cap, hv, hA⟩ := h.open_row
  have h0 : w.cell? ⟨r, 1, none⟩ = some (.slice a g.row.length cap) := by rw [← hv]; exact h.ctl.cell 1 _ rfl
  generalize g.row = L at h0 hA hlen ⊢
  generalize hn : L.length = n at h0 hlen
  have HN : Hid (L.length = n) := hn
  have HA : Hid (IntsAt w a L) := hA
  clear hA h hv hn
  go_enter Try.func53, Try.ntmps53
  go_wp2_with fail
  go_loop [5] (fun iv => ∃ i : Nat, iv = .int .i64 i ∧ i ≤ n ∧ ∀ j, j < i → L[j]?.getD 0 ≠ id) (fun iv => n - (intOf iv).toNat)
  case atStart => exact ⟨0, rfl, Nat.zero_le _, by intro j hj; omega⟩
  case round =>
    obtain ⟨i, rfl, hi, hpre⟩ := hrel
    have Hp : Hid (∀ j, j < i → L[j]?.getD 0 ≠ id) := hpre
    clear hpre
    by_cases hlt : i < n
    · obtain ⟨gb, rfl, c0⟩ := HA.out i (by rw [HN.out]; exact hlt)
      generalize hx : L[i]?.getD 0 = x at c0
      have Hx : Hid (L[i]?.getD 0 = x) := hx
      clear hx
      by_cases hid : x = id
      · subst hid
        go_wp2_with fail
        go_ret
        exact ⟨by rw [rowI_some (by rw [HN.out]; exact hlt) Hx.out Hp.out]; rfl, rfl⟩
      · have hb : (x == id) = false := by simpa using hid
        go_wp2_with fail
        go_round
        case rel =>
          refine ⟨i + 1, by go_num, by omega, fun j hj => ?_⟩
          by_cases e : j = i
          · subst e; rw [Hx.out]; exact hid
          · exact Hp.out j (by omega)
        case measure => simp [intOf]; omega
    · obtain rfl : i = n := by omega
      go_wp2_with fail
      go_ret
      exact ⟨by rw [rowI_none (by rw [HN.out]; exact Hp.out)]; rfl, rfl⟩
end Go.Proofs.Ytekgfdfganelmaa
