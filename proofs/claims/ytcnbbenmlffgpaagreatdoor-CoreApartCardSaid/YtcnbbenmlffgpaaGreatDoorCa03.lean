/- CoreApart returns true at every input. No condition. Part of its proof. -/
import Derived.Test.YtcnbbenmlffgpaaGreatDoorCa02
import Derived.Deep.RegionHeld3
import Derived.Maps.AppendAt
import Derived.IntWalk
set_option linter.unusedVariables false
/- Bitmaps in memory, and walks of their small methods. Conditions: the blocks hold what BM.hl says. -/
namespace Go.Proofs.YtcnbbenmlffgpaaGreatDoor
open Go.RowKit

structure BM where
  b : Nat
  wb : Nat
  bits : List Bool
def bitAt (bits : List Bool) (k : Nat) : Nat → Bool := fun j => bits[64 * k + j]?.getD false
def nwords (n : Nat) : Nat := (n + 63) / 64
def wcells (bits : List Bool) : List Value := (List.range (nwords bits.length)).map fun k => .int .u64 (wordN (bitAt bits k) 64 : Nat)
def BM.hl (m : BM) : HL := [(m.b, isC 221 [.int .i64 m.bits.length, .slice (some ⟨m.wb, 0, none⟩) (nwords m.bits.length) (nwords m.bits.length)]), (m.wb, isC 193 (wcells m.bits))]
section
variable {w : World} {m : BM}
theorem BM.c0 (h : Sep w m.hl) : w.cell? ⟨m.b, 0, none⟩ = some (.int .i64 m.bits.length) := (h.cells (T := 221) (cs := [.int .i64 m.bits.length, .slice (some ⟨m.wb, 0, none⟩) (nwords m.bits.length) (nwords m.bits.length)]) (by simp [BM.hl])).cell 0 _ rfl
theorem BM.c1 (h : Sep w m.hl) : w.cell? ⟨m.b, 1, none⟩ = some (.slice (some ⟨m.wb, 0, none⟩) (nwords m.bits.length) (nwords m.bits.length)) := (h.cells (T := 221) (cs := [.int .i64 m.bits.length, .slice (some ⟨m.wb, 0, none⟩) (nwords m.bits.length) (nwords m.bits.length)]) (by simp [BM.hl])).cell 1 _ rfl
theorem BM.wcell (h : Sep w m.hl) (k : Nat) (hk : k < nwords m.bits.length) : w.cell? ⟨m.wb, k, none⟩ = some (.int .u64 (wordN (bitAt m.bits k) 64 : Nat)) :=
  (h.cells (T := 193) (cs := wcells m.bits) (by simp [BM.hl])).cell k _ (by simp [wcells, hk])
theorem BM.wfree (h : Sep w m.hl) (k : Nat) : w.frozen? ⟨m.wb, k, none⟩ = false := (h.cells (T := 193) (cs := wcells m.bits) (by simp [BM.hl])).free k
end
set_option maxHeartbeats 400000 in
theorem bmlen_any {w : World} {m : BM} (h : Sep w m.hl) : Calls Tryz.prog 136 #[.pointer (some ⟨m.b, 0, none⟩)] w fun r w' => r = .returned (.int .i64 m.bits.length) ∧ w = w' := by
  have c0 := BM.c0 h
  clear h
  go_enter Tryz.func136, Tryz.ntmps136
  go_wp2
  go_ret
  exact ⟨rfl, rfl⟩
set_option maxHeartbeats 400000 in
theorem bmget_out {w : World} {m : BM} (h : Sep w m.hl) (i : Int) (hi : i < 0 ∨ m.bits.length ≤ i) : Calls Tryz.prog 174 #[.pointer (some ⟨m.b, 0, none⟩), .int .i64 i] w fun r w' => r = .returned (.bool false) ∧ w = w' := by
  have k1 := bmlen_any h
  clear h
  generalize m.bits.length = n at *
  rcases (show i < 0 ∨ 0 ≤ i by omega) with h0 | h0
  · have h1 : ¬ 0 ≤ i := by omega
    go_enter Tryz.func174, Tryz.ntmps174
    go_wp2_with (go_at_call 136; refine k1.mono ?_; rintro e w' ⟨rfl, rfl⟩)
    go_ret
    exact ⟨rfl, rfl⟩
  · have h1 : ¬ i < n := by omega
    have h2 : decide (i < n) = false := by simpa using h1
    go_enter Tryz.func174, Tryz.ntmps174
    go_wp2_with (go_at_call 136; refine k1.mono ?_; rintro e w' ⟨rfl, rfl⟩)
    go_ret
    exact ⟨rfl, rfl⟩
set_option maxHeartbeats 400000 in
theorem bmget_in {w : World} {m : BM} (h : Sep w m.hl) (i : Nat) (hi : i < m.bits.length) (hn : m.bits.length ≤ 1048576) : Calls Tryz.prog 174 #[.pointer (some ⟨m.b, 0, none⟩), .int .i64 i] w fun r w' => r = .returned (.bool (m.bits[i]?.getD false)) ∧ w = w' := by
  have k1 := bmlen_any h
  have c1 := BM.c1 h
  have hq : i / 64 < nwords m.bits.length := by unfold nwords; omega
  have cw := BM.wcell h (i / 64) hq
  have hg := word_get (bitAt m.bits (i / 64)) (i % 64) (by omega)
  have hx := wordN_lt (bitAt m.bits (i / 64)) 64
  have HB : Hid (bitAt m.bits (i / 64) (i % 64) = m.bits[i]?.getD false) := by unfold bitAt; congr 2; omega
  clear h
  generalize wordN (bitAt m.bits (i / 64)) 64 = x at *
  generalize m.bits.length = n at *
  have hv : (bits BinOp.and IntKind.u64 ((x : Int) / 2 ^ (i % 64)) 1 == 1) = bitAt m.bits (i / 64) (i % 64) := by
    rw [show ((x : Int) / 2 ^ (i % 64)) = ((x / 2 ^ (i % 64) : Nat) : Int) from by push_cast; rfl, show (1 : Int) = ((1 : Nat) : Int) from rfl, bits_and _ _ (Nat.lt_of_le_of_lt (Nat.div_le_self _ _) hx) (by decide), hg]
    cases bitAt m.bits (i / 64) (i % 64) <;> rfl
  go_enter Tryz.func174, Tryz.ntmps174
  go_wp2_with (go_at_call 136; refine k1.mono ?_; rintro e w' ⟨rfl, rfl⟩)
  go_ret
  exact ⟨by rw [← HB.out]; rfl, rfl⟩

/-! Setting one bit. -/
theorem bits_get_set (bits : List Bool) (i : Nat) (hi : i < bits.length) (on : Bool) (j : Nat) : (bits.set i on)[j]?.getD false = if j = i then on else bits[j]?.getD false := by
  rw [List.getElem?_set]
  by_cases h : i = j
  · subst h; simp [hi]
  · simp [h, show ¬ j = i from fun e => h e.symm]
theorem wcells_set (bits : List Bool) (i : Nat) (hi : i < bits.length) (on : Bool) (hne : bits[i]?.getD false ≠ on) :
    (wcells bits).set (i / 64) (.int .u64 ((wordN (bitAt bits (i / 64)) 64 ^^^ 2 ^ (i % 64) : Nat))) = wcells (bits.set i on) := by
  apply List.ext_getElem?
  intro k
  have hq : i / 64 < nwords bits.length := by unfold nwords; omega
  rw [List.getElem?_set]
  unfold wcells
  simp only [List.length_map, List.length_range, List.getElem?_map, List.length_set]
  by_cases hk : i / 64 = k
  · subst hk
    simp only [if_true, hq, List.getElem?_range hq, Option.map_some]
    rw [word_flip _ _ (by omega)]
    congr 3
    apply wordN_congr
    intro j hj
    unfold bitAt
    rw [bits_get_set _ _ hi]
    by_cases hj2 : j = i % 64
    · subst hj2
      have e : 64 * (i / 64) + i % 64 = i := by omega
      simp only [if_true, e]
      cases h1 : bits[i]?.getD false <;> cases on <;> simp_all
    · have e : ¬ 64 * (i / 64) + j = i := by omega
      simp [hj2, e]
  · rw [if_neg hk]
    by_cases hkn : k < nwords bits.length
    · simp only [List.getElem?_range hkn, Option.map_some]
      congr 3
      apply wordN_congr
      intro j hj
      unfold bitAt
      rw [bits_get_set _ _ hi, if_neg (by omega)]
    · rw [List.getElem?_eq_none (by simp; omega)]; rfl
def bset (bits : List Bool) (on : Bool) (i : Nat) : List Bool := bits.set i on
theorem BM.set (m : BM) {w : World} (h : Sep w m.hl) (i : Nat) (hi : i < m.bits.length) (on : Bool) (hne : m.bits[i]?.getD false ≠ on) :
    Step m.hl ({ m with bits := m.bits.set i on } : BM).hl w (w.setCell ⟨m.wb, i / 64, none⟩ (.int .u64 ((wordN (bitAt m.bits (i / 64)) 64 ^^^ 2 ^ (i % 64) : Nat)))) := by
  have e : ({ m with bits := m.bits.set i on } : BM).hl = [(m.b, isC 221 [.int .i64 m.bits.length, .slice (some ⟨m.wb, 0, none⟩) (nwords m.bits.length) (nwords m.bits.length)])] ++ (m.wb, isC 193 ((wcells m.bits).set (i / 64) (.int .u64 ((wordN (bitAt m.bits (i / 64)) 64 ^^^ 2 ^ (i % 64) : Nat))))) :: [] := by
    rw [wcells_set _ _ hi on hne]
    simp [BM.hl]
  rw [e]
  exact Sep.set (A := [_]) (B := []) h (i / 64) _
set_option maxHeartbeats 400000 in
theorem bmset_same {w : World} {m : BM} (h : Sep w m.hl) (on : Bool) (i : Nat) (hi : i < m.bits.length) (hn : m.bits.length ≤ 1048576) (hs : m.bits[i]?.getD false = on) (g : Nat) (hg : w.cell? ⟨g, 0, none⟩ = some (.int .i64 i)) :
    Calls Tryz.prog 148 #[.pointer (some ⟨m.b, 0, none⟩), .bool on, .slice (some ⟨g, 0, none⟩) 1 1] w fun r w' => r = .returned (.int .i64 0) ∧ w = w' := by
  have k1 := bmlen_any h
  have k2 := bmget_in h i hi hn
  rw [hs] at k2
  have hb : (on != on) = false := by simp
  have hb2 : (!on == on) = false := by cases on <;> rfl
  clear h hs
  generalize m.bits.length = n at *
  go_enter Tryz.func148, Tryz.ntmps148
  go_wp2_with fail
  go_loop [7, 12] (fun nv iv => nv = .int .i64 0 ∧ ∃ k : Nat, k ≤ 1 ∧ iv = .int .i64 k) (fun _ iv => 1 - (intOf iv).toNat)
  case atStart => exact ⟨rfl, 0, by omega, rfl⟩
  case round =>
    obtain ⟨rfl, k, hk, rfl⟩ := hrel
    by_cases h0 : k = 0
    · subst h0
      go_wp2_with (first | (go_at_call 136; refine k1.mono ?_; rintro e w' ⟨rfl, rfl⟩) | (go_at_call 174; refine k2.mono ?_; rintro e w' ⟨rfl, rfl⟩))
      go_round
      case rel => exact ⟨rfl, 1, by omega, by go_num⟩
      case measure => simp [intOf]
    · obtain rfl : k = 1 := by omega
      go_wp2_with fail
      go_ret
      exact ⟨rfl, rfl⟩
set_option maxHeartbeats 400000 in
theorem bmset_out {w : World} {m : BM} (h : Sep w m.hl) (on : Bool) (i : Int) (hi : i < 0 ∨ m.bits.length ≤ i) (g : Nat) (hg : w.cell? ⟨g, 0, none⟩ = some (.int .i64 i)) :
    Calls Tryz.prog 148 #[.pointer (some ⟨m.b, 0, none⟩), .bool on, .slice (some ⟨g, 0, none⟩) 1 1] w fun r w' => r = .returned (.int .i64 0) ∧ w = w' := by
  have k1 := bmlen_any h
  clear h
  generalize m.bits.length = n at *
  go_enter Tryz.func148, Tryz.ntmps148
  go_wp2_with fail
  go_loop [7, 12] (fun nv iv => nv = .int .i64 0 ∧ ∃ k : Nat, k ≤ 1 ∧ iv = .int .i64 k) (fun _ iv => 1 - (intOf iv).toNat)
  case atStart => exact ⟨rfl, 0, by omega, rfl⟩
  case round =>
    obtain ⟨rfl, k, hk, rfl⟩ := hrel
    by_cases h0 : k = 0
    · subst h0
      by_cases h1 : i < 0
      · have h2 : ¬ 0 ≤ i := by omega
        go_wp2_with (first | (go_at_call 136; refine k1.mono ?_; rintro e w' ⟨rfl, rfl⟩))
        go_round
        case rel => exact ⟨rfl, 1, by omega, by go_num⟩
        case measure => simp [intOf]
      · have h2 : ¬ i < n := by omega
        have h3 : decide (i < n) = false := by simpa using h2
        have h4 : 0 ≤ i := by omega
        go_wp2_with (first | (go_at_call 136; refine k1.mono ?_; rintro e w' ⟨rfl, rfl⟩))
        go_round
        case rel => exact ⟨rfl, 1, by omega, by go_num⟩
        case measure => simp [intOf]
    · obtain rfl : k = 1 := by omega
      go_wp2_with fail
      go_ret
      exact ⟨rfl, rfl⟩
set_option maxHeartbeats 1000000 in
theorem bmset_turn {w : World} {m : BM} (h : Sep w m.hl) (on : Bool) (i : Nat) (hi : i < m.bits.length) (hn : m.bits.length ≤ 1048576) (hs : m.bits[i]?.getD false ≠ on) (g : Nat) (hg : w.cell? ⟨g, 0, none⟩ = some (.int .i64 i)) (hgk : g ∉ keys m.hl) :
    Calls Tryz.prog 148 #[.pointer (some ⟨m.b, 0, none⟩), .bool on, .slice (some ⟨g, 0, none⟩) 1 1] w fun r w' => r = .returned (.int .i64 1) ∧ Step m.hl ({ m with bits := m.bits.set i on } : BM).hl w w' := by
  have k1 := bmlen_any h
  have k2 := bmget_in h i hi hn
  have hb : (m.bits[i]?.getD false != on) = true := by simpa using hs
  have hb2 : (!m.bits[i]?.getD false == on) = true := by cases h1 : m.bits[i]?.getD false <;> cases on <;> simp_all
  have HS := hidden (BM.set m h i hi on hs)
  have c1 := BM.c1 h
  have hq : i / 64 < nwords m.bits.length := by unfold nwords; omega
  have cw := BM.wcell h (i / 64) hq
  have hf := BM.wfree h (i / 64)
  have hx := wordN_lt (bitAt m.bits (i / 64)) 64
  have hp : 2 ^ (i % 64) < 2 ^ 64 := Nat.pow_lt_pow_right (by omega) (by omega)
  have hxor := bits_xor (wordN (bitAt m.bits (i / 64)) 64) (2 ^ (i % 64)) hx hp
  have hd4 : IntKind.u64.wrap (2 ^ (i % 64)) = ((2 ^ (i % 64) : Nat) : Int) := by
    have hd3 : ((2 ^ (i % 64) : Nat) : Int) = 2 ^ (i % 64) := by push_cast; rfl
    rw [← hd3, wrapu]
    refine Int.emod_eq_of_lt (Int.natCast_nonneg _) ?_
    have := Int.ofNat_lt.2 hp
    simpa using this
  clear h hs
  generalize m.bits[i]?.getD false = old at *
  generalize wordN (bitAt m.bits (i / 64)) 64 = x at *
  generalize (2 : Nat) ^ (i % 64) = p at *
  generalize x ^^^ p = y at *
  generalize hm2 : ({ m with bits := m.bits.set i on } : BM).hl = H' at *
  generalize m.hl = H at *
  generalize m.bits.length = n at *
  clear hm2 hx hp
  go_enter Tryz.func148, Tryz.ntmps148
  go_wp2_with fail
  go_loopw [7, 12] (fun nv iv wr => (nv = .int .i64 0 ∧ iv = .int .i64 0 ∧ wr = w) ∨ (nv = .int .i64 1 ∧ iv = .int .i64 1 ∧ Step H H' w wr)) (fun _ iv _ => 1 - (intOf iv).toNat)
  case atStart => exact .inl ⟨rfl, rfl, rfl⟩
  case round =>
    rcases hrel with ⟨rfl, rfl, rfl⟩ | ⟨rfl, rfl, hst⟩
    · go_wp2_with (first | (go_at_call 136; refine k1.mono ?_; rintro e w' ⟨rfl, rfl⟩) | (go_at_call 174; refine k2.mono ?_; rintro e w' ⟨rfl, rfl⟩))
      have hd1 : (i : Int).tdiv 64 = ((i / 64 : Nat) : Int) := by rw [Int.tdiv_eq_ediv_of_nonneg (by omega)]; omega
      have hd2 : (i : Int).tmod 64 = ((i % 64 : Nat) : Int) := by rw [Int.tmod_eq_emod_of_nonneg (by omega)]; omega
      go_region
      go_wp2_with fail
      go_roundw
      case rel => exact .inr ⟨rfl, rfl, HS.out.drew⟩
      case measure => simp [intOf]
    · go_wp2_with fail
      go_ret
      exact ⟨rfl, hst⟩

/-! The first bit that is so. -/
def firstI (bits : List Bool) (on : Bool) (from_ : Nat) : Option Nat := (List.range bits.length).find? fun j => decide (from_ ≤ j) && ((bits[j]?.getD false) == on)
def optI : Option Nat → Int
  | none => -1
  | some j => j
theorem firstI_some {bits : List Bool} {on : Bool} {s j : Nat} (hj : j < bits.length) (hs : s ≤ j) (h : bits[j]?.getD false = on) (hp : ∀ i, s ≤ i → i < j → bits[i]?.getD false ≠ on) : firstI bits on s = some j := by
  unfold firstI
  rw [List.find?_range_eq_some]
  refine ⟨by simp [hs, h], by simpa using hj, fun i hi => ?_⟩
  by_cases h1 : s ≤ i
  · simp [hp i h1 hi]
  · simp [h1]
theorem firstI_none {bits : List Bool} {on : Bool} {s : Nat} (hp : ∀ i, s ≤ i → i < bits.length → bits[i]?.getD false ≠ on) : firstI bits on s = none := by
  unfold firstI
  rw [List.find?_eq_none]
  intro i hi
  simp only [List.mem_range] at hi
  by_cases h1 : s ≤ i
  · simp [hp i h1 hi]
  · simp [h1]
theorem firstI_spec {bits : List Bool} {on : Bool} {s j : Nat} (h : firstI bits on s = some j) : j < bits.length ∧ s ≤ j ∧ bits[j]?.getD false = on ∧ ∀ i, s ≤ i → i < j → bits[i]?.getD false ≠ on := by
  unfold firstI at h
  rw [List.find?_range_eq_some] at h
  obtain ⟨h1, h2, h3⟩ := h
  simp only [Bool.and_eq_true, decide_eq_true_eq, beq_iff_eq] at h1
  refine ⟨by simpa using h2, h1.1, h1.2, fun i hi hij => ?_⟩
  have := h3 i hij
  simpa [hi] using this
theorem firstI_no {bits : List Bool} {on : Bool} {s : Nat} (h : firstI bits on s = none) : ∀ i, s ≤ i → i < bits.length → bits[i]?.getD false ≠ on := by
  unfold firstI at h
  rw [List.find?_eq_none] at h
  intro i hi hl
  have := h i (by simpa using hl)
  simpa [hi] using this
set_option maxHeartbeats 400000 in
theorem bmword_any {w : World} {m : BM} (h : Sep w m.hl) (on : Bool) (k : Nat) (hk : k < nwords m.bits.length) :
    Calls Tryz.prog 137 #[.pointer (some ⟨m.b, 0, none⟩), .bool on, .int .i64 k] w fun r w' => r = .returned (.int .u64 (wordN (fun j => bitAt m.bits k j == on) 64 : Nat)) ∧ w = w' := by
  have c1 := BM.c1 h
  have cw := BM.wcell h k hk
  have hx := wordN_lt (bitAt m.bits k) 64
  have hnot := word_not (bitAt m.bits k)
  clear h
  cases on with
  | true =>
    have e : wordN (fun j => bitAt m.bits k j == true) 64 = wordN (bitAt m.bits k) 64 := wordN_congr _ _ _ fun j _ => by simp
    rw [e]
    generalize wordN (bitAt m.bits k) 64 = x at *
    generalize nwords m.bits.length = nw at *
    clear hnot e
    go_enter Tryz.func137, Tryz.ntmps137
    go_wp2
    go_ret
    exact ⟨rfl, rfl⟩
  | false =>
    have e : wordN (fun j => bitAt m.bits k j == false) 64 = wordN (fun j => !bitAt m.bits k j) 64 := wordN_congr _ _ _ fun j _ => by simp
    rw [e, ← hnot]
    generalize wordN (bitAt m.bits k) 64 = x at *
    generalize nwords m.bits.length = nw at *
    clear hnot e
    have hx2 : bits BinOp.xor IntKind.u64 IntKind.u64.max (x : Int) = ((x ^^^ 18446744073709551615 : Nat) : Int) := by
      rw [show IntKind.u64.max = ((18446744073709551615 : Nat) : Int) from by decide, bits_xor _ _ (by decide) hx, Nat.xor_comm]
    have HX := hidden hx2
    clear hx2
    go_enter Tryz.func137, Tryz.ntmps137
    go_wp2
    go_ret
    exact ⟨by rw [← HX.out]; rfl, rfl⟩
/-- The word that a round looks at: its bits from s on, those that are so. -/
def cutF (bits : List Bool) (on : Bool) (s k : Nat) : Nat → Bool := fun j => decide (s ≤ 64 * k + j) && (bitAt bits k j == on)
theorem cast_cut (x s : Nat) : IntKind.u64.wrap ((x : Int) / 2 ^ s * 2 ^ s) = ((x / 2 ^ s * 2 ^ s % 18446744073709551616 : Nat) : Int) := by
  rw [wrapu, Int.natCast_emod, Int.natCast_mul, Int.natCast_ediv, Int.natCast_pow]; rfl
/-- The word that a round has, and the one that it looks at. -/
theorem word_round (bits : List Bool) (on : Bool) (s k : Nat) (hk : s / 64 ≤ k) : ∃ X Y : Nat, wordN (fun j => bitAt bits k j == on) 64 = X ∧ Y = wordN (cutF bits on s k) 64 ∧
    ((k = s / 64 ∧ IntKind.u64.wrap ((X : Int) / 2 ^ (s % 64) * 2 ^ (s % 64)) = (Y : Int)) ∨ (k ≠ s / 64 ∧ X = Y)) := by
  refine ⟨_, _, rfl, rfl, ?_⟩
  by_cases h : k = s / 64
  · left
    refine ⟨h, ?_⟩
    rw [cast_cut, word_cut]
    congr 1
    refine wordN_congr _ _ _ fun j hj => ?_
    unfold cutF
    congr 1
    rw [decide_eq_decide]; omega
  · right
    refine ⟨h, wordN_congr _ _ _ fun j hj => ?_⟩
    unfold cutF
    have : s ≤ 64 * k + j := by omega
    simp [this]
theorem tz64_zero {w : World} : Calls Tryz.prog 138 #[.int .u64 0] w fun r w' => r = .returned (.int .i64 64) ∧ w = w' := by
  go_enter Tryz.func138, Tryz.ntmps138
  go_wp2
  go_ret
  exact ⟨rfl, rfl⟩
theorem least (f : Nat → Bool) (n : Nat) : (∀ j, j < n → f j = false) ∨ ∃ t, t < n ∧ f t = true ∧ ∀ j, j < t → f j = false := by
  induction n with
  | zero => left; intro j hj; omega
  | succ n ih =>
    rcases ih with h | ⟨t, h1, h2, h3⟩
    · cases hf : f n with
      | true => exact .inr ⟨n, by omega, hf, h⟩
      | false => left; intro j hj; rcases Nat.lt_succ_iff_lt_or_eq.1 hj with h' | h'; exact h j h'; subst h'; exact hf
    · exact .inr ⟨t, by omega, h2, h3⟩
set_option maxHeartbeats 2000000 in
theorem bmfirst_any {w : World} {m : BM} (h : Sep w m.hl) (on : Bool) (s : Nat) (hs : s ≤ 1048576) (hn : m.bits.length ≤ 1048576) :
    Calls Tryz.prog 88 #[.pointer (some ⟨m.b, 0, none⟩), .bool on, .int .i64 s] w fun r w' => r = .returned (.int .i64 (optI (firstI m.bits on s))) ∧ w = w' := by
  have k1 := bmlen_any h
  have k2 := hidden (fun k hk => bmword_any h on k hk)
  have c0 := BM.c0 h
  have HT := hidden h.env.tabB
  clear h
  have HF := hidden (show ∀ j, j < m.bits.length → s ≤ j → m.bits[j]?.getD false = on → (∀ i, s ≤ i → i < j → m.bits[i]?.getD false ≠ on) → firstI m.bits on s = some j from fun j h1 h2 h3 h4 => firstI_some h1 h2 h3 h4)
  have HN := hidden (show (∀ i, s ≤ i → i < m.bits.length → m.bits[i]?.getD false ≠ on) → firstI m.bits on s = none from firstI_none)
  generalize hlen : m.bits.length = n at *
  have HL := hidden hlen
  clear hlen
  go_enter Tryz.func88, Tryz.ntmps88
  go_wp2_with fail
  go_loop [7] (fun kv => ∃ k : Nat, kv = .int .i64 k ∧ s / 64 ≤ k ∧ k ≤ s / 64 + nwords n ∧ ∀ i, s ≤ i → i < 64 * k → i < n → m.bits[i]?.getD false ≠ on) (fun kv => s / 64 + nwords n - (intOf kv).toNat)
  case atStart => exact ⟨s / 64, by go_num, Nat.le_refl _, by omega, by intro i h1 h2 _; omega⟩
  case round =>
    obtain ⟨k, rfl, hk1, hk2, hpre⟩ := hrel
    have HPr := hidden hpre
    clear hpre
    have hkb : k ≤ 40000 := by unfold nwords at hk2; omega
    by_cases hlt : k * 64 < n
    · have hkw : k < nwords n := by unfold nwords; omega
      go_wp2_with fail
      refine k1.mono ?_
      rintro e w' ⟨rfl, rfl⟩
      go_wp2_with fail
      refine (k2.out k hkw).mono ?_
      rintro e w' ⟨rfl, rfl⟩
      obtain ⟨X, Y, hX, hY, hG⟩ := word_round m.bits on s k hk1
      rw [hX]
      have HY := hidden hY
      have hYlt : Y < 2 ^ 64 := by rw [hY]; exact wordN_lt _ _
      clear hX hY
      have hcase : (Y = 0 ∧ ∀ j, j < 64 → cutF m.bits on s k j = false) ∨ ∃ t, Y ≠ 0 ∧ t < 64 ∧ cutF m.bits on s k t = true ∧ ∀ j, j < t → cutF m.bits on s k j = false := by
        rcases least (cutF m.bits on s k) 64 with h | ⟨t, h1, h2, h3⟩
        · exact .inl ⟨by rw [HY.out]; exact wordN_zero.2 h, h⟩
        · refine .inr ⟨t, ?_, h1, h2, h3⟩
          intro e
          rw [HY.out, wordN_zero] at e
          rw [e t h1] at h2; cases h2
      have hnext : (∀ j, j < 64 → 64 * k + j < n → cutF m.bits on s k j = false) → ∀ i, s ≤ i → i < 64 * (k + 1) → i < n → m.bits[i]?.getD false ≠ on := by
        intro hz i h1 h2 h3 h4
        by_cases h5 : i < 64 * k
        · exact HPr.out i h1 h5 h3 h4
        · have := hz (i - 64 * k) (by omega) (by omega)
          unfold cutF bitAt at this
          rw [show 64 * k + (i - 64 * k) = i from by omega] at this
          simp [h1, h4] at this
      have HNx := hidden hnext
      clear hnext
      have hne64 : k + 1 ≤ s / 64 + nwords n := by unfold nwords; omega
      rcases hcase with ⟨hY0, hz⟩ | ⟨t, hY0, ht, hgt, hgl⟩
      · have Hz := hidden hz
        clear hz hYlt
        subst hY0
        rcases hG with ⟨hk, hcut⟩ | ⟨hk, hXY⟩
        · have hbk : ((k : Int) == (s : Int) / 64) = true := by simp; omega
          have hcut' : IntKind.u64.wrap ((X : Int) / 2 ^ (s % 64) * 2 ^ (s % 64)) = 0 := by simpa using hcut
          clear hcut hk
          go_wp2_with fail
          refine tz64_zero.mono ?_
          rintro e w' ⟨rfl, rfl⟩
          go_wp2_with fail
          go_round
          case rel => exact ⟨k + 1, by go_num, by omega, hne64, HNx.out fun j h1 _ => Hz.out j h1⟩
          case measure => simp [intOf]; omega
        · have hbk : ((k : Int) == (s : Int) / 64) = false := by simp; omega
          have hX0 : X = 0 := hXY
          subst hX0
          clear hXY hk
          go_wp2_with fail
          refine tz64_zero.mono ?_
          rintro e w' ⟨rfl, rfl⟩
          go_wp2_with fail
          go_round
          case rel => exact ⟨k + 1, by go_num, by omega, hne64, HNx.out fun j h1 _ => Hz.out j h1⟩
          case measure => simp [intOf]; omega
      · have hTZ := tz64_any HT.out (cutF m.bits on s k) t ht hgt hgl
        rw [← HY.out] at hTZ
        have hYb : ((Y : Int) != 0) = true := by simp; omega
        have hYb2 : ((Y : Int) == 0) = false := by simp; omega
        have Hgl := hidden hgl
        have Hgt := hidden hgt
        clear hgl hgt hY0
        have hXY' : (((k : Int) == (s : Int) / 64) = true ∧ IntKind.u64.wrap ((X : Int) / 2 ^ (s % 64) * 2 ^ (s % 64)) = (Y : Int)) ∨ (((k : Int) == (s : Int) / 64) = false ∧ X = Y) := by
          rcases hG with ⟨hk, hcut⟩ | ⟨hk, hXY⟩
          · left; exact ⟨by simp; omega, hcut⟩
          · right; exact ⟨by simp; omega, hXY⟩
        clear hG
        by_cases hin : 64 * k + t < n
        · have hin2 : (k : Int) * 64 + t < n := by omega
          have HFin : Hid (firstI m.bits on s = some (64 * k + t)) := by
            refine HF.out _ hin ?_ ?_ ?_
            · have := Hgt.out; unfold cutF at this; simp at this; exact this.1
            · have := Hgt.out; unfold cutF bitAt at this; simp at this; exact this.2
            · intro i h1 h2 h3
              by_cases h5 : i < 64 * k
              · exact HPr.out i h1 h5 (by omega) h3
              · have := Hgl.out (i - 64 * k) (by omega)
                unfold cutF bitAt at this
                rw [show 64 * k + (i - 64 * k) = i from by omega] at this
                simp [h1, h3] at this
          rcases hXY' with ⟨hbk, hcut⟩ | ⟨hbk, rfl⟩
          all_goals
            go_wp2_with fail
            refine hTZ.mono ?_
            rintro e w' ⟨rfl, rfl⟩
            go_wp2_with fail
            go_ret
            refine ⟨?_, rfl⟩
            rw [HFin.out]
            show Ending.returned (.int .i64 ((k : Int) * 64 + t)) = .returned (.int .i64 ((64 * k + t : Nat) : Int))
            congr 2; omega
        · have hin2 : ¬ (k : Int) * 64 + t < n := by omega
          have hin3 : decide ((k : Int) * 64 + t < n) = false := by simpa using hin2
          rcases hXY' with ⟨hbk, hcut⟩ | ⟨hbk, rfl⟩
          all_goals
            go_wp2_with fail
            refine hTZ.mono ?_
            rintro e w' ⟨rfl, rfl⟩
            go_wp2_with fail
            go_round
            case rel => exact ⟨k + 1, by go_num, by omega, hne64, HNx.out fun j h1 h2 => Hgl.out j (by omega)⟩
            case measure => simp [intOf]; omega
    · have hfin : firstI m.bits on s = none := HN.out fun i h1 h2 => HPr.out i h1 (by omega) h2
      have HFin := hidden hfin
      clear hfin
      have hlt2 : ¬ (k : Int) * 64 < n := by omega
      have hlt3 : decide ((k : Int) * 64 < n) = false := by simpa using hlt2
      go_wp2_with fail
      refine k1.mono ?_
      rintro e w' ⟨rfl, rfl⟩
      go_wp2_with fail
      go_ret
      exact ⟨by rw [HFin.out]; rfl, rfl⟩
/-! The count. -/
def cntB (bits : List Bool) : Nat := (bits.filter id).length
theorem cnt_take (bits : List Bool) : ∀ n, cnt (fun j => bits[j]?.getD false) n = cntB (bits.take n)
  | 0 => by simp [cnt, cntB]
  | n + 1 => by
    simp only [cnt]
    rw [cnt_take bits n, List.take_add_one]
    cases h : bits[n]? with
    | none => simp [cntB]
    | some b => cases b <;> simp [cntB, List.filter_append]
theorem cntB_all (bits : List Bool) (n : Nat) (h : bits.length ≤ n) : cnt (fun j => bits[j]?.getD false) n = cntB bits := by
  rw [cnt_take, List.take_of_length_le h]
theorem cntB_zero {bits : List Bool} : cntB bits = 0 ↔ ∀ b ∈ bits, b = false := by
  unfold cntB
  rw [List.length_eq_zero_iff, List.filter_eq_nil_iff]
  simp
set_option maxHeartbeats 1000000 in
theorem bmcount_any {w : World} {m : BM} (h : Sep w m.hl) (hn : m.bits.length ≤ 1048576) :
    Calls Tryz.prog 181 #[.pointer (some ⟨m.b, 0, none⟩)] w fun r w' => r = .returned (.int .i64 (cntB m.bits)) ∧ w = w' := by
  have k1 := bmlen_any h
  have c1 := BM.c1 h
  have HW := hidden (fun k hk => BM.wcell h k hk)
  have HC := hidden (cntB_all m.bits (64 * nwords m.bits.length) (by unfold nwords; omega))
  have HA := hidden (show ∀ k, cnt (fun j => m.bits[j]?.getD false) (64 * (k + 1)) = cnt (fun j => m.bits[j]?.getD false) (64 * k) + cnt (bitAt m.bits k) 64 from fun k => by rw [Nat.mul_add, Nat.mul_one, cnt_add]; rfl)
  have HB := hidden (show ∀ k, cnt (fun j => m.bits[j]?.getD false) (64 * k) ≤ 64 * k from fun k => cnt_le _ _)
  have hnw : nwords m.bits.length ≤ 20000 := by unfold nwords; omega
  clear h
  generalize hlen : m.bits.length = n at *
  have hdv : ((n : Int) + 64 - 1) / 64 = (nwords n : Nat) := by unfold nwords; omega
  clear hlen
  generalize nwords n = nw at *
  go_enter Tryz.func181, Tryz.ntmps181
  go_wp2_with fail
  refine k1.mono ?_
  rintro e w' ⟨rfl, rfl⟩
  go_wp2_with fail
  simp only [hdv]
  go_loop [3, 10] (fun cv kv => ∃ k : Nat, kv = .int .i64 k ∧ k ≤ nw ∧ cv = .int .i64 (cnt (fun j => m.bits[j]?.getD false) (64 * k) : Nat)) (fun _ kv => nw - (intOf kv).toNat)
  case atStart => exact ⟨0, rfl, by omega, rfl⟩
  case round =>
    obtain ⟨k, rfl, hk, rfl⟩ := hrel
    have hA := HA.out k
    have hB := HB.out k
    have HA1 := hidden hA
    clear hA
    generalize hc : cnt (fun j => m.bits[j]?.getD false) (64 * k) = c at *
    have HCc := hidden hc
    clear hc
    by_cases hlt : k < nw
    · have cw := HW.out k hlt
      have hb64 := cnt_le (bitAt m.bits k) 64
      have h64 := ones64_any (w := w) (bitAt m.bits k)
      generalize wordN (bitAt m.bits k) 64 = x at *
      generalize cnt (bitAt m.bits k) 64 = d at *
      go_wp2_with (go_at_call 172; refine h64.mono ?_; rintro e w' ⟨rfl, rfl⟩)
      go_round
      case rel => exact ⟨k + 1, by go_num, by omega, by rw [HA1.out]; go_num⟩
      case measure => simp [intOf]; omega
    · obtain rfl : k = nw := by omega
      go_wp2_with fail
      go_ret
      exact ⟨by rw [← HC.out, HCc.out]; rfl, rfl⟩
/-! A new one. -/
def NewBM (n : Nat) (H : HL) (w : World) (r : Ending) (w' : World) : Prop := ∃ m : BM, r = .returned (.pointer (some ⟨m.b, 0, none⟩)) ∧ m.bits = List.replicate n false ∧ Step H (m.hl ++ H) w w'
theorem wcells_new (n : Nat) : wcells (List.replicate n false) = List.replicate (nwords n) (.int .u64 0) := by
  unfold wcells
  rw [List.length_replicate]
  apply List.ext_getElem?
  intro k
  by_cases hk : k < nwords n
  · rw [List.getElem?_map, List.getElem?_range hk, List.getElem?_replicate, if_pos hk]
    have : wordN (bitAt (List.replicate n false) k) 64 = 0 := by
      rw [wordN_zero]
      intro j _
      unfold bitAt
      rw [List.getElem?_replicate]
      split <;> rfl
    simp [this]
  · rw [List.getElem?_eq_none (by simp; omega), List.getElem?_eq_none (by simp; omega)]
theorem Tryz.infou64 : (Tryz.prog.info? 193).map (fun i => (i.zero, i.size, i.bytes)) = some (some (.int .u64 0), 1, 8) := by kernel_rfl
set_option maxHeartbeats 1000000 in
set_option maxRecDepth 100000 in
theorem bmnew_any {w : World} {H : HL} (h : Sep w H) (n : Nat) (hn : n ≤ 1048576) : Calls Tryz.prog 147 #[.int .i64 n] w (NewBM n H w) := by
  have hdv : ((n : Int) + 64 - 1) / 64 = (nwords n : Nat) := by unfold nwords; omega
  have hnw : nwords n ≤ 20000 := by unfold nwords; omega
  have HR : Hid (NewBM n H w (.returned (.pointer (some ⟨w.heap.size + 1, 0, none⟩))) ((w.alloc (.cells (List.replicate (nwords n) (Value.int .u64 0)).toArray 193)).alloc (.cells (Array.mk [.int .i64 n, .slice (some ⟨w.heap.size, 0, none⟩) (nwords n) (nwords n)]) 221))) := by
    have s1 := h.new 193 (List.replicate (nwords n) (Value.int .u64 0))
    have s2 := s1.sep.new 221 [.int .i64 n, .slice (some ⟨w.heap.size, 0, none⟩) (nwords n) (nwords n)]
    refine ⟨⟨w.heap.size + 1, w.heap.size, List.replicate n false⟩, rfl, rfl, ?_⟩
    have := s1.trans s2
    simpa [BM.hl, wcells_new] using this
  clear h
  obtain ⟨i0, hi, hz0, hz1, hz2⟩ := info_parts Tryz.infou64
  have hmk := run_make_one (P := Tryz.prog) (w := w) 219 193 i0 (.int .u64 0) 8 Tryz.underlying219 hi hz0 hz1 hz2 rfl (nwords n) (by omega) (by omega)
  clear hi hz0 hz1 hz2
  generalize nwords n = nw at *
  generalize (List.replicate nw (Value.int .u64 0)).toArray = arr at *
  go_enter Tryz.func147, Tryz.ntmps147
  go_wp2
  go_ret
  exact HR.out
end Go.Proofs.YtcnbbenmlffgpaaGreatDoor

/- Rows of cells that a slice has, with room beyond: a piece of memory. No condition. -/
namespace Go.Proofs.YtcnbbenmlffgpaaGreatDoor
open Go.RowKit

/-- A slice that is nil, or its block and how much it may hold. -/
abbrev RV := Option (Nat × Nat)
def lvOf (rv : RV) (n : Nat) : Value := match rv with
  | none => .slice none 0 0
  | some (g, cap) => .slice (some ⟨g, 0, none⟩) n cap
def rowH (rv : RV) (T : TypeId) (size : Nat) (xs : List Value) : HL := match rv with
  | none => []
  | some (g, cap) => [(g, isR T (cap * size) xs)]
/-- The slice of n elements fits its block. -/
def rvOk (rv : RV) (n : Nat) : Prop := match rv with
  | none => n = 0
  | some (_, cap) => n ≤ cap ∧ cap ≤ maxLen
theorem row_owns {w : World} {rv : RV} {T : TypeId} {size n : Nat} {xs : List Value} (h : Sep w (rowH rv T size xs)) (hok : rvOk rv n) (hl : xs.length = n * size) : w.ownsRow 0 T size (lvOf rv n) n xs := by
  refine ⟨hl, ?_⟩
  cases rv with
  | none => exact .inl ⟨rfl, hok⟩
  | some p =>
    obtain ⟨g, cap⟩ := p
    obtain ⟨o, ho, cur, rfl, hn, hr⟩ := h.get (b := g) (q := isR T (cap * size) xs) (by simp [rowH])
    refine .inr ⟨g, cap, cur, rfl, Nat.zero_le _, ho, hok.1, hok.2, hn, ?_⟩
    rw [← hl]; exact hr
theorem row_cell {w : World} {g cap : Nat} {T : TypeId} {size : Nat} {xs : List Value} (h : Sep w (rowH (some (g, cap)) T size xs)) (j : Nat) (v : Value) (hv : xs[j]? = some v) : w.cell? ⟨g, j, none⟩ = some v := by
  obtain ⟨ds, hc, _, ht⟩ := h.row (b := g) (T := T) (n := cap * size) (cs := xs) (by simp [rowH])
  refine hc.cell j v ?_
  rw [← ht] at hv
  rw [List.getElem?_take] at hv
  split at hv
  · exact hv
  · cases hv
theorem row_free {w : World} {g cap : Nat} {T : TypeId} {size : Nat} {xs : List Value} (h : Sep w (rowH (some (g, cap)) T size xs)) (j : Nat) : w.frozen? ⟨g, j, none⟩ = false := by
  obtain ⟨ds, hc, _, _⟩ := h.row (b := g) (T := T) (n := cap * size) (cs := xs) (by simp [rowH])
  exact hc.free j
/-- Behind an append. -/
theorem row_appended {w w' : World} {A B : HL} {rv : RV} {T : TypeId} {size n n' : Nat} {xs ys : List Value} {v' : Value} (h : Sep w (A ++ rowH rv T size xs ++ B)) (ho : w'.ownsRow 0 T size v' n' ys) (hg : w.grownBy w' (lvOf rv n).ownBlock)
    (hb : v'.ownBlock = (lvOf rv n).ownBlock ∨ v'.ownBlock = some w.heap.size) : ∃ rv', v' = lvOf rv' n' ∧ rvOk rv' n' ∧ Step (A ++ rowH rv T size xs ++ B) (A ++ rowH rv' T size ys ++ B) w w' := by
  obtain ⟨hl, ho⟩ := ho
  -- what A and B have is as it was
  have hAB : Sep w (A ++ B) := h.sub (by
    refine List.Sublist.append ?_ (List.Sublist.refl _)
    exact List.sublist_append_left _ _)
  have notin : ∀ g cap, rv = some (g, cap) → g ∉ keys (A ++ B) := by
    rintro g cap rfl hm
    have hnd := h.nd
    simp only [keys_append, rowH, keys_cons, keys_nil] at hnd hm
    have h1 := List.nodup_append.1 hnd
    have h2 := List.nodup_append.1 h1.1
    rcases List.mem_append.1 hm with hm | hm
    · exact h2.2.2 g hm g (by simp) rfl
    · exact h1.2.2 g (by simp) g hm rfl
  have keep : ∀ b ∈ keys (A ++ B), w'.heap[b]? = w.heap[b]? := by
    intro b hb'
    refine hg.block b (hAB.lt hb') fun e => ?_
    cases rv with
    | none => cases e
    | some p => obtain ⟨g, cap⟩ := p; cases e; exact notin _ _ rfl hb'
  have hchg : Chg (fun b => b ∈ keys (A ++ rowH rv T size xs ++ B)) w w' := ⟨hg.os, hg.tape, hg.output, hg.size, fun k hk hF => hg.block k hk fun e => hF (by
    cases rv with
    | none => cases e
    | some p => obtain ⟨g, cap⟩ := p; cases e; simp [rowH])⟩
  have henv := h.env.chg hchg h.hi
  have hsAB := hAB.same keep henv
  rcases ho with ⟨rfl, h0⟩ | ⟨g', cap', cur, rfl, _, hh, hle, hm, hsz, htk⟩
  · subst h0
    refine ⟨none, rfl, rfl, ?_, hchg, ?_⟩
    · simpa [rowH] using hsAB
    · intro b hb'
      left
      simp only [rowH, List.append_nil, keys_append, List.mem_append] at hb' ⊢
      rcases hb' with hb' | hb'
      · exact .inl (.inl hb')
      · exact .inr hb'
  · have hfresh : g' ∉ keys (A ++ B) ∧ (g' ∈ keys (A ++ rowH rv T size xs ++ B) ∨ w.heap.size ≤ g') := by
      rcases hb with e | e
      · cases rv with
        | none => cases e
        | some p =>
          obtain ⟨g, cap⟩ := p
          have : g' = g := Option.some.inj e
          subst this
          exact ⟨notin _ _ rfl, .inl (by simp [rowH])⟩
      · have : g' = w.heap.size := Option.some.inj e
        subst this
        exact ⟨fun hm' => by have := hAB.lt hm'; omega, .inr (Nat.le_refl _)⟩
    refine ⟨some (g', cap'), rfl, ⟨hle, hm⟩, ⟨?_, ?_, ?_, henv⟩, hchg, ?_⟩
    · have hnd := hAB.nd
      simp only [keys_append, rowH, keys_cons, keys_nil] at hnd hfresh ⊢
      have h1 := List.nodup_append.1 hnd
      rw [List.nodup_append]
      refine ⟨?_, h1.2.1, ?_⟩
      · rw [List.nodup_append]
        refine ⟨h1.1, by simp, ?_⟩
        intro a ha b hb' e
        simp at hb'; subst hb'; subst e
        exact hfresh.1 (List.mem_append_left _ ha)
      · intro a ha b hb' e
        subst e
        rcases List.mem_append.1 ha with ha | ha
        · exact h1.2.2 a ha a hb' rfl
        · simp at ha; subst ha; exact hfresh.1 (List.mem_append_right _ hb')
    · intro p hp
      rcases List.mem_append.1 hp with hp | hp
      · rcases List.mem_append.1 hp with hp | hp
        · exact hsAB.at' p (by simp [hp])
        · simp [rowH] at hp; subst hp
          exact ⟨_, hh, cur, rfl, hsz, by rw [hl]; exact htk⟩
      · exact hsAB.at' p (by simp [hp])
    · intro b hb'
      simp only [keys_append, rowH, keys_cons, keys_nil, List.mem_append, List.mem_singleton] at hb'
      rcases hb' with (hb' | hb') | hb'
      · exact hAB.hi b (by simp [hb'])
      · subst hb'
        rcases hfresh.2 with h2 | h2
        · exact h.hi _ h2
        · exact Nat.le_trans h.env.gb h2
      · exact hAB.hi b (by simp [hb'])
    · intro b hb'
      simp only [keys_append, rowH, keys_cons, keys_nil, List.mem_append, List.mem_singleton] at hb'
      rcases hb' with (hb' | hb') | hb'
      · left; simp [hb']
      · subst hb'; exact hfresh.2
      · left; simp [hb']
end Go.Proofs.YtcnbbenmlffgpaaGreatDoor

/- Entries of a map from numbers to pointers: a number, a block, what the block's struct is. Plain lists. No condition. -/
namespace Go.Proofs.YtcnbbenmlffgpaaGreatDoor
open Go.RowKit

structure En (α : Type) where
  id : Int
  b : Nat
  q : α
def ptr (b : Nat) : Value := .pointer (some ⟨b, 0, none⟩)
section
variable {α : Type}
def kvs (E : List (En α)) : List (Int × Value) := E.map fun e => (e.id, ptr e.b)
def find : List (En α) → Int → Option (En α)
  | [], _ => none
  | e :: r, id => if id = e.id then some e else find r id
def upd (E : List (En α)) (id : Int) (q : α) : List (En α) := E.map fun e => if e.id = id then { e with q := q } else e
def rem : List (En α) → Int → List (En α)
  | [], _ => []
  | e :: r, id => if id = e.id then r else e :: rem r id

theorem look_kvs (E : List (En α)) (id : Int) : look (kvs E) id = (find E id).map fun e => ptr e.b := by
  induction E with
  | nil => rfl
  | cons e r ih =>
    have ih' : look (r.map fun e => (e.id, ptr e.b)) id = _ := ih
    by_cases h : id = e.id <;> simp [kvs, look, find, h, ih']
theorem put_kvs (E : List (En α)) (id : Int) (b : Nat) (q : α) (h : find E id = none) : put (kvs E) id (ptr b) = kvs (E ++ [⟨id, b, q⟩]) := by
  induction E with
  | nil => rfl
  | cons e r ih =>
    by_cases hk : id = e.id
    · simp [find, hk] at h
    · simp only [find, hk, if_false] at h
      have ih' : put (r.map fun e => (e.id, ptr e.b)) id (ptr b) = _ := ih h
      simp [kvs, put, hk, ih']
theorem del_kvs (E : List (En α)) (id : Int) : del (kvs E) id = kvs (rem E id) := by
  induction E with
  | nil => rfl
  | cons e r ih =>
    have ih' : del (r.map fun e => (e.id, ptr e.b)) id = _ := ih
    by_cases hk : id = e.id <;> simp [kvs, del, rem, hk, ih']
theorem kvs_upd (E : List (En α)) (id : Int) (q : α) : kvs (upd E id q) = kvs E := by
  simp only [kvs, upd, List.map_map]
  apply List.map_congr_left
  intro e _
  by_cases h : e.id = id <;> simp [h]
theorem find_mem {E : List (En α)} {id : Int} {e : En α} (h : find E id = some e) : e ∈ E ∧ e.id = id := by
  induction E with
  | nil => simp [find] at h
  | cons x r ih =>
    by_cases hk : id = x.id
    · simp [find, hk] at h; subst h; exact ⟨by simp, hk.symm⟩
    · simp only [find, hk, if_false] at h; exact ⟨by simp [(ih h).1], (ih h).2⟩
theorem find_none {E : List (En α)} {id : Int} (h : find E id = none) : ∀ e ∈ E, e.id ≠ id := by
  induction E with
  | nil => simp
  | cons x r ih =>
    by_cases hk : id = x.id
    · simp [find, hk] at h
    · simp only [find, hk, if_false] at h
      intro e he
      rcases List.mem_cons.1 he with rfl | he
      · exact fun h' => hk h'.symm
      · exact ih h e he
theorem find_append (E : List (En α)) (x : En α) (id : Int) : find (E ++ [x]) id = match find E id with | some e => some e | none => if id = x.id then some x else none := by
  induction E with
  | nil => simp [find]
  | cons e r ih => by_cases h : id = e.id <;> simp [find, h, ih]
theorem find_upd_same {E : List (En α)} {id : Int} {e : En α} (hf : find E id = some e) (q : α) : find (upd E id q) id = some { e with q := q } := by
  induction E with
  | nil => simp [find] at hf
  | cons x r ih =>
    by_cases hx : id = x.id
    · simp only [find, hx, if_true] at hf
      simp only [upd, List.map_cons, hx, if_true, find]
      cases hf; rfl
    · simp only [find, hx, if_false] at hf
      have := ih hf
      have hx' : ¬ x.id = id := fun e => hx e.symm
      simp only [upd, List.map_cons, hx', if_false, find, hx]
      exact this
theorem find_upd_other {E : List (En α)} {id j : Int} (hne : j ≠ id) (q : α) : find (upd E id q) j = find E j := by
  induction E with
  | nil => rfl
  | cons x r ih =>
    by_cases hx : x.id = id
    · have hj : ¬ j = x.id := fun e => hne (e.trans hx)
      simp only [upd, List.map_cons, hx, if_true, find, hj, if_false]
      have hj2 : ¬ j = id := hne
      simp only [hj2, if_false]
      exact ih
    · simp only [upd, List.map_cons, hx, if_false, find]
      by_cases hj : j = x.id
      · simp [hj]
      · simp only [hj, if_false]; exact ih
theorem find_rem {E : List (En α)} (hids : E.Pairwise (fun a b => a.id ≠ b.id)) (id x : Int) : find (rem E id) x = if x = id then none else find E x := by
  induction E with
  | nil => simp [rem, find]
  | cons e r ih =>
    obtain ⟨h1, h2⟩ := List.pairwise_cons.1 hids
    by_cases hk : id = e.id
    · subst hk
      simp only [rem, if_true]
      by_cases hx : x = e.id
      · subst hx
        simp only [if_true]
        cases hf : find r e.id with
        | none => rfl
        | some y => exact absurd (find_mem hf).2.symm (h1 y (find_mem hf).1)
      · simp [find, hx]
    · simp only [rem, hk, if_false, find]
      by_cases hx : x = e.id
      · subst hx; simp; intro e2; exact absurd e2.symm hk
      · simp only [hx, if_false]; exact ih h2
theorem mem_rem {E : List (En α)} {id : Int} {e : En α} (h : e ∈ rem E id) : e ∈ E := by
  induction E with
  | nil => simp [rem] at h
  | cons x r ih =>
    by_cases hk : id = x.id
    · simp [rem, hk] at h; simp [h]
    · simp only [rem, hk, if_false] at h
      rcases List.mem_cons.1 h with rfl | h
      · simp
      · simp [ih h]
theorem rem_sublist (E : List (En α)) (id : Int) : (rem E id).Sublist E := by
  induction E with
  | nil => simp [rem]
  | cons x r ih =>
    by_cases hk : id = x.id
    · simp [rem, hk]
    · simp only [rem, hk, if_false]; exact ih.cons_cons x
theorem mem_upd {E : List (En α)} {id : Int} {q : α} {x : En α} (h : x ∈ upd E id q) : ∃ e ∈ E, e.b = x.b ∧ e.id = x.id ∧ ((e.id = id ∧ x.q = q) ∨ (e.id ≠ id ∧ x = e)) := by
  obtain ⟨e, he, rfl⟩ := List.mem_map.1 h
  by_cases hk : e.id = id
  · exact ⟨e, he, by simp [hk], by simp [hk], .inl ⟨hk, by simp [hk]⟩⟩
  · exact ⟨e, he, by simp [hk], by simp [hk], .inr ⟨hk, by simp [hk]⟩⟩
theorem upd_pairwise {E : List (En α)} (id : Int) (q : α) {R : En α → En α → Prop} (hR : ∀ a b a' b' : En α, a.b = a'.b → a.id = a'.id → b.b = b'.b → b.id = b'.id → R a b → R a' b') (h : E.Pairwise R) : (upd E id q).Pairwise R := by
  unfold upd
  rw [List.pairwise_map]
  refine h.imp fun {a b} hab => hR a b _ _ ?_ ?_ ?_ ?_ hab <;> split <;> rfl
theorem upd_none {E : List (En α)} {id : Int} (q : α) (h : ∀ e ∈ E, e.id ≠ id) : upd E id q = E := by
  unfold upd
  conv => rhs; rw [← List.map_id E]
  exact List.map_congr_left fun e he => by simp [h e he]
theorem upd_id {E : List (En α)} (hids : E.Pairwise (fun a b => a.id ≠ b.id)) {id : Int} {e : En α} (hf : find E id = some e) : upd E id e.q = E := by
  induction E with
  | nil => rfl
  | cons x r ih =>
    obtain ⟨h1, h2⟩ := List.pairwise_cons.1 hids
    by_cases hx : id = x.id
    · subst hx
      simp [find] at hf
      subst hf
      have := upd_none (E := r) (id := x.id) x.q (fun e he => (h1 e he).symm)
      simp only [upd, List.map_cons, if_true] at this ⊢
      rw [this]
    · simp only [find, hx, if_false] at hf
      have hx' : ¬ x.id = id := fun e => hx e.symm
      have := ih h2 hf
      simp only [upd, List.map_cons, hx', if_false] at this ⊢
      rw [this]
theorem upd_upd (E : List (En α)) (id : Int) (q r : α) : upd (upd E id q) id r = upd E id r := by
  unfold upd
  rw [List.map_map]
  apply List.map_congr_left
  intro e _
  by_cases h : e.id = id <;> simp [h]
/-- Where the entry of a number stands. -/
theorem find_at {E : List (En α)} (hids : E.Pairwise (fun a b => a.id ≠ b.id)) {id : Int} {e : En α} (hf : find E id = some e) :
    ∃ A B, E = A ++ e :: B ∧ (∀ q, upd E id q = A ++ { e with q := q } :: B) ∧ rem E id = A ++ B := by
  induction E with
  | nil => simp [find] at hf
  | cons x r ih =>
    obtain ⟨h1, h2⟩ := List.pairwise_cons.1 hids
    by_cases hx : id = x.id
    · subst hx
      simp [find] at hf
      subst hf
      refine ⟨[], r, rfl, fun q => ?_, by simp [rem]⟩
      have := upd_none (E := r) (id := x.id) q (fun e he => (h1 e he).symm)
      simp only [upd, List.map_cons, if_true, List.nil_append]
      exact congrArg _ this
    · simp only [find, hx, if_false] at hf
      obtain ⟨A, B, e1, e2, e3⟩ := ih h2 hf
      refine ⟨x :: A, B, by rw [e1]; rfl, fun q => ?_, by simp [rem, hx, e3]⟩
      have hx' : ¬ x.id = id := fun e => hx e.symm
      have := e2 q
      simp only [upd, List.map_cons, hx', if_false, List.cons_append] at this ⊢
      rw [this]
end
def isMI (kv : List (Int × Value)) : Obj → Prop := isM (kv.map fun p => (.int .i64 p.1, p.2))
end Go.Proofs.YtcnbbenmlffgpaaGreatDoor

/- Caches of small places in memory, and walks of their small methods. Conditions: the blocks hold what CA.hl says. -/
namespace Go.Proofs.YtcnbbenmlffgpaaGreatDoor
open Go.RowKit

structure CA where
  c : Nat
  bb : Nat
  size : Nat
  rv : RV
  pg : List (BM × Nat)
def pcells (pg : List (BM × Nat)) : List Value := pg.flatMap fun x => [ptr x.1.b, .int .i64 ((1024 * x.2 : Nat) : Int)]
def pgH (pg : List (BM × Nat)) : HL := pg.flatMap fun x => x.1.hl
def CA.hl (c : CA) : HL := (c.c, isC 229 [ptr c.bb, .int .i64 c.size, lvOf c.rv c.pg.length]) :: (rowH c.rv 231 2 (pcells c.pg) ++ pgH c.pg)
/-- Sizes that caches have, how many places a page has then, and the pages in order. -/
structure CA.Ok (c : CA) : Prop where
  rv : rvOk c.rv c.pg.length
  s0 : 16 ≤ c.size
  s1 : c.size ≤ 512
  sorted : c.pg.Pairwise (fun a b => a.2 < b.2)
  lt : ∀ x ∈ c.pg, x.2 < 1048576
  many : ∀ x ∈ c.pg, x.1.bits.length = 960 / c.size
  len : c.pg.length ≤ 1048576
theorem pcells_get (pg : List (BM × Nat)) (k : Nat) (x : BM × Nat) (h : pg[k]? = some x) : (pcells pg)[k * 2]? = some (ptr x.1.b) ∧ (pcells pg)[k * 2 + 1]? = some (.int .i64 ((1024 * x.2 : Nat) : Int)) := by
  induction pg generalizing k with
  | nil => simp at h
  | cons y r ih =>
    cases k with
    | zero => simp at h; subst h; exact ⟨rfl, rfl⟩
    | succ k =>
      have := ih k (by simpa using h)
      have e1 : (k + 1) * 2 = (k * 2) + 1 + 1 := by omega
      have e2 : (k + 1) * 2 + 1 = (k * 2 + 1) + 1 + 1 := by omega
      rw [e1]
      exact ⟨this.1, this.2⟩
theorem pcells_len (pg : List (BM × Nat)) : (pcells pg).length = pg.length * 2 := by
  induction pg with
  | nil => rfl
  | cons y r ih =>
    show (_ :: _ :: pcells r).length = _
    simp [ih]; omega
section
variable {w : World} {c : CA}
theorem CA.sepC (h : Sep w c.hl) : Cells w c.c 229 [ptr c.bb, .int .i64 c.size, lvOf c.rv c.pg.length] := h.cells (by simp [CA.hl])
theorem CA.sepR (h : Sep w c.hl) : Sep w (rowH c.rv 231 2 (pcells c.pg)) := h.tail.left
theorem CA.sepB (h : Sep w c.hl) (k : Nat) (x : BM × Nat) (hx : c.pg[k]? = some x) : Sep w x.1.hl := by
  refine h.sub ?_
  unfold CA.hl pgH
  rw [fm_split (fun x : BM × Nat => x.1.hl) _ _ _ hx]
  refine List.Sublist.cons _ ?_
  refine List.Sublist.trans ?_ (List.sublist_append_right _ _)
  exact (List.sublist_append_right _ _).trans (List.sublist_append_left _ _)
end
set_option maxHeartbeats 400000 in
theorem many_any {w : World} {c : CA} (h : Sep w c.hl) (ok : c.Ok) : Calls Tryz.prog 151 #[.pointer (some ⟨c.c, 0, none⟩)] w fun r w' => r = .returned (.int .i64 ((960 / c.size : Nat) : Int)) ∧ w = w' := by
  have c1 := (CA.sepC h).cell 1 _ rfl
  have s0 := ok.s0
  have hd : ((960 : Int) / (c.size : Int)) = ((960 / c.size : Nat) : Int) := by rw [Int.natCast_ediv]; rfl
  clear h
  generalize c.size = s at *
  go_enter Tryz.func151, Tryz.ntmps151
  go_wp2
  go_ret
  exact ⟨rfl, rfl⟩
/-- Where a place begins. -/
def addr (size p i : Nat) : Nat := 1024 * p + 64 + i * size
set_option maxHeartbeats 1000000 in
theorem place_any {w : World} {c : CA} (h : Sep w c.hl) (ok : c.Ok) (b p i : Nat) (hp : p < 1048576) (hi : i < 64) :
    Calls Tryz.prog 150 #[.pointer (some ⟨c.c, 0, none⟩), .agg #[ptr b, .int .i64 ((1024 * p : Nat) : Int)], .int .i64 i] w (Told w (.int .i64 ((addr c.size p i : Nat) : Int))) := by
  have c1 := (CA.sepC (h.alloc (.cells #[ptr b, .int .i64 ((1024 * p : Nat) : Int)] 231))).cell 1 _ rfl
  have b1 := (Cells.new w 231 [ptr b, .int .i64 ((1024 * p : Nat) : Int)]).cell 1 _ rfl
  have s1 := ok.s1
  have HB : Hid (Below w.heap.size w (w.alloc (.cells #[ptr b, .int .i64 ((1024 * p : Nat) : Int)] 231)).drew) := ((Below.refl _ _).alloc (Nat.le_refl _) _).drew
  have hm : i * c.size ≤ 64 * 512 := Nat.mul_le_mul (by omega) s1
  have hw1 : IntKind.i64.wrap (((1024 * p : Nat) : Int) + 64) = ((1024 * p + 64 : Nat) : Int) := by rw [Go.IntWalk.i64_in _ (by omega)]; omega
  have hw2 : IntKind.i64.wrap ((i : Int) * (c.size : Int)) = ((i * c.size : Nat) : Int) := by rw [← Int.natCast_mul]; exact Go.IntWalk.i64_in _ (by omega)
  have hw3 : IntKind.i64.wrap (((1024 * p + 64 : Nat) : Int) + ((i * c.size : Nat) : Int)) = ((addr c.size p i : Nat) : Int) := by unfold addr; rw [Go.IntWalk.i64_in _ (by omega)]; omega
  clear h ok hm
  generalize addr c.size p i = r at *
  generalize i * c.size = m at *
  generalize hk : 1024 * p + 64 = k at *
  generalize 1024 * p = q at *
  generalize c.size = s at *
  clear hk
  have e1 : (w.alloc (.cells #[ptr b, .int .i64 (q : Int)] 231)).drew.cell? ⟨c.c, 1, none⟩ = some (.int .i64 s) := c1
  have e2 : (w.alloc (.cells #[ptr b, .int .i64 (q : Int)] 231)).drew.cell? ⟨w.heap.size, 1, none⟩ = some (.int .i64 q) := b1
  unfold ptr at *
  go_enter Tryz.func150, Tryz.ntmps150
  go_wp2_with fail
  go_region_held3 (fun w' => w'.cell? ⟨c.c, 1, none⟩ = some (.int .i64 s) ∧ w'.cell? ⟨w.heap.size, 1, none⟩ = some (.int .i64 q)) (first | exact ⟨c1, b1⟩ | exact ⟨e1, e2⟩) (first | fail)
  go_wp2_with fail
  go_ret
  exact ⟨rfl, HB.out⟩
def cmpI (x y : Int) : Int := if x < y then -1 else if y < x then 1 else 0
set_option maxHeartbeats 400000 in
theorem isnan_any {w : World} (x : Int) : Calls Tryz.prog 168 #[.int .i64 x] w fun r w' => r = .returned (.bool false) ∧ w = w' := by
  have h1 : (x != x) = false := by simp
  go_enter Tryz.func168, Tryz.ntmps168
  go_wp2
  go_ret
  exact ⟨rfl, rfl⟩
set_option maxHeartbeats 400000 in
theorem cmp_any {w : World} (x y : Int) : Calls Tryz.prog 141 #[.int .i64 x, .int .i64 y] w fun r w' => r = .returned (.int .i64 (cmpI x y)) ∧ w = w' := by
  unfold cmpI
  by_cases h1 : x < y
  · rw [if_pos h1]
    go_enter Tryz.func141, Tryz.ntmps141
    go_wp2_with (go_at_call 168; refine (isnan_any _).mono ?_; rintro e w' ⟨rfl, rfl⟩)
    go_ret
    exact ⟨rfl, rfl⟩
  · rw [if_neg h1]
    by_cases h2 : y < x
    · rw [if_pos h2]
      go_enter Tryz.func141, Tryz.ntmps141
      go_wp2_with (go_at_call 168; refine (isnan_any _).mono ?_; rintro e w' ⟨rfl, rfl⟩)
      go_ret
      exact ⟨rfl, rfl⟩
    · rw [if_neg h2]
      go_enter Tryz.func141, Tryz.ntmps141
      go_wp2_with (go_at_call 168; refine (isnan_any _).mono ?_; rintro e w' ⟨rfl, rfl⟩)
      go_ret
      exact ⟨rfl, rfl⟩
set_option maxHeartbeats 400000 in
theorem find1_any (w : World) (b : Value) (at_ x : Int) : Calls Tryz.prog 176 #[.agg #[b, .int .i64 at_], .int .i64 x] w fun r w' => r = .returned (.int .i64 (cmpI at_ x)) ∧ Below w.heap.size w w' := by
  have HB : Hid (Below w.heap.size w (w.alloc (.cells #[b, .int .i64 at_] 231))) := (Below.refl _ _).alloc (Nat.le_refl _) _
  have hc := fun w : World => cmp_any (w := w) at_ x
  generalize cmpI at_ x = c at *
  go_enter Tryz.func176, Tryz.ntmps176
  go_wp2_with (go_at_call 141; refine (hc _).mono ?_; rintro e w' ⟨rfl, rfl⟩)
  go_ret
  exact ⟨rfl, HB.out⟩
/-! Where a page stands, or would. -/
def below_ (pg : List (BM × Nat)) (p : Nat) : Nat := (pg.filter fun x => decide (x.2 < p)).length
/-- Pages in order: those below p stand first. -/
theorem below_at {pg : List (BM × Nat)} (hs : pg.Pairwise (fun a b => a.2 < b.2)) (p k : Nat) (x : BM × Nat) (hx : pg[k]? = some x) : (k < below_ pg p ↔ x.2 < p) := by
  induction pg generalizing k with
  | nil => simp at hx
  | cons y r ih =>
    obtain ⟨h1, h2⟩ := List.pairwise_cons.1 hs
    unfold below_
    by_cases hy : y.2 < p
    · rw [List.filter_cons_of_pos (by simpa using hy), List.length_cons]
      cases k with
      | zero => simp at hx; subst hx; simp [hy]
      | succ k =>
        have := ih h2 k (by simpa using hx)
        unfold below_ at this
        omega
    · have hr : r.filter (fun x => decide (x.2 < p)) = [] := by
        rw [List.filter_eq_nil_iff]
        intro z hz
        have := h1 z hz
        simp; omega
      rw [List.filter_cons_of_neg (by simpa using hy), hr]
      have hxp : ¬ x.2 < p := by
        cases k with
        | zero => simp at hx; subst hx; exact hy
        | succ k =>
          have hm := h1 x (List.mem_of_getElem? (by simpa using hx))
          omega
      simp; omega
theorem below_le (pg : List (BM × Nat)) (p : Nat) : below_ pg p ≤ pg.length := List.length_filter_le _ _
end Go.Proofs.YtcnbbenmlffgpaaGreatDoor
