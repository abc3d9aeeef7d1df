/- PoolZeros returns true at every input, with the three listed tables tied to the program's text. No condition. Part of its proof. -/
import Derived.Test.YtfefdleadocpmaaDoorPz01
import Derived.Deep.RegionHeld3
import Derived.Maps.AppendAt
/- Walks of math/bits: the count of the bits that are on, the lowest of them. Conditions: the table reads as it is laid. -/
namespace Go.Proofs.YtfefdleadocpmaaDoor
open Go.RowKit

theorem wrapu (n : Int) : IntKind.u64.wrap n = n % 18446744073709551616 := by rw [IntKind.wrap_u64]
theorem bits_and (a b : Nat) (ha : a < 2 ^ 64) (hb : b < 2 ^ 64) : bits BinOp.and IntKind.u64 (a : Int) (b : Int) = ((a &&& b : Nat) : Int) := by
  have h : (a &&& b) < 2 ^ 64 := Nat.and_lt_two_pow _ hb
  have e : ((BitVec.ofInt 64 (a : Int)) &&& (BitVec.ofInt 64 (b : Int))).toNat = a &&& b := by
    rw [BitVec.ofInt_natCast, BitVec.ofInt_natCast, BitVec.toNat_and, BitVec.toNat_ofNat, BitVec.toNat_ofNat, Nat.mod_eq_of_lt ha, Nat.mod_eq_of_lt hb]
  unfold bits
  show IntKind.u64.wrap (((BitVec.ofInt 64 (a : Int)) &&& (BitVec.ofInt 64 (b : Int))).toNat : Int) = _
  rw [e, wrapu]; omega
theorem bits_xor (a b : Nat) (ha : a < 2 ^ 64) (hb : b < 2 ^ 64) : bits BinOp.xor IntKind.u64 (a : Int) (b : Int) = ((a ^^^ b : Nat) : Int) := by
  have h : (a ^^^ b) < 2 ^ 64 := Nat.xor_lt_two_pow ha hb
  have e : ((BitVec.ofInt 64 (a : Int)) ^^^ (BitVec.ofInt 64 (b : Int))).toNat = a ^^^ b := by
    rw [BitVec.ofInt_natCast, BitVec.ofInt_natCast, BitVec.toNat_xor, BitVec.toNat_ofNat, BitVec.toNat_ofNat, Nat.mod_eq_of_lt ha, Nat.mod_eq_of_lt hb]
  unfold bits
  show IntKind.u64.wrap (((BitVec.ofInt 64 (a : Int)) ^^^ (BitVec.ofInt 64 (b : Int))).toNat : Int) = _
  rw [e, wrapu]; omega
theorem bits_or (a b : Nat) (ha : a < 2 ^ 64) (hb : b < 2 ^ 64) : bits BinOp.or IntKind.u64 (a : Int) (b : Int) = ((a ||| b : Nat) : Int) := by
  have h : (a ||| b) < 2 ^ 64 := Nat.or_lt_two_pow ha hb
  have e : ((BitVec.ofInt 64 (a : Int)) ||| (BitVec.ofInt 64 (b : Int))).toNat = a ||| b := by
    rw [BitVec.ofInt_natCast, BitVec.ofInt_natCast, BitVec.toNat_or, BitVec.toNat_ofNat, BitVec.toNat_ofNat, Nat.mod_eq_of_lt ha, Nat.mod_eq_of_lt hb]
  unfold bits
  show IntKind.u64.wrap (((BitVec.ofInt 64 (a : Int)) ||| (BitVec.ofInt 64 (b : Int))).toNat : Int) = _
  rw [e, wrapu]; omega
theorem bits_and_i (a b : Nat) (ha : a < 2 ^ 63) (hb : b < 2 ^ 63) : bits BinOp.and IntKind.i64 (a : Int) (b : Int) = ((a &&& b : Nat) : Int) := by
  have h : (a &&& b) < 2 ^ 63 := Nat.and_lt_two_pow _ hb
  have e : ((BitVec.ofInt 64 (a : Int)) &&& (BitVec.ofInt 64 (b : Int))).toNat = a &&& b := by
    rw [BitVec.ofInt_natCast, BitVec.ofInt_natCast, BitVec.toNat_and, BitVec.toNat_ofNat, BitVec.toNat_ofNat, Nat.mod_eq_of_lt (by omega), Nat.mod_eq_of_lt (by omega)]
  unfold bits
  show IntKind.i64.wrap (((BitVec.ofInt 64 (a : Int)) &&& (BitVec.ofInt 64 (b : Int))).toNat : Int) = _
  rw [e, IntKind.wrap_i64]; omega

def o1 (x : Int) : Int := IntKind.u64.wrap (bits BinOp.and IntKind.u64 (x / 2) 6148914691236517205 + bits BinOp.and IntKind.u64 x 6148914691236517205)
def o2 (x : Int) : Int := IntKind.u64.wrap (bits BinOp.and IntKind.u64 (x / 4) 3689348814741910323 + bits BinOp.and IntKind.u64 x 3689348814741910323)
def o3 (x : Int) : Int := bits BinOp.and IntKind.u64 (IntKind.u64.wrap (x / 16 + x)) 1085102592571150095
def o4 (x : Int) : Int := IntKind.u64.wrap (x + x / 256)
def o5 (x : Int) : Int := IntKind.u64.wrap (x + x / 65536)
def o6 (x : Int) : Int := IntKind.u64.wrap (x + x / 4294967296)
theorem rep85 : rep 85 8 = 6148914691236517205 := by decide
theorem rep51 : rep 51 8 = 3689348814741910323 := by decide
theorem rep15 : rep 15 8 = 1085102592571150095 := by decide
theorem o1_nat (x : Nat) (hx : x < 2 ^ 64) : o1 x = (s1 8 x : Nat) ∧ s1 8 x < 2 ^ 64 := by
  have h1 : (x / 2 &&& rep 85 8) ≤ 6148914691236517205 := rep85 ▸ Nat.and_le_right
  have h2 : (x &&& rep 85 8) ≤ 6148914691236517205 := rep85 ▸ Nat.and_le_right
  unfold o1 s1
  rw [show ((x : Int) / 2) = ((x / 2 : Nat) : Int) from by omega, show (6148914691236517205 : Int) = ((rep 85 8 : Nat) : Int) from by rw [rep85]; rfl, bits_and _ _ (by omega) (by rw [rep85]; decide), bits_and _ _ hx (by rw [rep85]; decide), wrapu]
  omega
theorem o2_nat (x : Nat) (hx : x < 2 ^ 64) : o2 x = (s2 8 x : Nat) ∧ s2 8 x < 2 ^ 64 := by
  have h1 : (x / 4 &&& rep 51 8) ≤ 3689348814741910323 := rep51 ▸ Nat.and_le_right
  have h2 : (x &&& rep 51 8) ≤ 3689348814741910323 := rep51 ▸ Nat.and_le_right
  unfold o2 s2
  rw [show ((x : Int) / 4) = ((x / 4 : Nat) : Int) from by omega, show (3689348814741910323 : Int) = ((rep 51 8 : Nat) : Int) from by rw [rep51]; rfl, bits_and _ _ (by omega) (by rw [rep51]; decide), bits_and _ _ hx (by rw [rep51]; decide), wrapu]
  omega
theorem o3_nat (x : Nat) (hx : x ≤ 2 * 3689348814741910323) : o3 x = (s3 8 x : Nat) ∧ s3 8 x < 2 ^ 64 := by
  have h1 : ((x / 16 + x) &&& rep 15 8) ≤ 1085102592571150095 := rep15 ▸ Nat.and_le_right
  unfold o3 s3
  rw [show IntKind.u64.wrap ((x : Int) / 16 + x) = ((x / 16 + x : Nat) : Int) from by rw [wrapu]; omega, show (1085102592571150095 : Int) = ((rep 15 8 : Nat) : Int) from by rw [rep15]; rfl, bits_and _ _ (by omega) (by rw [rep15]; decide)]
  omega
theorem s2_le (x : Nat) : s2 8 x ≤ 2 * 3689348814741910323 := by
  have h1 : (x / 4 &&& rep 51 8) ≤ 3689348814741910323 := rep51 ▸ Nat.and_le_right
  have h2 : (x &&& rep 51 8) ≤ 3689348814741910323 := rep51 ▸ Nat.and_le_right
  unfold s2; omega
theorem ones_eq (f : Nat → Bool) : o6 (o5 (o4 (o3 (o2 (o1 (wordN f 64)))))) % 128 = (cnt f 64 : Nat) ∧ 0 ≤ o6 (o5 (o4 (o3 (o2 (o1 (wordN f 64)))))) ∧ o6 (o5 (o4 (o3 (o2 (o1 (wordN f 64)))))) < 18446744073709551616 := by
  obtain ⟨e1, b1⟩ := o1_nat _ (wordN_lt f 64)
  rw [e1]
  obtain ⟨e2, b2⟩ := o2_nat _ b1
  rw [e2]
  obtain ⟨e3, b3⟩ := o3_nat _ (s2_le (s1 8 (wordN f 64)))
  rw [e3]
  have h := swar_sum f _ _ _ _ rfl rfl rfl rfl
  rw [← h]
  have e4 : o4 ((s3 8 (s2 8 (s1 8 (wordN f 64))) : Nat) : Int) = (((swar 8 (wordN f 64)) + (swar 8 (wordN f 64)) / 256) % 18446744073709551616 : Nat) := by
    unfold o4; rw [wrapu]; show ((swar 8 (wordN f 64) : Nat) + (swar 8 (wordN f 64) : Nat) / 256 : Int) % _ = _; omega
  rw [e4]
  generalize ((swar 8 (wordN f 64)) + (swar 8 (wordN f 64)) / 256) % 18446744073709551616 = y
  have e5 : o5 (y : Int) = ((y + y / 65536) % 18446744073709551616 : Nat) := by unfold o5; rw [wrapu]; omega
  rw [e5]
  generalize (y + y / 65536) % 18446744073709551616 = z
  have e6 : o6 (z : Int) = ((z + z / 4294967296) % 18446744073709551616 : Nat) := by unfold o6; rw [wrapu]; omega
  rw [e6]
  omega
theorem last7 (y : Int) (h0 : 0 ≤ y) (h1 : y < 18446744073709551616) : bits BinOp.and IntKind.i64 (wrap64 y) 127 = y % 128 := by
  obtain ⟨n, rfl⟩ := Int.eq_ofNat_of_zero_le h0
  have e : ((BitVec.ofInt 64 (wrap64 (n : Int))) &&& (BitVec.ofInt 64 (127 : Int))).toNat = n % 128 := by
    rw [BitVec.toNat_and, BitVec.toNat_ofInt, show (BitVec.ofInt 64 (127 : Int)).toNat = 2 ^ 7 - 1 from by decide, Nat.and_two_pow_sub_one_eq_mod]
    unfold wrap64
    omega
  unfold bits
  show IntKind.i64.wrap (((BitVec.ofInt 64 (wrap64 (n : Int))) &&& (BitVec.ofInt 64 (127 : Int))).toNat : Int) = _
  rw [e, IntKind.wrap_i64]; omega
set_option maxHeartbeats 400000 in
theorem ones64_any {w : World} (f : Nat → Bool) :
    Calls Tryd.prog 64 #[.int .u64 (wordN f 64)] w fun r w' => r = .returned (.int .i64 (cnt f 64)) ∧ w = w' := by
  have hx := wordN_lt f 64
  have HE := hidden (ones_eq f)
  generalize wordN f 64 = x at hx HE
  go_enter Tryd.func64, Tryd.ntmps64
  go_wp2
  go_ret
  refine ⟨?_, rfl⟩
  show Ending.returned (.int .i64 (bits BinOp.and IntKind.i64 (wrap64 (o6 (o5 (o4 (o3 (o2 (o1 x))))))) 127)) = _
  obtain ⟨h1, h2, h3⟩ := HE.out
  rw [last7 _ h2 h3, h1]
theorem tz_step (x m t : Nat) (hx : x < 2 ^ 64) (h0 : x ≠ 0) (hm : x &&& (18446744073709551616 - x) = m) (hmt : m = 2 ^ t) :
    IntKind.u64.wrap (bits BinOp.and IntKind.u64 (x : Int) (IntKind.u64.wrap (-(x : Int))) * 285870213051353865) / 288230376151711744 = ((dbi t : Nat) : Int) := by
  have e1 : IntKind.u64.wrap (-(x : Int)) = ((18446744073709551616 - x : Nat) : Int) := by rw [wrapu]; omega
  rw [e1, bits_and _ _ hx (by omega), hm, wrapu]
  unfold dbi
  rw [← hmt]
  omega
set_option maxHeartbeats 400000 in
theorem tz64_raw {w : World} (x : Nat) (d : Nat) (t : Nat) (hV : IntKind.u64.wrap (bits BinOp.and IntKind.u64 (x : Int) (IntKind.u64.wrap (-(x : Int))) * 285870213051353865) / 288230376151711744 = (d : Int)) (hne : ((x : Int) == 0) = false)
   (hd : d < 64) (ht : t < 64) (hc : w.cell? ⟨1, d, none⟩ = some (.int .u8 t)) :
    Calls Tryd.prog 59 #[.int .u64 x] w fun r w' => r = .returned (.int .i64 t) ∧ w = w' := by
  go_enter Tryd.func59, Tryd.ntmps59
  go_wp2
  go_ret
  exact ⟨rfl, rfl⟩
theorem tz64_any {w : World} (hT : TabB w) (f : Nat → Bool) (t : Nat) (ht : t < 64) (h : f t = true) (hl : ∀ j, j < t → f j = false) :
    Calls Tryd.prog 59 #[.int .u64 (wordN f 64)] w fun r w' => r = .returned (.int .i64 t) ∧ w = w' := by
  have hx0 : wordN f 64 ≠ 0 := by
    intro e; rw [wordN_zero] at e
    rw [e t ht] at h; cases h
  have hm := word_low f t ht h hl
  have hx := wordN_lt f 64
  generalize wordN f 64 = x at *
  obtain ⟨hd1, hd2⟩ := dbt_dbi t ht
  exact tz64_raw x (dbi t) t (tz_step x _ t hx hx0 hm rfl) (by simp; omega) hd1 ht (hT _ _ hd2)
end Go.Proofs.YtfefdleadocpmaaDoor

/- Bitmaps in memory, and walks of their small methods. Conditions: the blocks hold what BM.hl says. -/
namespace Go.Proofs.YtfefdleadocpmaaDoor
open Go.RowKit

structure BM where
  b : Nat
  wb : Nat
  bits : List Bool
def bitAt (bits : List Bool) (k : Nat) : Nat → Bool := fun j => bits[64 * k + j]?.getD false
def nwords (n : Nat) : Nat := (n + 63) / 64
def wcells (bits : List Bool) : List Value := (List.range (nwords bits.length)).map fun k => .int .u64 (wordN (bitAt bits k) 64 : Nat)
def BM.hl (m : BM) : HL := [(m.b, isC 118 [.int .i64 m.bits.length, .slice (some ⟨m.wb, 0, none⟩) (nwords m.bits.length) (nwords m.bits.length)]), (m.wb, isC 51 (wcells m.bits))]
section
variable {w : World} {m : BM}
theorem BM.c0 (h : Sep w m.hl) : w.cell? ⟨m.b, 0, none⟩ = some (.int .i64 m.bits.length) := (h.cells (T := 118) (cs := [.int .i64 m.bits.length, .slice (some ⟨m.wb, 0, none⟩) (nwords m.bits.length) (nwords m.bits.length)]) (by simp [BM.hl])).cell 0 _ rfl
theorem BM.c1 (h : Sep w m.hl) : w.cell? ⟨m.b, 1, none⟩ = some (.slice (some ⟨m.wb, 0, none⟩) (nwords m.bits.length) (nwords m.bits.length)) := (h.cells (T := 118) (cs := [.int .i64 m.bits.length, .slice (some ⟨m.wb, 0, none⟩) (nwords m.bits.length) (nwords m.bits.length)]) (by simp [BM.hl])).cell 1 _ rfl
theorem BM.wcell (h : Sep w m.hl) (k : Nat) (hk : k < nwords m.bits.length) : w.cell? ⟨m.wb, k, none⟩ = some (.int .u64 (wordN (bitAt m.bits k) 64 : Nat)) :=
  (h.cells (T := 51) (cs := wcells m.bits) (by simp [BM.hl])).cell k _ (by simp [wcells, hk])
theorem BM.wfree (h : Sep w m.hl) (k : Nat) : w.frozen? ⟨m.wb, k, none⟩ = false := (h.cells (T := 51) (cs := wcells m.bits) (by simp [BM.hl])).free k
end
set_option maxHeartbeats 400000 in
theorem bmlen_any {w : World} {m : BM} (h : Sep w m.hl) : Calls Tryd.prog 57 #[.pointer (some ⟨m.b, 0, none⟩)] w fun r w' => r = .returned (.int .i64 m.bits.length) ∧ w = w' := by
  have c0 := BM.c0 h
  clear h
  go_enter Tryd.func57, Tryd.ntmps57
  go_wp2
  go_ret
  exact ⟨rfl, rfl⟩
set_option maxHeartbeats 400000 in
theorem bmget_out {w : World} {m : BM} (h : Sep w m.hl) (i : Int) (hi : i < 0 ∨ m.bits.length ≤ i) : Calls Tryd.prog 66 #[.pointer (some ⟨m.b, 0, none⟩), .int .i64 i] w fun r w' => r = .returned (.bool false) ∧ w = w' := by
  have k1 := bmlen_any h
  clear h
  generalize m.bits.length = n at *
  rcases (show i < 0 ∨ 0 ≤ i by omega) with h0 | h0
  · have h1 : ¬ 0 ≤ i := by omega
    go_enter Tryd.func66, Tryd.ntmps66
    go_wp2_with (go_at_call 57; refine k1.mono ?_; rintro e w' ⟨rfl, rfl⟩)
    go_ret
    exact ⟨rfl, rfl⟩
  · have h1 : ¬ i < n := by omega
    have h2 : decide (i < n) = false := by simpa using h1
    go_enter Tryd.func66, Tryd.ntmps66
    go_wp2_with (go_at_call 57; refine k1.mono ?_; rintro e w' ⟨rfl, rfl⟩)
    go_ret
    exact ⟨rfl, rfl⟩
set_option maxHeartbeats 400000 in
theorem bmget_in {w : World} {m : BM} (h : Sep w m.hl) (i : Nat) (hi : i < m.bits.length) (hn : m.bits.length ≤ 1048576) : Calls Tryd.prog 66 #[.pointer (some ⟨m.b, 0, none⟩), .int .i64 i] w fun r w' => r = .returned (.bool (m.bits[i]?.getD false)) ∧ w = w' := by
  have k1 := bmlen_any h
  have c1 := BM.c1 h
  have hq : i / 64 < nwords m.bits.length := by unfold nwords; omega
  have cw := BM.wcell h (i / 64) hq
  have hg := word_get (bitAt m.bits (i / 64)) (i % 64) (by omega)
  have hx := wordN_lt (bitAt m.bits (i / 64)) 64
  have HB : Hid (bitAt m.bits (i / 64) (i % 64) = m.bits[i]?.getD false) := by unfold bitAt; congr 2; omega
  clear h
  generalize wordN (bitAt m.bits (i / 64)) 64 = x at *
  generalize m.bits.length = n at *
  have hv : (bits BinOp.and IntKind.u64 ((x : Int) / 2 ^ (i % 64)) 1 == 1) = bitAt m.bits (i / 64) (i % 64) := by
    rw [show ((x : Int) / 2 ^ (i % 64)) = ((x / 2 ^ (i % 64) : Nat) : Int) from by push_cast; rfl, show (1 : Int) = ((1 : Nat) : Int) from rfl, bits_and _ _ (Nat.lt_of_le_of_lt (Nat.div_le_self _ _) hx) (by decide), hg]
    cases bitAt m.bits (i / 64) (i % 64) <;> rfl
  go_enter Tryd.func66, Tryd.ntmps66
  go_wp2_with (go_at_call 57; refine k1.mono ?_; rintro e w' ⟨rfl, rfl⟩)
  go_ret
  exact ⟨by rw [← HB.out]; rfl, rfl⟩

/-! Setting one bit. -/
theorem bits_get_set (bits : List Bool) (i : Nat) (hi : i < bits.length) (on : Bool) (j : Nat) : (bits.set i on)[j]?.getD false = if j = i then on else bits[j]?.getD false := by
  rw [List.getElem?_set]
  by_cases h : i = j
  · subst h; simp [hi]
  · simp [h, show ¬ j = i from fun e => h e.symm]
theorem wcells_set (bits : List Bool) (i : Nat) (hi : i < bits.length) (on : Bool) (hne : bits[i]?.getD false ≠ on) :
    (wcells bits).set (i / 64) (.int .u64 ((wordN (bitAt bits (i / 64)) 64 ^^^ 2 ^ (i % 64) : Nat))) = wcells (bits.set i on) := by
  apply List.ext_getElem?
  intro k
  have hq : i / 64 < nwords bits.length := by unfold nwords; omega
  rw [List.getElem?_set]
  unfold wcells
  simp only [List.length_map, List.length_range, List.getElem?_map, List.length_set]
  by_cases hk : i / 64 = k
  · subst hk
    simp only [if_true, hq, List.getElem?_range hq, Option.map_some]
    rw [word_flip _ _ (by omega)]
    congr 3
    apply wordN_congr
    intro j hj
    unfold bitAt
    rw [bits_get_set _ _ hi]
    by_cases hj2 : j = i % 64
    · subst hj2
      have e : 64 * (i / 64) + i % 64 = i := by omega
      simp only [if_true, e]
      cases h1 : bits[i]?.getD false <;> cases on <;> simp_all
    · have e : ¬ 64 * (i / 64) + j = i := by omega
      simp [hj2, e]
  · rw [if_neg hk]
    by_cases hkn : k < nwords bits.length
    · simp only [List.getElem?_range hkn, Option.map_some]
      congr 3
      apply wordN_congr
      intro j hj
      unfold bitAt
      rw [bits_get_set _ _ hi, if_neg (by omega)]
    · rw [List.getElem?_eq_none (by simp; omega)]; rfl
def bset (bits : List Bool) (on : Bool) (i : Nat) : List Bool := bits.set i on
theorem BM.set (m : BM) {w : World} (h : Sep w m.hl) (i : Nat) (hi : i < m.bits.length) (on : Bool) (hne : m.bits[i]?.getD false ≠ on) :
    Step m.hl ({ m with bits := m.bits.set i on } : BM).hl w (w.setCell ⟨m.wb, i / 64, none⟩ (.int .u64 ((wordN (bitAt m.bits (i / 64)) 64 ^^^ 2 ^ (i % 64) : Nat)))) := by
  have e : ({ m with bits := m.bits.set i on } : BM).hl = [(m.b, isC 118 [.int .i64 m.bits.length, .slice (some ⟨m.wb, 0, none⟩) (nwords m.bits.length) (nwords m.bits.length)])] ++ (m.wb, isC 51 ((wcells m.bits).set (i / 64) (.int .u64 ((wordN (bitAt m.bits (i / 64)) 64 ^^^ 2 ^ (i % 64) : Nat))))) :: [] := by
    rw [wcells_set _ _ hi on hne]
    simp [BM.hl]
  rw [e]
  exact Sep.set (A := [_]) (B := []) h (i / 64) _
set_option maxHeartbeats 400000 in
theorem bmset_same {w : World} {m : BM} (h : Sep w m.hl) (on : Bool) (i : Nat) (hi : i < m.bits.length) (hn : m.bits.length ≤ 1048576) (hs : m.bits[i]?.getD false = on) (g : Nat) (hg : w.cell? ⟨g, 0, none⟩ = some (.int .i64 i)) :
    Calls Tryd.prog 44 #[.pointer (some ⟨m.b, 0, none⟩), .bool on, .slice (some ⟨g, 0, none⟩) 1 1] w fun r w' => r = .returned (.int .i64 0) ∧ w = w' := by
  have k1 := bmlen_any h
  have k2 := bmget_in h i hi hn
  rw [hs] at k2
  have hb : (on != on) = false := by simp
  have hb2 : (!on == on) = false := by cases on <;> rfl
  clear h hs
  generalize m.bits.length = n at *
  go_enter Tryd.func44, Tryd.ntmps44
  go_wp2_with fail
  go_loop [7, 12] (fun nv iv => nv = .int .i64 0 ∧ ∃ k : Nat, k ≤ 1 ∧ iv = .int .i64 k) (fun _ iv => 1 - (intOf iv).toNat)
  case atStart => exact ⟨rfl, 0, by omega, rfl⟩
  case round =>
    obtain ⟨rfl, k, hk, rfl⟩ := hrel
    by_cases h0 : k = 0
    · subst h0
      go_wp2_with (first | (go_at_call 57; refine k1.mono ?_; rintro e w' ⟨rfl, rfl⟩) | (go_at_call 66; refine k2.mono ?_; rintro e w' ⟨rfl, rfl⟩))
      go_round
      case rel => exact ⟨rfl, 1, by omega, by go_num⟩
      case measure => simp [intOf]
    · obtain rfl : k = 1 := by omega
      go_wp2_with fail
      go_ret
      exact ⟨rfl, rfl⟩
set_option maxHeartbeats 400000 in
theorem bmset_out {w : World} {m : BM} (h : Sep w m.hl) (on : Bool) (i : Int) (hi : i < 0 ∨ m.bits.length ≤ i) (g : Nat) (hg : w.cell? ⟨g, 0, none⟩ = some (.int .i64 i)) :
    Calls Tryd.prog 44 #[.pointer (some ⟨m.b, 0, none⟩), .bool on, .slice (some ⟨g, 0, none⟩) 1 1] w fun r w' => r = .returned (.int .i64 0) ∧ w = w' := by
  have k1 := bmlen_any h
  clear h
  generalize m.bits.length = n at *
  go_enter Tryd.func44, Tryd.ntmps44
  go_wp2_with fail
  go_loop [7, 12] (fun nv iv => nv = .int .i64 0 ∧ ∃ k : Nat, k ≤ 1 ∧ iv = .int .i64 k) (fun _ iv => 1 - (intOf iv).toNat)
  case atStart => exact ⟨rfl, 0, by omega, rfl⟩
  case round =>
    obtain ⟨rfl, k, hk, rfl⟩ := hrel
    by_cases h0 : k = 0
    · subst h0
      by_cases h1 : i < 0
      · have h2 : ¬ 0 ≤ i := by omega
        go_wp2_with (first | (go_at_call 57; refine k1.mono ?_; rintro e w' ⟨rfl, rfl⟩))
        go_round
        case rel => exact ⟨rfl, 1, by omega, by go_num⟩
        case measure => simp [intOf]
      · have h2 : ¬ i < n := by omega
        have h3 : decide (i < n) = false := by simpa using h2
        have h4 : 0 ≤ i := by omega
        go_wp2_with (first | (go_at_call 57; refine k1.mono ?_; rintro e w' ⟨rfl, rfl⟩))
        go_round
        case rel => exact ⟨rfl, 1, by omega, by go_num⟩
        case measure => simp [intOf]
    · obtain rfl : k = 1 := by omega
      go_wp2_with fail
      go_ret
      exact ⟨rfl, rfl⟩
set_option maxHeartbeats 1000000 in
theorem bmset_turn {w : World} {m : BM} (h : Sep w m.hl) (on : Bool) (i : Nat) (hi : i < m.bits.length) (hn : m.bits.length ≤ 1048576) (hs : m.bits[i]?.getD false ≠ on) (g : Nat) (hg : w.cell? ⟨g, 0, none⟩ = some (.int .i64 i)) (hgk : g ∉ keys m.hl) :
    Calls Tryd.prog 44 #[.pointer (some ⟨m.b, 0, none⟩), .bool on, .slice (some ⟨g, 0, none⟩) 1 1] w fun r w' => r = .returned (.int .i64 1) ∧ Step m.hl ({ m with bits := m.bits.set i on } : BM).hl w w' := by
  have k1 := bmlen_any h
  have k2 := bmget_in h i hi hn
  have hb : (m.bits[i]?.getD false != on) = true := by simpa using hs
  have hb2 : (!m.bits[i]?.getD false == on) = true := by cases h1 : m.bits[i]?.getD false <;> cases on <;> simp_all
  have HS := hidden (BM.set m h i hi on hs)
  have c1 := BM.c1 h
  have hq : i / 64 < nwords m.bits.length := by unfold nwords; omega
  have cw := BM.wcell h (i / 64) hq
  have hf := BM.wfree h (i / 64)
  have hx := wordN_lt (bitAt m.bits (i / 64)) 64
  have hp : 2 ^ (i % 64) < 2 ^ 64 := Nat.pow_lt_pow_right (by omega) (by omega)
  have hxor := bits_xor (wordN (bitAt m.bits (i / 64)) 64) (2 ^ (i % 64)) hx hp
  have hd4 : IntKind.u64.wrap (2 ^ (i % 64)) = ((2 ^ (i % 64) : Nat) : Int) := by
    have hd3 : ((2 ^ (i % 64) : Nat) : Int) = 2 ^ (i % 64) := by push_cast; rfl
    rw [← hd3, wrapu]
    refine Int.emod_eq_of_lt (Int.natCast_nonneg _) ?_
    have := Int.ofNat_lt.2 hp
    simpa using this
  clear h hs
  generalize m.bits[i]?.getD false = old at *
  generalize wordN (bitAt m.bits (i / 64)) 64 = x at *
  generalize (2 : Nat) ^ (i % 64) = p at *
  generalize x ^^^ p = y at *
  generalize hm2 : ({ m with bits := m.bits.set i on } : BM).hl = H' at *
  generalize m.hl = H at *
  generalize m.bits.length = n at *
  clear hm2 hx hp
  go_enter Tryd.func44, Tryd.ntmps44
  go_wp2_with fail
  go_loopw [7, 12] (fun nv iv wr => (nv = .int .i64 0 ∧ iv = .int .i64 0 ∧ wr = w) ∨ (nv = .int .i64 1 ∧ iv = .int .i64 1 ∧ Step H H' w wr)) (fun _ iv _ => 1 - (intOf iv).toNat)
  case atStart => exact .inl ⟨rfl, rfl, rfl⟩
  case round =>
    rcases hrel with ⟨rfl, rfl, rfl⟩ | ⟨rfl, rfl, hst⟩
    · go_wp2_with (first | (go_at_call 57; refine k1.mono ?_; rintro e w' ⟨rfl, rfl⟩) | (go_at_call 66; refine k2.mono ?_; rintro e w' ⟨rfl, rfl⟩))
      have hd1 : (i : Int).tdiv 64 = ((i / 64 : Nat) : Int) := by rw [Int.tdiv_eq_ediv_of_nonneg (by omega)]; omega
      have hd2 : (i : Int).tmod 64 = ((i % 64 : Nat) : Int) := by rw [Int.tmod_eq_emod_of_nonneg (by omega)]; omega
      go_region
      go_wp2_with fail
      go_roundw
      case rel => exact .inr ⟨rfl, rfl, HS.out.drew⟩
      case measure => simp [intOf]
    · go_wp2_with fail
      go_ret
      exact ⟨rfl, hst⟩

/-! The first bit that is so. -/
def firstI (bits : List Bool) (on : Bool) (from_ : Nat) : Option Nat := (List.range bits.length).find? fun j => decide (from_ ≤ j) && ((bits[j]?.getD false) == on)
def optI : Option Nat → Int
  | none => -1
  | some j => j
theorem firstI_some {bits : List Bool} {on : Bool} {s j : Nat} (hj : j < bits.length) (hs : s ≤ j) (h : bits[j]?.getD false = on) (hp : ∀ i, s ≤ i → i < j → bits[i]?.getD false ≠ on) : firstI bits on s = some j := by
  unfold firstI
  rw [List.find?_range_eq_some]
  refine ⟨by simp [hs, h], by simpa using hj, fun i hi => ?_⟩
  by_cases h1 : s ≤ i
  · simp [hp i h1 hi]
  · simp [h1]
theorem firstI_none {bits : List Bool} {on : Bool} {s : Nat} (hp : ∀ i, s ≤ i → i < bits.length → bits[i]?.getD false ≠ on) : firstI bits on s = none := by
  unfold firstI
  rw [List.find?_eq_none]
  intro i hi
  simp only [List.mem_range] at hi
  by_cases h1 : s ≤ i
  · simp [hp i h1 hi]
  · simp [h1]
theorem firstI_spec {bits : List Bool} {on : Bool} {s j : Nat} (h : firstI bits on s = some j) : j < bits.length ∧ s ≤ j ∧ bits[j]?.getD false = on ∧ ∀ i, s ≤ i → i < j → bits[i]?.getD false ≠ on := by
  unfold firstI at h
  rw [List.find?_range_eq_some] at h
  obtain ⟨h1, h2, h3⟩ := h
  simp only [Bool.and_eq_true, decide_eq_true_eq, beq_iff_eq] at h1
  refine ⟨by simpa using h2, h1.1, h1.2, fun i hi hij => ?_⟩
  have := h3 i hij
  simpa [hi] using this
theorem firstI_no {bits : List Bool} {on : Bool} {s : Nat} (h : firstI bits on s = none) : ∀ i, s ≤ i → i < bits.length → bits[i]?.getD false ≠ on := by
  unfold firstI at h
  rw [List.find?_eq_none] at h
  intro i hi hl
  have := h i (by simpa using hl)
  simpa [hi] using this
set_option maxHeartbeats 400000 in
theorem bmword_any {w : World} {m : BM} (h : Sep w m.hl) (on : Bool) (k : Nat) (hk : k < nwords m.bits.length) :
    Calls Tryd.prog 58 #[.pointer (some ⟨m.b, 0, none⟩), .bool on, .int .i64 k] w fun r w' => r = .returned (.int .u64 (wordN (fun j => bitAt m.bits k j == on) 64 : Nat)) ∧ w = w' := by
  have c1 := BM.c1 h
  have cw := BM.wcell h k hk
  have hx := wordN_lt (bitAt m.bits k) 64
  have hnot := word_not (bitAt m.bits k)
  clear h
  cases on with
  | true =>
    have e : wordN (fun j => bitAt m.bits k j == true) 64 = wordN (bitAt m.bits k) 64 := wordN_congr _ _ _ fun j _ => by simp
    rw [e]
    generalize wordN (bitAt m.bits k) 64 = x at *
    generalize nwords m.bits.length = nw at *
    clear hnot e
    go_enter Tryd.func58, Tryd.ntmps58
    go_wp2
    go_ret
    exact ⟨rfl, rfl⟩
  | false =>
    have e : wordN (fun j => bitAt m.bits k j == false) 64 = wordN (fun j => !bitAt m.bits k j) 64 := wordN_congr _ _ _ fun j _ => by simp
    rw [e, ← hnot]
    generalize wordN (bitAt m.bits k) 64 = x at *
    generalize nwords m.bits.length = nw at *
    clear hnot e
    have hx2 : bits BinOp.xor IntKind.u64 IntKind.u64.max (x : Int) = ((x ^^^ 18446744073709551615 : Nat) : Int) := by
      rw [show IntKind.u64.max = ((18446744073709551615 : Nat) : Int) from by decide, bits_xor _ _ (by decide) hx, Nat.xor_comm]
    have HX := hidden hx2
    clear hx2
    go_enter Tryd.func58, Tryd.ntmps58
    go_wp2
    go_ret
    exact ⟨by rw [← HX.out]; rfl, rfl⟩
/-- The word that a round looks at: its bits from s on, those that are so. -/
def cutF (bits : List Bool) (on : Bool) (s k : Nat) : Nat → Bool := fun j => decide (s ≤ 64 * k + j) && (bitAt bits k j == on)
theorem cast_cut (x s : Nat) : IntKind.u64.wrap ((x : Int) / 2 ^ s * 2 ^ s) = ((x / 2 ^ s * 2 ^ s % 18446744073709551616 : Nat) : Int) := by
  rw [wrapu, Int.natCast_emod, Int.natCast_mul, Int.natCast_ediv, Int.natCast_pow]; rfl
/-- The word that a round has, and the one that it looks at. -/
theorem word_round (bits : List Bool) (on : Bool) (s k : Nat) (hk : s / 64 ≤ k) : ∃ X Y : Nat, wordN (fun j => bitAt bits k j == on) 64 = X ∧ Y = wordN (cutF bits on s k) 64 ∧
    ((k = s / 64 ∧ IntKind.u64.wrap ((X : Int) / 2 ^ (s % 64) * 2 ^ (s % 64)) = (Y : Int)) ∨ (k ≠ s / 64 ∧ X = Y)) := by
  refine ⟨_, _, rfl, rfl, ?_⟩
  by_cases h : k = s / 64
  · left
    refine ⟨h, ?_⟩
    rw [cast_cut, word_cut]
    congr 1
    refine wordN_congr _ _ _ fun j hj => ?_
    unfold cutF
    congr 1
    rw [decide_eq_decide]; omega
  · right
    refine ⟨h, wordN_congr _ _ _ fun j hj => ?_⟩
    unfold cutF
    have : s ≤ 64 * k + j := by omega
    simp [this]
theorem tz64_zero {w : World} : Calls Tryd.prog 59 #[.int .u64 0] w fun r w' => r = .returned (.int .i64 64) ∧ w = w' := by
  go_enter Tryd.func59, Tryd.ntmps59
  go_wp2
  go_ret
  exact ⟨rfl, rfl⟩
theorem least (f : Nat → Bool) (n : Nat) : (∀ j, j < n → f j = false) ∨ ∃ t, t < n ∧ f t = true ∧ ∀ j, j < t → f j = false := by
  induction n with
  | zero => left; intro j hj; omega
  | succ n ih =>
    rcases ih with h | ⟨t, h1, h2, h3⟩
    · cases hf : f n with
      | true => exact .inr ⟨n, by omega, hf, h⟩
      | false => left; intro j hj; rcases Nat.lt_succ_iff_lt_or_eq.1 hj with h' | h'; exact h j h'; subst h'; exact hf
    · exact .inr ⟨t, by omega, h2, h3⟩
set_option maxHeartbeats 2000000 in
theorem bmfirst_any {w : World} {m : BM} (h : Sep w m.hl) (on : Bool) (s : Nat) (hs : s ≤ 1048576) (hn : m.bits.length ≤ 1048576) :
    Calls Tryd.prog 35 #[.pointer (some ⟨m.b, 0, none⟩), .bool on, .int .i64 s] w fun r w' => r = .returned (.int .i64 (optI (firstI m.bits on s))) ∧ w = w' := by
  have k1 := bmlen_any h
  have k2 := hidden (fun k hk => bmword_any h on k hk)
  have c0 := BM.c0 h
  have HT := hidden h.env.tabB
  clear h
  have HF := hidden (show ∀ j, j < m.bits.length → s ≤ j → m.bits[j]?.getD false = on → (∀ i, s ≤ i → i < j → m.bits[i]?.getD false ≠ on) → firstI m.bits on s = some j from fun j h1 h2 h3 h4 => firstI_some h1 h2 h3 h4)
  have HN := hidden (show (∀ i, s ≤ i → i < m.bits.length → m.bits[i]?.getD false ≠ on) → firstI m.bits on s = none from firstI_none)
  generalize hlen : m.bits.length = n at *
  have HL := hidden hlen
  clear hlen
  go_enter Tryd.func35, Tryd.ntmps35
  go_wp2_with fail
  go_loop [7] (fun kv => ∃ k : Nat, kv = .int .i64 k ∧ s / 64 ≤ k ∧ k ≤ s / 64 + nwords n ∧ ∀ i, s ≤ i → i < 64 * k → i < n → m.bits[i]?.getD false ≠ on) (fun kv => s / 64 + nwords n - (intOf kv).toNat)
  case atStart => exact ⟨s / 64, by go_num, Nat.le_refl _, by omega, by intro i h1 h2 _; omega⟩
  case round =>
    obtain ⟨k, rfl, hk1, hk2, hpre⟩ := hrel
    have HPr := hidden hpre
    clear hpre
    have hkb : k ≤ 40000 := by unfold nwords at hk2; omega
    by_cases hlt : k * 64 < n
    · have hkw : k < nwords n := by unfold nwords; omega
      go_wp2_with fail
      refine k1.mono ?_
      rintro e w' ⟨rfl, rfl⟩
      go_wp2_with fail
      refine (k2.out k hkw).mono ?_
      rintro e w' ⟨rfl, rfl⟩
      obtain ⟨X, Y, hX, hY, hG⟩ := word_round m.bits on s k hk1
      rw [hX]
      have HY := hidden hY
      have hYlt : Y < 2 ^ 64 := by rw [hY]; exact wordN_lt _ _
      clear hX hY
      have hcase : (Y = 0 ∧ ∀ j, j < 64 → cutF m.bits on s k j = false) ∨ ∃ t, Y ≠ 0 ∧ t < 64 ∧ cutF m.bits on s k t = true ∧ ∀ j, j < t → cutF m.bits on s k j = false := by
        rcases least (cutF m.bits on s k) 64 with h | ⟨t, h1, h2, h3⟩
        · exact .inl ⟨by rw [HY.out]; exact wordN_zero.2 h, h⟩
        · refine .inr ⟨t, ?_, h1, h2, h3⟩
          intro e
          rw [HY.out, wordN_zero] at e
          rw [e t h1] at h2; cases h2
      have hnext : (∀ j, j < 64 → 64 * k + j < n → cutF m.bits on s k j = false) → ∀ i, s ≤ i → i < 64 * (k + 1) → i < n → m.bits[i]?.getD false ≠ on := by
        intro hz i h1 h2 h3 h4
        by_cases h5 : i < 64 * k
        · exact HPr.out i h1 h5 h3 h4
        · have := hz (i - 64 * k) (by omega) (by omega)
          unfold cutF bitAt at this
          rw [show 64 * k + (i - 64 * k) = i from by omega] at this
          simp [h1, h4] at this
      have HNx := hidden hnext
      clear hnext
      have hne64 : k + 1 ≤ s / 64 + nwords n := by unfold nwords; omega
      rcases hcase with ⟨hY0, hz⟩ | ⟨t, hY0, ht, hgt, hgl⟩
      · have Hz := hidden hz
        clear hz hYlt
        subst hY0
        rcases hG with ⟨hk, hcut⟩ | ⟨hk, hXY⟩
        · have hbk : ((k : Int) == (s : Int) / 64) = true := by simp; omega
          have hcut' : IntKind.u64.wrap ((X : Int) / 2 ^ (s % 64) * 2 ^ (s % 64)) = 0 := by simpa using hcut
          clear hcut hk
          go_wp2_with fail
          refine tz64_zero.mono ?_
          rintro e w' ⟨rfl, rfl⟩
          go_wp2_with fail
          go_round
          case rel => exact ⟨k + 1, by go_num, by omega, hne64, HNx.out fun j h1 _ => Hz.out j h1⟩
          case measure => simp [intOf]; omega
        · have hbk : ((k : Int) == (s : Int) / 64) = false := by simp; omega
          have hX0 : X = 0 := hXY
          subst hX0
          clear hXY hk
          go_wp2_with fail
          refine tz64_zero.mono ?_
          rintro e w' ⟨rfl, rfl⟩
          go_wp2_with fail
          go_round
          case rel => exact ⟨k + 1, by go_num, by omega, hne64, HNx.out fun j h1 _ => Hz.out j h1⟩
          case measure => simp [intOf]; omega
      · have hTZ := tz64_any HT.out (cutF m.bits on s k) t ht hgt hgl
        rw [← HY.out] at hTZ
        have hYb : ((Y : Int) != 0) = true := by simp; omega
        have hYb2 : ((Y : Int) == 0) = false := by simp; omega
        have Hgl := hidden hgl
        have Hgt := hidden hgt
        clear hgl hgt hY0
        have hXY' : (((k : Int) == (s : Int) / 64) = true ∧ IntKind.u64.wrap ((X : Int) / 2 ^ (s % 64) * 2 ^ (s % 64)) = (Y : Int)) ∨ (((k : Int) == (s : Int) / 64) = false ∧ X = Y) := by
          rcases hG with ⟨hk, hcut⟩ | ⟨hk, hXY⟩
          · left; exact ⟨by simp; omega, hcut⟩
          · right; exact ⟨by simp; omega, hXY⟩
        clear hG
        by_cases hin : 64 * k + t < n
        · have hin2 : (k : Int) * 64 + t < n := by omega
          have HFin : Hid (firstI m.bits on s = some (64 * k + t)) := by
            refine HF.out _ hin ?_ ?_ ?_
            · have := Hgt.out; unfold cutF at this; simp at this; exact this.1
            · have := Hgt.out; unfold cutF bitAt at this; simp at this; exact this.2
            · intro i h1 h2 h3
              by_cases h5 : i < 64 * k
              · exact HPr.out i h1 h5 (by omega) h3
              · have := Hgl.out (i - 64 * k) (by omega)
                unfold cutF bitAt at this
                rw [show 64 * k + (i - 64 * k) = i from by omega] at this
                simp [h1, h3] at this
          rcases hXY' with ⟨hbk, hcut⟩ | ⟨hbk, rfl⟩
          all_goals
            go_wp2_with fail
            refine hTZ.mono ?_
            rintro e w' ⟨rfl, rfl⟩
            go_wp2_with fail
            go_ret
            refine ⟨?_, rfl⟩
            rw [HFin.out]
            show Ending.returned (.int .i64 ((k : Int) * 64 + t)) = .returned (.int .i64 ((64 * k + t : Nat) : Int))
            congr 2; omega
        · have hin2 : ¬ (k : Int) * 64 + t < n := by omega
          have hin3 : decide ((k : Int) * 64 + t < n) = false := by simpa using hin2
          rcases hXY' with ⟨hbk, hcut⟩ | ⟨hbk, rfl⟩
          all_goals
            go_wp2_with fail
            refine hTZ.mono ?_
            rintro e w' ⟨rfl, rfl⟩
            go_wp2_with fail
            go_round
            case rel => exact ⟨k + 1, by go_num, by omega, hne64, HNx.out fun j h1 h2 => Hgl.out j (by omega)⟩
            case measure => simp [intOf]; omega
    · have hfin : firstI m.bits on s = none := HN.out fun i h1 h2 => HPr.out i h1 (by omega) h2
      have HFin := hidden hfin
      clear hfin
      have hlt2 : ¬ (k : Int) * 64 < n := by omega
      have hlt3 : decide ((k : Int) * 64 < n) = false := by simpa using hlt2
      go_wp2_with fail
      refine k1.mono ?_
      rintro e w' ⟨rfl, rfl⟩
      go_wp2_with fail
      go_ret
      exact ⟨by rw [HFin.out]; rfl, rfl⟩
/-! The count. -/
def cntB (bits : List Bool) : Nat := (bits.filter id).length
theorem cnt_take (bits : List Bool) : ∀ n, cnt (fun j => bits[j]?.getD false) n = cntB (bits.take n)
  | 0 => by simp [cnt, cntB]
  | n + 1 => by
    simp only [cnt]
    rw [cnt_take bits n, List.take_add_one]
    cases h : bits[n]? with
    | none => simp [cntB]
    | some b => cases b <;> simp [cntB, List.filter_append]
theorem cntB_all (bits : List Bool) (n : Nat) (h : bits.length ≤ n) : cnt (fun j => bits[j]?.getD false) n = cntB bits := by
  rw [cnt_take, List.take_of_length_le h]
theorem cntB_zero {bits : List Bool} : cntB bits = 0 ↔ ∀ b ∈ bits, b = false := by
  unfold cntB
  rw [List.length_eq_zero_iff, List.filter_eq_nil_iff]
  simp
set_option maxHeartbeats 1000000 in
theorem bmcount_any {w : World} {m : BM} (h : Sep w m.hl) (hn : m.bits.length ≤ 1048576) :
    Calls Tryd.prog 53 #[.pointer (some ⟨m.b, 0, none⟩)] w fun r w' => r = .returned (.int .i64 (cntB m.bits)) ∧ w = w' := by
  have k1 := bmlen_any h
  have c1 := BM.c1 h
  have HW := hidden (fun k hk => BM.wcell h k hk)
  have HC := hidden (cntB_all m.bits (64 * nwords m.bits.length) (by unfold nwords; omega))
  have HA := hidden (show ∀ k, cnt (fun j => m.bits[j]?.getD false) (64 * (k + 1)) = cnt (fun j => m.bits[j]?.getD false) (64 * k) + cnt (bitAt m.bits k) 64 from fun k => by rw [Nat.mul_add, Nat.mul_one, cnt_add]; rfl)
  have HB := hidden (show ∀ k, cnt (fun j => m.bits[j]?.getD false) (64 * k) ≤ 64 * k from fun k => cnt_le _ _)
  have hnw : nwords m.bits.length ≤ 20000 := by unfold nwords; omega
  clear h
  generalize hlen : m.bits.length = n at *
  have hdv : ((n : Int) + 64 - 1) / 64 = (nwords n : Nat) := by unfold nwords; omega
  clear hlen
  generalize nwords n = nw at *
  go_enter Tryd.func53, Tryd.ntmps53
  go_wp2_with fail
  refine k1.mono ?_
  rintro e w' ⟨rfl, rfl⟩
  go_wp2_with fail
  simp only [hdv]
  go_loop [3, 10] (fun cv kv => ∃ k : Nat, kv = .int .i64 k ∧ k ≤ nw ∧ cv = .int .i64 (cnt (fun j => m.bits[j]?.getD false) (64 * k) : Nat)) (fun _ kv => nw - (intOf kv).toNat)
  case atStart => exact ⟨0, rfl, by omega, rfl⟩
  case round =>
    obtain ⟨k, rfl, hk, rfl⟩ := hrel
    have hA := HA.out k
    have hB := HB.out k
    have HA1 := hidden hA
    clear hA
    generalize hc : cnt (fun j => m.bits[j]?.getD false) (64 * k) = c at *
    have HCc := hidden hc
    clear hc
    by_cases hlt : k < nw
    · have cw := HW.out k hlt
      have hb64 := cnt_le (bitAt m.bits k) 64
      have h64 := ones64_any (w := w) (bitAt m.bits k)
      generalize wordN (bitAt m.bits k) 64 = x at *
      generalize cnt (bitAt m.bits k) 64 = d at *
      go_wp2_with (go_at_call 64; refine h64.mono ?_; rintro e w' ⟨rfl, rfl⟩)
      go_round
      case rel => exact ⟨k + 1, by go_num, by omega, by rw [HA1.out]; go_num⟩
      case measure => simp [intOf]; omega
    · obtain rfl : k = nw := by omega
      go_wp2_with fail
      go_ret
      exact ⟨by rw [← HC.out, HCc.out]; rfl, rfl⟩
/-! A new one. -/
def NewBM (n : Nat) (H : HL) (w : World) (r : Ending) (w' : World) : Prop := ∃ m : BM, r = .returned (.pointer (some ⟨m.b, 0, none⟩)) ∧ m.bits = List.replicate n false ∧ Step H (m.hl ++ H) w w'
theorem wcells_new (n : Nat) : wcells (List.replicate n false) = List.replicate (nwords n) (.int .u64 0) := by
  unfold wcells
  rw [List.length_replicate]
  apply List.ext_getElem?
  intro k
  by_cases hk : k < nwords n
  · rw [List.getElem?_map, List.getElem?_range hk, List.getElem?_replicate, if_pos hk]
    have : wordN (bitAt (List.replicate n false) k) 64 = 0 := by
      rw [wordN_zero]
      intro j _
      unfold bitAt
      rw [List.getElem?_replicate]
      split <;> rfl
    simp [this]
  · rw [List.getElem?_eq_none (by simp; omega), List.getElem?_eq_none (by simp; omega)]
theorem Tryd.infou64 : (Tryd.prog.info? 51).map (fun i => (i.zero, i.size, i.bytes)) = some (some (.int .u64 0), 1, 8) := by kernel_rfl
set_option maxHeartbeats 1000000 in
set_option maxRecDepth 100000 in
theorem bmnew_any {w : World} {H : HL} (h : Sep w H) (n : Nat) (hn : n ≤ 1048576) : Calls Tryd.prog 43 #[.int .i64 n] w (NewBM n H w) := by
  have hdv : ((n : Int) + 64 - 1) / 64 = (nwords n : Nat) := by unfold nwords; omega
  have hnw : nwords n ≤ 20000 := by unfold nwords; omega
  have HR : Hid (NewBM n H w (.returned (.pointer (some ⟨w.heap.size + 1, 0, none⟩))) ((w.alloc (.cells (List.replicate (nwords n) (Value.int .u64 0)).toArray 51)).alloc (.cells (Array.mk [.int .i64 n, .slice (some ⟨w.heap.size, 0, none⟩) (nwords n) (nwords n)]) 118))) := by
    have s1 := h.new 51 (List.replicate (nwords n) (Value.int .u64 0))
    have s2 := s1.sep.new 118 [.int .i64 n, .slice (some ⟨w.heap.size, 0, none⟩) (nwords n) (nwords n)]
    refine ⟨⟨w.heap.size + 1, w.heap.size, List.replicate n false⟩, rfl, rfl, ?_⟩
    have := s1.trans s2
    simpa [BM.hl, wcells_new] using this
  clear h
  obtain ⟨i0, hi, hz0, hz1, hz2⟩ := info_parts Tryd.infou64
  have hmk := run_make_one (P := Tryd.prog) (w := w) 87 51 i0 (.int .u64 0) 8 Tryd.underlying87 hi hz0 hz1 hz2 rfl (nwords n) (by omega) (by omega)
  clear hi hz0 hz1 hz2
  generalize nwords n = nw at *
  generalize (List.replicate nw (Value.int .u64 0)).toArray = arr at *
  go_enter Tryd.func43, Tryd.ntmps43
  go_wp2
  go_ret
  exact HR.out
end Go.Proofs.YtfefdleadocpmaaDoor

/- Rows of cells that a slice has, with room beyond: a piece of memory. No condition. -/
namespace Go.Proofs.YtfefdleadocpmaaDoor
open Go.RowKit

/-- A slice that is nil, or its block and how much it may hold. -/
abbrev RV := Option (Nat × Nat)
def lvOf (rv : RV) (n : Nat) : Value := match rv with
  | none => .slice none 0 0
  | some (g, cap) => .slice (some ⟨g, 0, none⟩) n cap
def rowH (rv : RV) (T : TypeId) (size : Nat) (xs : List Value) : HL := match rv with
  | none => []
  | some (g, cap) => [(g, isR T (cap * size) xs)]
/-- The slice of n elements fits its block. -/
def rvOk (rv : RV) (n : Nat) : Prop := match rv with
  | none => n = 0
  | some (_, cap) => n ≤ cap ∧ cap ≤ maxLen
theorem row_owns {w : World} {rv : RV} {T : TypeId} {size n : Nat} {xs : List Value} (h : Sep w (rowH rv T size xs)) (hok : rvOk rv n) (hl : xs.length = n * size) : w.ownsRow 0 T size (lvOf rv n) n xs := by
  refine ⟨hl, ?_⟩
  cases rv with
  | none => exact .inl ⟨rfl, hok⟩
  | some p =>
    obtain ⟨g, cap⟩ := p
    obtain ⟨o, ho, cur, rfl, hn, hr⟩ := h.get (b := g) (q := isR T (cap * size) xs) (by simp [rowH])
    refine .inr ⟨g, cap, cur, rfl, Nat.zero_le _, ho, hok.1, hok.2, hn, ?_⟩
    rw [← hl]; exact hr
theorem row_cell {w : World} {g cap : Nat} {T : TypeId} {size : Nat} {xs : List Value} (h : Sep w (rowH (some (g, cap)) T size xs)) (j : Nat) (v : Value) (hv : xs[j]? = some v) : w.cell? ⟨g, j, none⟩ = some v := by
  obtain ⟨ds, hc, _, ht⟩ := h.row (b := g) (T := T) (n := cap * size) (cs := xs) (by simp [rowH])
  refine hc.cell j v ?_
  rw [← ht] at hv
  rw [List.getElem?_take] at hv
  split at hv
  · exact hv
  · cases hv
theorem row_free {w : World} {g cap : Nat} {T : TypeId} {size : Nat} {xs : List Value} (h : Sep w (rowH (some (g, cap)) T size xs)) (j : Nat) : w.frozen? ⟨g, j, none⟩ = false := by
  obtain ⟨ds, hc, _, _⟩ := h.row (b := g) (T := T) (n := cap * size) (cs := xs) (by simp [rowH])
  exact hc.free j
/-- Behind an append. -/
theorem row_appended {w w' : World} {A B : HL} {rv : RV} {T : TypeId} {size n n' : Nat} {xs ys : List Value} {v' : Value} (h : Sep w (A ++ rowH rv T size xs ++ B)) (ho : w'.ownsRow 0 T size v' n' ys) (hg : w.grownBy w' (lvOf rv n).ownBlock)
    (hb : v'.ownBlock = (lvOf rv n).ownBlock ∨ v'.ownBlock = some w.heap.size) : ∃ rv', v' = lvOf rv' n' ∧ rvOk rv' n' ∧ Step (A ++ rowH rv T size xs ++ B) (A ++ rowH rv' T size ys ++ B) w w' := by
  obtain ⟨hl, ho⟩ := ho
  -- what A and B have is as it was
  have hAB : Sep w (A ++ B) := h.sub (by
    refine List.Sublist.append ?_ (List.Sublist.refl _)
    exact List.sublist_append_left _ _)
  have notin : ∀ g cap, rv = some (g, cap) → g ∉ keys (A ++ B) := by
    rintro g cap rfl hm
    have hnd := h.nd
    simp only [keys_append, rowH, keys_cons, keys_nil] at hnd hm
    have h1 := List.nodup_append.1 hnd
    have h2 := List.nodup_append.1 h1.1
    rcases List.mem_append.1 hm with hm | hm
    · exact h2.2.2 g hm g (by simp) rfl
    · exact h1.2.2 g (by simp) g hm rfl
  have keep : ∀ b ∈ keys (A ++ B), w'.heap[b]? = w.heap[b]? := by
    intro b hb'
    refine hg.block b (hAB.lt hb') fun e => ?_
    cases rv with
    | none => cases e
    | some p => obtain ⟨g, cap⟩ := p; cases e; exact notin _ _ rfl hb'
  have hchg : Chg (fun b => b ∈ keys (A ++ rowH rv T size xs ++ B)) w w' := ⟨hg.os, hg.tape, hg.output, hg.size, fun k hk hF => hg.block k hk fun e => hF (by
    cases rv with
    | none => cases e
    | some p => obtain ⟨g, cap⟩ := p; cases e; simp [rowH])⟩
  have henv := h.env.chg hchg h.hi
  have hsAB := hAB.same keep henv
  rcases ho with ⟨rfl, h0⟩ | ⟨g', cap', cur, rfl, _, hh, hle, hm, hsz, htk⟩
  · subst h0
    refine ⟨none, rfl, rfl, ?_, hchg, ?_⟩
    · simpa [rowH] using hsAB
    · intro b hb'
      left
      simp only [rowH, List.append_nil, keys_append, List.mem_append] at hb' ⊢
      rcases hb' with hb' | hb'
      · exact .inl (.inl hb')
      · exact .inr hb'
  · have hfresh : g' ∉ keys (A ++ B) ∧ (g' ∈ keys (A ++ rowH rv T size xs ++ B) ∨ w.heap.size ≤ g') := by
      rcases hb with e | e
      · cases rv with
        | none => cases e
        | some p =>
          obtain ⟨g, cap⟩ := p
          have : g' = g := Option.some.inj e
          subst this
          exact ⟨notin _ _ rfl, .inl (by simp [rowH])⟩
      · have : g' = w.heap.size := Option.some.inj e
        subst this
        exact ⟨fun hm' => by have := hAB.lt hm'; omega, .inr (Nat.le_refl _)⟩
    refine ⟨some (g', cap'), rfl, ⟨hle, hm⟩, ⟨?_, ?_, ?_, henv⟩, hchg, ?_⟩
    · have hnd := hAB.nd
      simp only [keys_append, rowH, keys_cons, keys_nil] at hnd hfresh ⊢
      have h1 := List.nodup_append.1 hnd
      rw [List.nodup_append]
      refine ⟨?_, h1.2.1, ?_⟩
      · rw [List.nodup_append]
        refine ⟨h1.1, by simp, ?_⟩
        intro a ha b hb' e
        simp at hb'; subst hb'; subst e
        exact hfresh.1 (List.mem_append_left _ ha)
      · intro a ha b hb' e
        subst e
        rcases List.mem_append.1 ha with ha | ha
        · exact h1.2.2 a ha a hb' rfl
        · simp at ha; subst ha; exact hfresh.1 (List.mem_append_right _ hb')
    · intro p hp
      rcases List.mem_append.1 hp with hp | hp
      · rcases List.mem_append.1 hp with hp | hp
        · exact hsAB.at' p (by simp [hp])
        · simp [rowH] at hp; subst hp
          exact ⟨_, hh, cur, rfl, hsz, by rw [hl]; exact htk⟩
      · exact hsAB.at' p (by simp [hp])
    · intro b hb'
      simp only [keys_append, rowH, keys_cons, keys_nil, List.mem_append, List.mem_singleton] at hb'
      rcases hb' with (hb' | hb') | hb'
      · exact hAB.hi b (by simp [hb'])
      · subst hb'
        rcases hfresh.2 with h2 | h2
        · exact h.hi _ h2
        · exact Nat.le_trans h.env.gb h2
      · exact hAB.hi b (by simp [hb'])
    · intro b hb'
      simp only [keys_append, rowH, keys_cons, keys_nil, List.mem_append, List.mem_singleton] at hb'
      rcases hb' with (hb' | hb') | hb'
      · left; simp [hb']
      · subst hb'; exact hfresh.2
      · left; simp [hb']
end Go.Proofs.YtfefdleadocpmaaDoor

/- Entries of a map from numbers to pointers: a number, a block, what the block's struct is. Plain lists. No condition. -/
namespace Go.Proofs.YtfefdleadocpmaaDoor
open Go.RowKit

structure En (α : Type) where
  id : Int
  b : Nat
  q : α
def ptr (b : Nat) : Value := .pointer (some ⟨b, 0, none⟩)
section
variable {α : Type}
def kvs (E : List (En α)) : List (Int × Value) := E.map fun e => (e.id, ptr e.b)
def find : List (En α) → Int → Option (En α)
  | [], _ => none
  | e :: r, id => if id = e.id then some e else find r id
def upd (E : List (En α)) (id : Int) (q : α) : List (En α) := E.map fun e => if e.id = id then { e with q := q } else e
def rem : List (En α) → Int → List (En α)
  | [], _ => []
  | e :: r, id => if id = e.id then r else e :: rem r id

theorem look_kvs (E : List (En α)) (id : Int) : look (kvs E) id = (find E id).map fun e => ptr e.b := by
  induction E with
  | nil => rfl
  | cons e r ih =>
    have ih' : look (r.map fun e => (e.id, ptr e.b)) id = _ := ih
    by_cases h : id = e.id <;> simp [kvs, look, find, h, ih']
theorem put_kvs (E : List (En α)) (id : Int) (b : Nat) (q : α) (h : find E id = none) : put (kvs E) id (ptr b) = kvs (E ++ [⟨id, b, q⟩]) := by
  induction E with
  | nil => rfl
  | cons e r ih =>
    by_cases hk : id = e.id
    · simp [find, hk] at h
    · simp only [find, hk, if_false] at h
      have ih' : put (r.map fun e => (e.id, ptr e.b)) id (ptr b) = _ := ih h
      simp [kvs, put, hk, ih']
theorem del_kvs (E : List (En α)) (id : Int) : del (kvs E) id = kvs (rem E id) := by
  induction E with
  | nil => rfl
  | cons e r ih =>
    have ih' : del (r.map fun e => (e.id, ptr e.b)) id = _ := ih
    by_cases hk : id = e.id <;> simp [kvs, del, rem, hk, ih']
theorem kvs_upd (E : List (En α)) (id : Int) (q : α) : kvs (upd E id q) = kvs E := by
  simp only [kvs, upd, List.map_map]
  apply List.map_congr_left
  intro e _
  by_cases h : e.id = id <;> simp [h]
theorem find_mem {E : List (En α)} {id : Int} {e : En α} (h : find E id = some e) : e ∈ E ∧ e.id = id := by
  induction E with
  | nil => simp [find] at h
  | cons x r ih =>
    by_cases hk : id = x.id
    · simp [find, hk] at h; subst h; exact ⟨by simp, hk.symm⟩
    · simp only [find, hk, if_false] at h; exact ⟨by simp [(ih h).1], (ih h).2⟩
theorem find_none {E : List (En α)} {id : Int} (h : find E id = none) : ∀ e ∈ E, e.id ≠ id := by
  induction E with
  | nil => simp
  | cons x r ih =>
    by_cases hk : id = x.id
    · simp [find, hk] at h
    · simp only [find, hk, if_false] at h
      intro e he
      rcases List.mem_cons.1 he with rfl | he
      · exact fun h' => hk h'.symm
      · exact ih h e he
theorem find_append (E : List (En α)) (x : En α) (id : Int) : find (E ++ [x]) id = match find E id with | some e => some e | none => if id = x.id then some x else none := by
  induction E with
  | nil => simp [find]
  | cons e r ih => by_cases h : id = e.id <;> simp [find, h, ih]
theorem find_upd_same {E : List (En α)} {id : Int} {e : En α} (hf : find E id = some e) (q : α) : find (upd E id q) id = some { e with q := q } := by
  induction E with
  | nil => simp [find] at hf
  | cons x r ih =>
    by_cases hx : id = x.id
    · simp only [find, hx, if_true] at hf
      simp only [upd, List.map_cons, hx, if_true, find]
      cases hf; rfl
    · simp only [find, hx, if_false] at hf
      have := ih hf
      have hx' : ¬ x.id = id := fun e => hx e.symm
      simp only [upd, List.map_cons, hx', if_false, find, hx]
      exact this
theorem find_upd_other {E : List (En α)} {id j : Int} (hne : j ≠ id) (q : α) : find (upd E id q) j = find E j := by
  induction E with
  | nil => rfl
  | cons x r ih =>
    by_cases hx : x.id = id
    · have hj : ¬ j = x.id := fun e => hne (e.trans hx)
      simp only [upd, List.map_cons, hx, if_true, find, hj, if_false]
      have hj2 : ¬ j = id := hne
      simp only [hj2, if_false]
      exact ih
    · simp only [upd, List.map_cons, hx, if_false, find]
      by_cases hj : j = x.id
      · simp [hj]
      · simp only [hj, if_false]; exact ih
theorem find_rem {E : List (En α)} (hids : E.Pairwise (fun a b => a.id ≠ b.id)) (id x : Int) : find (rem E id) x = if x = id then none else find E x := by
  induction E with
  | nil => simp [rem, find]
  | cons e r ih =>
    obtain ⟨h1, h2⟩ := List.pairwise_cons.1 hids
    by_cases hk : id = e.id
    · subst hk
      simp only [rem, if_true]
      by_cases hx : x = e.id
      · subst hx
        simp only [if_true]
        cases hf : find r e.id with
        | none => rfl
        | some y => exact absurd (find_mem hf).2.symm (h1 y (find_mem hf).1)
      · simp [find, hx]
    · simp only [rem, hk, if_false, find]
      by_cases hx : x = e.id
      · subst hx; simp; intro e2; exact absurd e2.symm hk
      · simp only [hx, if_false]; exact ih h2
theorem mem_rem {E : List (En α)} {id : Int} {e : En α} (h : e ∈ rem E id) : e ∈ E := by
  induction E with
  | nil => simp [rem] at h
  | cons x r ih =>
    by_cases hk : id = x.id
    · simp [rem, hk] at h; simp [h]
    · simp only [rem, hk, if_false] at h
      rcases List.mem_cons.1 h with rfl | h
      · simp
      · simp [ih h]
theorem rem_sublist (E : List (En α)) (id : Int) : (rem E id).Sublist E := by
  induction E with
  | nil => simp [rem]
  | cons x r ih =>
    by_cases hk : id = x.id
    · simp [rem, hk]
    · simp only [rem, hk, if_false]; exact ih.cons_cons x
theorem mem_upd {E : List (En α)} {id : Int} {q : α} {x : En α} (h : x ∈ upd E id q) : ∃ e ∈ E, e.b = x.b ∧ e.id = x.id ∧ ((e.id = id ∧ x.q = q) ∨ (e.id ≠ id ∧ x = e)) := by
  obtain ⟨e, he, rfl⟩ := List.mem_map.1 h
  by_cases hk : e.id = id
  · exact ⟨e, he, by simp [hk], by simp [hk], .inl ⟨hk, by simp [hk]⟩⟩
  · exact ⟨e, he, by simp [hk], by simp [hk], .inr ⟨hk, by simp [hk]⟩⟩
theorem upd_pairwise {E : List (En α)} (id : Int) (q : α) {R : En α → En α → Prop} (hR : ∀ a b a' b' : En α, a.b = a'.b → a.id = a'.id → b.b = b'.b → b.id = b'.id → R a b → R a' b') (h : E.Pairwise R) : (upd E id q).Pairwise R := by
  unfold upd
  rw [List.pairwise_map]
  refine h.imp fun {a b} hab => hR a b _ _ ?_ ?_ ?_ ?_ hab <;> split <;> rfl
theorem upd_none {E : List (En α)} {id : Int} (q : α) (h : ∀ e ∈ E, e.id ≠ id) : upd E id q = E := by
  unfold upd
  conv => rhs; rw [← List.map_id E]
  exact List.map_congr_left fun e he => by simp [h e he]
theorem upd_id {E : List (En α)} (hids : E.Pairwise (fun a b => a.id ≠ b.id)) {id : Int} {e : En α} (hf : find E id = some e) : upd E id e.q = E := by
  induction E with
  | nil => rfl
  | cons x r ih =>
    obtain ⟨h1, h2⟩ := List.pairwise_cons.1 hids
    by_cases hx : id = x.id
    · subst hx
      simp [find] at hf
      subst hf
      have := upd_none (E := r) (id := x.id) x.q (fun e he => (h1 e he).symm)
      simp only [upd, List.map_cons, if_true] at this ⊢
      rw [this]
    · simp only [find, hx, if_false] at hf
      have hx' : ¬ x.id = id := fun e => hx e.symm
      have := ih h2 hf
      simp only [upd, List.map_cons, hx', if_false] at this ⊢
      rw [this]
theorem upd_upd (E : List (En α)) (id : Int) (q r : α) : upd (upd E id q) id r = upd E id r := by
  unfold upd
  rw [List.map_map]
  apply List.map_congr_left
  intro e _
  by_cases h : e.id = id <;> simp [h]
/-- Where the entry of a number stands. -/
theorem find_at {E : List (En α)} (hids : E.Pairwise (fun a b => a.id ≠ b.id)) {id : Int} {e : En α} (hf : find E id = some e) :
    ∃ A B, E = A ++ e :: B ∧ (∀ q, upd E id q = A ++ { e with q := q } :: B) ∧ rem E id = A ++ B := by
  induction E with
  | nil => simp [find] at hf
  | cons x r ih =>
    obtain ⟨h1, h2⟩ := List.pairwise_cons.1 hids
    by_cases hx : id = x.id
    · subst hx
      simp [find] at hf
      subst hf
      refine ⟨[], r, rfl, fun q => ?_, by simp [rem]⟩
      have := upd_none (E := r) (id := x.id) q (fun e he => (h1 e he).symm)
      simp only [upd, List.map_cons, if_true, List.nil_append]
      exact congrArg _ this
    · simp only [find, hx, if_false] at hf
      obtain ⟨A, B, e1, e2, e3⟩ := ih h2 hf
      refine ⟨x :: A, B, by rw [e1]; rfl, fun q => ?_, by simp [rem, hx, e3]⟩
      have hx' : ¬ x.id = id := fun e => hx e.symm
      have := e2 q
      simp only [upd, List.map_cons, hx', if_false, List.cons_append] at this ⊢
      rw [this]
end
def isMI (kv : List (Int × Value)) : Obj → Prop := isM (kv.map fun p => (.int .i64 p.1, p.2))
end Go.Proofs.YtfefdleadocpmaaDoor
