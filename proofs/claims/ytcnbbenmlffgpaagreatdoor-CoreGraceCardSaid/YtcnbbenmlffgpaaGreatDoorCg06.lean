/- CoreGrace returns true at every input: a doomed object is a zombie till just the tick that the period tells. No condition. Part of its proof. -/
import Derived.Test.YtcnbbenmlffgpaaGreatDoorCg04
import Derived.Test.YtcnbbenmlffgpaaGreatDoorCg05
import Derived.Deep.RegionHeld3
import Derived.Deep.RegionWith
import Derived.Deep.RegionLaw
import Derived.RangeFuncNested
import Derived.RangeFuncBound
import Derived.RangeFuncCalls
import Derived.RangeFuncLeaves
import Derived.RangeFuncOne
import Derived.RangeFuncBox
import Derived.Maps.AppendAt
import Derived.Shelf.Abstract
import Derived.Shelf.RegionOpen
import Derived.OwnWalkIn
import Derived.TacticsInMore
import Derived.LoopNIn
import Derived.LoopIn
import Derived.Sort.LoopGhostIn
set_option linter.unusedVariables false
/- A walk of a cache's Take where a page comes: what is behind the search. Conditions: the blocks hold what CA.hl and BD.hl say. -/
namespace Go.Proofs.YtcnbbenmlffgpaaGreatDoor
open Go.RowKit

def TakeN (c : CA) (d : BD) (p : Nat) (w : World) (r : Ending) (w' : World) : Prop := r = .returned (.tuple #[.int .i64 ((addr c.size p 0 : Nat) : Int), .int .i64 0]) ∧
  ∃ (d' : BD) (m : BM) (rv' : RV), d'.b = d.b ∧ d'.top = d.top ∧ d'.ps = d.ps ++ [p] ∧ d'.At ∧ m.bits = (List.replicate (960 / c.size) false).set 0 true ∧ (c.insert rv' (m, p)).Ok ∧ Step (c.hl ++ d.hl) ((c.insert rv' (m, p)).hl ++ d'.hl) w w'
/-- Behind the search for the page's place: the insert, the store, the place. -/
theorem new_tail {w w5 : World} {c : CA} {d d' : BD} {m : BM} (p g : Nat) (ok : c.Ok) (hn : ∀ x ∈ c.pg, x.2 ≠ p) (hp : p < 1048576) (hln : c.pg.length < 1048576) (hm : m.bits = (List.replicate (960 / c.size) false).set 0 true) (b1 : d'.b = d.b) (b2 : d'.top = d.top) (b3 : d'.ps = d.ps ++ [p]) (b4 : d'.At)
    (hst : Step (c.hl ++ d.hl) (c.hl ++ (m.hl ++ d'.hl)) w w5) (hg : g < w5.heap.size) (hgk : g ∉ keys (c.hl ++ (m.hl ++ d'.hl))) :
    Calls Tryz.prog 153 #[lvOf c.rv c.pg.length, .int .i64 (below_ c.pg p), .slice (some ⟨w5.heap.size, 0, none⟩) 1 1] (w5.drew.alloc (.cells #[ptr m.b, .int .i64 ((1024 * p : Nat) : Int)] 231)) fun r w6 => ∃ (g6 cap6 : Nat) (v6 : Value), v6 = .slice (some ⟨g6, 0, none⟩) (c.pg.length + 1) cap6 ∧ r = .returned v6 ∧
      w6.heap[g]? = w5.heap[g]? ∧ w6.cell? ⟨c.c, 2, none⟩ = some (lvOf c.rv c.pg.length) ∧ w6.frozen? ⟨c.c, 2, none⟩ = false ∧
      Calls Tryz.prog 150 #[.pointer (some ⟨c.c, 0, none⟩), .agg #[ptr m.b, .int .i64 ((1024 * p : Nat) : Int)], .int .i64 0] (w6.setCell ⟨c.c, 2, none⟩ v6) fun r w7 => r = .returned (.int .i64 ((addr c.size p 0 : Nat) : Int)) ∧ TakeN c d p w (.returned (.tuple #[.int .i64 ((addr c.size p 0 : Nat) : Int), .int .i64 0])) w7 := by
  have s5 := hst.sep
  have s6 := (s5.drew.alloc (.cells #[ptr m.b, .int .i64 ((1024 * p : Nat) : Int)] 231))
  have hxl : (pcells c.pg).length = c.pg.length * 2 := pcells_len _
  have ox : ∀ v ∈ pcells c.pg, v.oneCell' = true := by
    intro v hv
    unfold pcells at hv
    obtain ⟨y, _, hy⟩ := List.mem_flatMap.1 hv
    simp at hy
    rcases hy with rfl | rfl <;> rfl
  have e0 : c.hl ++ (m.hl ++ d'.hl) = [(c.c, isC 229 [ptr c.bb, .int .i64 c.size, lvOf c.rv c.pg.length])] ++ rowH c.rv 231 2 (pcells c.pg) ++ (pgH c.pg ++ (m.hl ++ d'.hl)) := by unfold CA.hl; simp
  have s6' := s6
  rw [e0] at s6'
  have hv : Cells (w5.drew.alloc (.cells #[ptr m.b, .int .i64 ((1024 * p : Nat) : Int)] 231)) w5.heap.size 231 [ptr m.b, .int .i64 ((1024 * p : Nat) : Int)] := Cells.new w5.drew 231 [ptr m.b, .int .i64 ((1024 * p : Nat) : Int)]
  have hvb : w5.heap.size ∉ keys (c.hl ++ (m.hl ++ d'.hl)) := fun hm => by have := s5.lt hm; omega
  refine (ins_any s6' ok.rv hxl (below_le c.pg p) (by omega) hv (by rw [← e0]; exact hvb) ox rfl rfl).mono ?_
  rintro r w6 ⟨rv', rfl, hok', hst6⟩
  have hbk : w6.heap[g]? = w5.heap[g]? := by
    have h1 := hst6.chg.block g (by simp; omega) (by rw [← e0]; exact hgk)
    rw [h1]
    exact heap_alloc_old w5.drew _ hg
  have hcs := (hst6.sep).cells (b := c.c) (T := 229) (cs := [ptr c.bb, .int .i64 c.size, lvOf c.rv c.pg.length]) (by simp)
  have hins : Step (c.hl ++ (m.hl ++ d'.hl)) ((c.insert rv' (m, p)).hl ++ d'.hl) w5 (w6.setCell ⟨c.c, 2, none⟩ (lvOf rv' (c.pg.length + 1))) :=
    (CA.insStep (c := c) (K := d'.hl) (m, p) rv' s6 hst6).from_alloc.from_drew
  have okN := CA.ok_ins ok rv' (m, p) hn hok' hln hp (by rw [hm]; simp)
  have hall := hst.trans hins
  obtain ⟨g6, cap6, e6⟩ : ∃ g6 cap6 : Nat, rv' = some (g6, cap6) := by
    cases rv' with
    | none => have : c.pg.length + 1 = 0 := hok'; omega
    | some p => exact ⟨p.1, p.2, rfl⟩
  refine ⟨g6, cap6, _, by rw [e6]; rfl, rfl, hbk, hcs.cell 2 _ rfl, hcs.free 2, ?_⟩
  have hpl := place_any hall.sep.left okN m.b p 0 hp (by omega)
  refine hpl.mono ?_
  rintro r w7 ⟨rfl, hb7⟩
  exact ⟨rfl, rfl, d', m, rv', b1, b2, b3, b4, hm, okN, hall.trans (hall.sep.grown hb7)⟩
end Go.Proofs.YtcnbbenmlffgpaaGreatDoor

/- Walks of the allocator's Give and Order. Conditions: the blocks hold what BD.hl says, the free blocks are those that the used pages leave. -/
namespace Go.Proofs.YtcnbbenmlffgpaaGreatDoor
open Go.RowKit

theorem bits_xor_i (a b : Nat) (ha : a < 2 ^ 63) (hb : b < 2 ^ 63) : bits BinOp.xor IntKind.i64 (a : Int) (b : Int) = ((a ^^^ b : Nat) : Int) := by
  have h : (a ^^^ b) < 2 ^ 63 := Nat.xor_lt_two_pow ha hb
  have e : ((BitVec.ofInt 64 (a : Int)) ^^^ (BitVec.ofInt 64 (b : Int))).toNat = a ^^^ b := by
    rw [BitVec.ofInt_natCast, BitVec.ofInt_natCast, BitVec.toNat_xor, BitVec.toNat_ofNat, BitVec.toNat_ofNat, Nat.mod_eq_of_lt (by omega), Nat.mod_eq_of_lt (by omega)]
  unfold bits
  show IntKind.i64.wrap (((BitVec.ofInt 64 (a : Int)) ^^^ (BitVec.ofInt 64 (b : Int))).toNat : Int) = _
  rw [e, IntKind.wrap_i64]; omega
theorem xor_one (i : Nat) : i ^^^ 1 = sib i := by
  have h : (i ^^^ 1) / 2 = i / 2 := by
    have := Nat.xor_div_two_pow (a := i) (b := 1) (n := 1)
    simpa using this
  have h2 : (i ^^^ 1) % 2 = (i + 1) % 2 := by
    have := Nat.testBit_xor i 1 0
    rw [Nat.testBit_zero, Nat.testBit_zero, Nat.testBit_zero] at this
    have h3 : i % 2 = 0 ∨ i % 2 = 1 := by omega
    have h4 : (i ^^^ 1) % 2 = 0 ∨ (i ^^^ 1) % 2 = 1 := by omega
    rcases h3 with h3 | h3 <;> rcases h4 with h4 | h4 <;> simp [h3, h4] at this <;> omega
  unfold sib
  split <;> omega
/-- Where the merging stops. -/
theorem stop_at (u : Nat → Bool) (top p : Nat) : ∃ k, k ≤ top ∧ (k < top → clr u k (sib (p / 2 ^ k)) = false) ∧ ∀ j, j < k → clr u j (sib (p / 2 ^ j)) = true := by
  rcases least (fun k => decide (k = top) || !clr u k (sib (p / 2 ^ k))) (top + 1) with h | ⟨k, h1, h2, h3⟩
  · have := h top (by omega)
    simp at this
  · refine ⟨k, by omega, fun hk => ?_, fun j hj => ?_⟩
    · simp only [Bool.or_eq_true, decide_eq_true_eq, Bool.not_eq_true'] at h2
      rcases h2 with h2 | h2
      · omega
      · exact h2
    · have := h3 j hj
      simp only [Bool.or_eq_false_iff, Bool.not_eq_false'] at this
      exact this.2
theorem clear_up (u : Nat → Bool) (p k : Nat) (hs : ∀ j, j < k → clr u j (sib (p / 2 ^ j)) = true) : clr (setU u p false) k (p / 2 ^ k) = true := by
  induction k with
  | zero => rw [Nat.pow_zero, Nat.div_one, clr_zero]; simp [setU]
  | succ k ih =>
    obtain ⟨s1, s2⟩ := sib_half (p / 2 ^ k)
    have h1 := ih (fun j hj => hs j (by omega))
    have h2 := hs k (by omega)
    rw [← clr_set_false u p k (sib (p / 2 ^ k)) (fun e => s2 e.symm)] at h2
    rw [div_succ, clr_half, Bool.and_eq_true]
    have : (p / 2 ^ k = 2 * (p / 2 ^ k / 2) ∧ sib (p / 2 ^ k) = 2 * (p / 2 ^ k / 2) + 1) ∨ (sib (p / 2 ^ k) = 2 * (p / 2 ^ k / 2) ∧ p / 2 ^ k = 2 * (p / 2 ^ k / 2) + 1) := by omega
    rcases this with ⟨e1, e2⟩ | ⟨e1, e2⟩
    · exact ⟨by rw [e1] at h1; exact h1, by rw [e2] at h2; exact h2⟩
    · exact ⟨by rw [e1] at h2; exact h2, by rw [e2] at h1; exact h1⟩
theorem used_not_clear {u : Nat → Bool} {p : Nat} (hu : u p = true) (k : Nat) : clr u k (p / 2 ^ k) = false := by
  cases h : clr u k (p / 2 ^ k) with
  | false => rfl
  | true => rw [clr_iff] at h; rw [h p rfl] at hu; cases hu
/-- A clear sibling of a block that is used is a free block. -/
theorem sib_free {u : Nat → Bool} {top p k : Nat} (hu : u p = true) (hk : k < top) : fre u top k (sib (p / 2 ^ k)) = clr u k (sib (p / 2 ^ k)) := by
  unfold fre
  rw [(sib_half (p / 2 ^ k)).1, ← div_succ, used_not_clear hu]
  simp
def mrg (G : Nat → Nat → Bool) (p k : Nat) : Nat → Nat → Bool := fun l x => if l < k then (G l x && !(x == sib (p / 2 ^ l))) else G l x
theorem mrg_zero (G : Nat → Nat → Bool) (p : Nat) : mrg G p 0 = G := by funext l x; simp [mrg]
theorem mrg_step (G : Nat → Nat → Bool) (p k : Nat) : upG (mrg G p k) k (sib (p / 2 ^ k)) false = mrg G p (k + 1) := by
  funext l x
  unfold upG mrg
  by_cases h : l = k
  · subst h
    by_cases hx : x = sib (p / 2 ^ l)
    · simp [hx]
    · have e : (x == sib (p / 2 ^ l)) = false := by simpa using hx
      simp [hx, e]
  · have e : (l < k + 1) = (l < k) := by apply propext; omega
    simp [h, e]
theorem mrg_end (u : Nat → Bool) (top p k : Nat) (hk : k ≤ top) (hu : u p = true) (hn : k < top → clr u k (sib (p / 2 ^ k)) = false) (hs : ∀ j, j < k → clr u j (sib (p / 2 ^ j)) = true) (l x : Nat) (hl : l ≤ top) :
    upG (mrg (fre u top) p k) k (p / 2 ^ k) true l x = fre (setU u p false) top l x := by
  rw [fre_give u top p k hk hu (clear_up u p k hs) hn l x hl]
  unfold upG mrg
  by_cases h : l = k
  · subst h
    by_cases hx : x = p / 2 ^ l
    · simp [hx]
    · have e : (x == p / 2 ^ l) = false := by simpa using hx
      simp [hx, e]
  · simp [h]
theorem page_lt {top p k : Nat} (hp : p < 2 ^ top) (hk : k ≤ top) : p / 2 ^ k < 2 ^ (top - k) := by
  rw [Nat.div_lt_iff_lt_mul (Nat.two_pow_pos k), ← Nat.pow_add, show top - k + k = top from by omega]; exact hp
theorem sib_lt {n i : Nat} (hi : i < 2 ^ (n + 1)) : sib i < 2 ^ (n + 1) := by
  rw [Nat.pow_succ] at *
  unfold sib; split <;> omega
def GiveP (d : BD) (p : Nat) (w : World) (r : Ending) (w' : World) : Prop := r = .returned (.int .i64 0) ∧
  ∃ d' : BD, d'.b = d.b ∧ d'.top = d.top ∧ d'.ps = d.ps.erase p ∧ d'.At ∧ Step d.hl d'.hl w w'
theorem zero_int (w : World) : (zeroValue 3).run Tryz.prog w = .ok (.int .i64 0) w := by kernel_rfl
set_option maxHeartbeats 4000000 in
set_option maxRecDepth 100000 in
theorem bgive_ok {w : World} {d : BD} (h : Sep w d.hl) (ha : d.At) (p : Nat) (hp : p ∈ d.ps) :
    Calls Tryz.prog 111 #[.pointer (some ⟨d.b, 0, none⟩), .int .i64 (1024 * (p : Int))] w (GiveP d p w) := by
  have hx : ((1024 * p : Nat) : Int) = 1024 * (p : Int) := by omega
  have hu : uOf d.ps p = true := by simpa [uOf] using hp
  obtain ⟨k1, hk1, hn, hs⟩ := stop_at (uOf d.ps) d.top p
  have hpt := ha.lt p hp
  have ht := ha.is.top
  have hlook := run_lookup_int (P := Tryz.prog) (BD.map h) ((1024 * p : Nat) : Int) true (.int .i64 0) Tryz.underlying156 Tryz.underlying3 (zero_int w)
  rw [look_upk, if_pos hp, hx] at hlook
  simp only [if_true, Option.getD_some, Option.isSome_some] at hlook
  have hmp := BD.map h
  have c22 := BD.cm h (by rw [ha.is.len]; omega)
  have HDel := hidden (show ∀ w2, MapInt w2 d.mb (del (upk d.ps) (1024 * (p : Int))) → w.grownBy w2 (some d.mb) → ({ d with ps := d.ps.erase p } : BD).To { d with ps := d.ps.erase p } w2 w2 ∧ Step d.hl ({ d with ps := d.ps.erase p } : BD).hl w w2 from fun w2 hm2 hg2 => by
    rw [← hx, del_upk] at hm2
    have := BD.putMap h _ hm2 hg2
    exact ⟨BD.To.refl this.sep, this⟩)
  have HIs0 : Hid (({ d with ps := d.ps.erase p } : BD).Is (mrg (fre (uOf d.ps) d.top) p 0)) := by
    show BD.Is _ _
    rw [mrg_zero]
    exact ⟨ha.is.len, ha.is.top, ha.is.bits⟩
  have HTop := hidden (show ∀ w2 wr d1, ({ d with ps := d.ps.erase p } : BD).To d1 w2 wr → wr.cell? ⟨d.b, 0, none⟩ = some (.int .i64 d.top) from fun w2 wr d1 hto => by
    have := BD.c0 hto.step.sep
    rw [hto.b, hto.top] at this; exact this)
  have HGo := hidden (show ∀ k w2 wr d1, k < k1 → ({ d with ps := d.ps.erase p } : BD).To d1 w2 wr → d1.Is (mrg (fre (uOf d.ps) d.top) p k) → ∃ b, wr.cell? ⟨d.b, 1 + k, none⟩ = some (.pointer (some ⟨b, 0, none⟩)) ∧
      Calls Tryz.prog 148 #[.pointer (some ⟨b, 0, none⟩), .bool false, .slice (some ⟨wr.heap.size, 0, none⟩) 1 1] (wr.alloc (.cells #[.int .i64 ((sib (p / 2 ^ k) : Nat) : Int)] 3)) fun r w' => r = .returned (.int .i64 1) ∧ ∃ d2, ({ d with ps := d.ps.erase p } : BD).To d2 w2 w' ∧ d2.Is (mrg (fre (uOf d.ps) d.top) p (k + 1)) from fun k w2 wr d1 hk hto his => by
    have hkt : k < d.top := by omega
    have e0 : d.top - k = (d.top - k - 1) + 1 := by omega
    have hlt : sib (p / 2 ^ k) < 2 ^ (d.top - k) := by
      have := page_lt hpt (show k ≤ d.top by omega)
      rw [e0] at this ⊢
      exact sib_lt this
    have hne : mrg (fre (uOf d.ps) d.top) p k k (sib (p / 2 ^ k)) ≠ false := by
      unfold mrg
      rw [if_neg (by omega), sib_free hu hkt, hs k hk]; decide
    have et : d1.top = d.top := hto.top
    obtain ⟨b, h3, h4⟩ := bd_set hto.step.sep his k (sib (p / 2 ^ k)) false (by omega) (by rw [et]; exact hlt) hne
    rw [hto.b] at h3
    refine ⟨b, h3, h4.mono ?_⟩
    rintro r w' ⟨rfl, d2, hto2, his2⟩
    rw [mrg_step] at his2
    exact ⟨rfl, d2, hto.trans hto2, his2⟩)
  have HStop := hidden (show ∀ w2 wr d1, k1 < d.top → ({ d with ps := d.ps.erase p } : BD).To d1 w2 wr → d1.Is (mrg (fre (uOf d.ps) d.top) p k1) → ∃ b, wr.cell? ⟨d.b, 1 + k1, none⟩ = some (.pointer (some ⟨b, 0, none⟩)) ∧
      Calls Tryz.prog 148 #[.pointer (some ⟨b, 0, none⟩), .bool false, .slice (some ⟨wr.heap.size, 0, none⟩) 1 1] (wr.alloc (.cells #[.int .i64 ((sib (p / 2 ^ k1) : Nat) : Int)] 3)) fun r w' => r = .returned (.int .i64 0) ∧ ∃ d2, ({ d with ps := d.ps.erase p } : BD).To d2 w2 w' ∧ d2.Is (mrg (fre (uOf d.ps) d.top) p k1) from fun w2 wr d1 hkt hto his => by
    have e0 : d.top - k1 = (d.top - k1 - 1) + 1 := by omega
    have hlt : sib (p / 2 ^ k1) < 2 ^ (d.top - k1) := by
      have := page_lt hpt (show k1 ≤ d.top by omega)
      rw [e0] at this ⊢
      exact sib_lt this
    have hne : mrg (fre (uOf d.ps) d.top) p k1 k1 (sib (p / 2 ^ k1)) = false := by
      unfold mrg
      rw [if_neg (by omega), sib_free hu hkt, hn hkt]
    have et : d1.top = d.top := hto.top
    obtain ⟨b, h3, h4⟩ := bd_same hto.step.sep his k1 (sib (p / 2 ^ k1)) false (by omega) (by rw [et]; exact hlt) hne
    rw [hto.b] at h3
    refine ⟨b, h3, h4.mono ?_⟩
    rintro r w' ⟨rfl, d2, hto2, his2⟩
    exact ⟨rfl, d2, hto.trans hto2, his2⟩)
  have HFin := hidden (show ∀ w2 wr d1, Step d.hl ({ d with ps := d.ps.erase p } : BD).hl w w2 → ({ d with ps := d.ps.erase p } : BD).To d1 w2 wr → d1.Is (mrg (fre (uOf d.ps) d.top) p k1) → ∃ b, wr.cell? ⟨d.b, 1 + k1, none⟩ = some (.pointer (some ⟨b, 0, none⟩)) ∧
      Calls Tryz.prog 148 #[.pointer (some ⟨b, 0, none⟩), .bool true, .slice (some ⟨wr.heap.size, 0, none⟩) 1 1] (wr.alloc (.cells #[.int .i64 ((p / 2 ^ k1 : Nat) : Int)] 3)) fun r w' => r = .returned (.int .i64 1) ∧ GiveP d p w (.returned (.int .i64 0)) w' from fun w2 wr d1 hst hto his => by
    have hne : mrg (fre (uOf d.ps) d.top) p k1 k1 (p / 2 ^ k1) ≠ true := by
      unfold mrg
      rw [if_neg (by omega)]
      unfold fre
      rw [used_not_clear hu]; simp
    have et : d1.top = d.top := hto.top
    obtain ⟨b, h3, h4⟩ := bd_set hto.step.sep his k1 (p / 2 ^ k1) true (by omega) (by rw [et]; exact page_lt hpt hk1) hne
    rw [hto.b] at h3
    refine ⟨b, h3, h4.mono ?_⟩
    rintro r w' ⟨rfl, d2, hto2, his2⟩
    have hto3 := hto.trans hto2
    have et2 : d2.top = d.top := hto3.top
    have ep2 : d2.ps = d.ps.erase p := hto3.ps
    refine ⟨rfl, rfl, d2, hto3.b, et2, ep2, ⟨⟨his2.len, his2.top, ?_⟩, ?_, ?_⟩, hst.trans hto3.step⟩
    · intro k m hm
      rw [his2.bits k m hm]
      have hkt : k ≤ d2.top := by
        have h1 : k < d2.bms.length := (List.getElem?_eq_some_iff.1 hm).1
        have h2 : d2.bms.length = d2.top + 1 := his2.len
        omega
      apply List.map_congr_left
      intro x _
      rw [ep2, uOf_erase ha.nd, et2]
      exact mrg_end _ _ _ _ hk1 hu hn hs k x (by omega)
    · rw [ep2]; exact ha.nd.erase p
    · intro x hx
      rw [ep2] at hx
      rw [et2]; exact ha.lt x (List.mem_of_mem_erase hx))
  have hp20 : p < 1048576 := Nat.lt_of_lt_of_le hpt (by have := pow_le20 (k := 0) ht; simpa using this)
  clear h ha hu hn hs
  generalize mrg (fre (uOf d.ps) d.top) p = M at *
  generalize hd0 : ({ d with ps := d.ps.erase p } : BD) = d0 at *
  clear hd0
  generalize d.top = top at *
  go_enter Tryz.func111, Tryz.ntmps111
  go_wp2_with (refine wpList_delete_int _ rfl _ _ 156 3 3 3 rfl Tryz.underlying156 Tryz.underlying3 d.mb (upk d.ps) hmp _ rfl rfl ?_; intro w2 hm2 hg2)
  obtain ⟨hto0, hst0⟩ := HDel.out w2 hm2 hg2
  clear hm2 hg2 hmp c22 hlook HDel
  go_wp2_with fail
  go_loopw [5, 7] (fun kv iv wr => ∃ (k : Nat) (d1 : BD), kv = .int .i64 k ∧ iv = .int .i64 ((p / 2 ^ k : Nat) : Int) ∧ k ≤ k1 ∧ d0.To d1 w2 wr ∧ d1.Is (M k)) (fun kv _ _ => k1 - (intOf kv).toNat)
  case atStart => exact ⟨0, d0, rfl, by simp, Nat.zero_le _, hto0, HIs0.out⟩
  case round =>
    clear hto0
    obtain ⟨k, d1, rfl, rfl, hk, hto, his⟩ := hrel
    have hct := HTop.out _ _ _ hto
    have hi20 : p / 2 ^ k < 1048576 := Nat.lt_of_le_of_lt (Nat.div_le_self _ _) hp20
    have hxor : bits BinOp.xor IntKind.i64 ((p / 2 ^ k : Nat) : Int) 1 = ((sib (p / 2 ^ k) : Nat) : Int) := by
      rw [show (1 : Int) = ((1 : Nat) : Int) from rfl, bits_xor_i _ _ (by omega) (by omega), xor_one]
    have hdv := hidden (show ((p / 2 ^ (k + 1) : Nat) : Int) = ((p / 2 ^ k : Nat) : Int) / 2 from by rw [div_succ]; omega)
    by_cases hlt : k < k1
    · obtain ⟨b, hc, hset⟩ := HGo.out k w2 wr d1 hlt hto his
      have hkt : k < top := by omega
      clear hto his
      generalize p / 2 ^ k = i at *
      generalize sib i = s at *
      go_wp2_with fail
      refine hset.mono ?_
      rintro e w3 ⟨rfl, d2, hto2, his2⟩
      clear hset hc hxor
      go_wp2_with fail
      go_roundw
      case rel => exact ⟨k + 1, d2, by go_num, by rw [hdv.out], by omega, hto2, his2⟩
      case measure => simp [intOf]; omega
    · obtain rfl : k = k1 := by omega
      by_cases hkt : k < top
      · obtain ⟨b, hc, hset⟩ := HStop.out w2 wr d1 hkt hto his
        have HF2 := hidden (show ∀ w3 d2, d0.To d2 w2 w3 → d2.Is (M k) → _ from fun w3 d2 h1 h2 => HFin.out w2 w3 d2 hst0 h1 h2)
        clear hto his hdv
        generalize p / 2 ^ k = i at *
        generalize sib i = s at *
        go_wp2_with fail
        refine hset.mono ?_
        rintro e w3 ⟨rfl, d2, hto2, his2⟩
        obtain ⟨b2, hc2, hset2⟩ := HF2.out w3 d2 hto2 his2
        clear hset hc hxor hto2 his2
        go_wp2_with fail
        refine hset2.mono ?_
        rintro e w4 ⟨rfl, hfin⟩
        have HFn := hidden hfin
        clear hfin hset2
        go_wp2_with fail
        go_ret
        exact HFn.out
      · obtain ⟨b2, hc2, hset2⟩ := HFin.out w2 wr d1 hst0 hto his
        clear hto his hdv hxor
        have hkt2 : ¬ ((k : Int) < top) := by omega
        have hkt3 : decide ((k : Int) < top) = false := by simpa using hkt2
        generalize p / 2 ^ k = i at *
        go_wp2_with fail
        refine hset2.mono ?_
        rintro e w4 ⟨rfl, hfin⟩
        have HFn := hidden hfin
        clear hfin hset2
        go_wp2_with fail
        go_ret
        exact HFn.out
end Go.Proofs.YtcnbbenmlffgpaaGreatDoor

/- A walk of a cache's Give where the page goes. Conditions: the blocks hold what CA.hl and BD.hl say. -/
namespace Go.Proofs.YtcnbbenmlffgpaaGreatDoor
open Go.RowKit

/-- The last place of its page given back. -/
def GiveZ (c : CA) (d : BD) (k p : Nat) (w : World) (r : Ending) (w' : World) : Prop := r = .returned (.int .i64 0) ∧
  ∃ d' : BD, d'.b = d.b ∧ d'.top = d.top ∧ d'.ps = d.ps.erase p ∧ d'.At ∧ Step (c.hl ++ d.hl) ((c.dropPg k).hl ++ d'.hl) w w'
theorem block_same {w w' : World} {b : Nat} (h : w'.heap[b]? = w.heap[b]?) (j : Nat) : w'.cell? ⟨b, j, none⟩ = w.cell? ⟨b, j, none⟩ := by simp only [World.cell?, h]
theorem last_tail {w : World} {c : CA} {d : BD} {w4 : World} {rb cap n : Nat} (k : Nat) (x : BM × Nat) (m' : BM) (hx : c.pg[k]? = some x) (hb : m'.b = x.1.b) (hrv : c.rv = some (rb, cap)) (hn : c.pg.length = n + 1) (ok : c.Ok) (ha : d.At) (hp : x.2 ∈ d.ps) (g : Nat) (hgk : g ∉ keys d.hl) (hg4 : g < w4.heap.size)
    (hst : Step (c.hl ++ d.hl) ((c.pageTo k x m').hl ++ d.hl) w w4) :
    Calls Tryz.prog 111 #[ptr d.b, .int .i64 ((1024 * x.2 : Nat) : Int)] w4.drew fun r w5 => r = .returned (.int .i64 0) ∧ (w5.cell? ⟨c.c, 0, none⟩ = some (ptr c.bb) ∧ w5.cell? ⟨g, 1, none⟩ = w4.cell? ⟨g, 1, none⟩) ∧
      w5.cell? ⟨c.c, 2, none⟩ = some (.slice (some ⟨rb, 0, none⟩) (n + 1) cap) ∧
      Calls Tryz.prog 182 #[.slice (some ⟨rb, 0, none⟩) (n + 1) cap, .int .i64 k, .int .i64 ((k : Int) + 1)] w5 fun r w6 => r = .returned (.slice (some ⟨rb, 0, none⟩) n cap) ∧
        (∃ v, w6.cell? ⟨c.c, 2, none⟩ = some v) ∧ w6.frozen? ⟨c.c, 2, none⟩ = false ∧ GiveZ c d k x.2 w (.returned (.int .i64 0)) (w6.setCell ⟨c.c, 2, none⟩ (.slice (some ⟨rb, 0, none⟩) n cap)) := by
  have hk := (List.getElem?_eq_some_iff.1 hx).1
  have s4 := hst.sep.drew
  have hpv : ((1024 * x.2 : Nat) : Int) = 1024 * (x.2 : Int) := by omega
  rw [hpv]
  refine (bgive_ok s4.right ha x.2 hp).mono ?_
  rintro r w5 ⟨rfl, d', b1, b2, b3, b4, b5⟩
  have f5 : Step ((c.pageTo k x m').hl ++ d.hl) ((c.pageTo k x m').hl ++ d'.hl) w4 w5 := by
    have := Step.frame (c.pageTo k x m').hl [] (by simpa using s4) b5
    simpa using this.from_drew
  have s5 := f5.sep
  have ec : pcells (c.pageTo k x m').pg = pcells c.pg := pcells_set _ _ _ _ hx hb
  have el : (c.pageTo k x m').pg.length = n + 1 := by simp [CA.pageTo, hn]
  have ed : (c.pageTo k x m').dropPg k = c.dropPg k := by simp [CA.pageTo, CA.dropPg, List.eraseIdx_set_eq]
  have hC := CA.sepC s5.left
  have hcc : (c.pageTo k x m').c = c.c := rfl
  have hR := CA.sepR s5.left
  have hrv' : (c.pageTo k x m').rv = some (rb, cap) := hrv
  rw [hrv', ec] at hR
  obtain ⟨o, ho, cur, rfl, hcs, htk⟩ := hR.get (b := rb) (q := isR 231 (cap * 2) (pcells c.pg)) (by simp [rowH])
  have hok := ok.rv
  rw [hrv, hn] at hok
  have hln := ok.len
  have hxl : (pcells c.pg).length = (n + 1) * 2 := by rw [pcells_len, hn]
  have ox : ∀ v ∈ pcells c.pg, v.oneCell' = true := by
    intro v hv
    unfold pcells at hv
    obtain ⟨y, _, hy⟩ := List.mem_flatMap.1 hv
    simp at hy
    rcases hy with rfl | rfl <;> rfl
  refine ⟨rfl, ⟨hC.cell 0 _ rfl, ?_⟩, ?_, ?_⟩
  · exact block_same ((b5.chg.block g hg4 hgk)) 1
  · have := hC.cell 2 _ rfl
    rw [hrv', el] at this
    exact this
  · refine (del_row ho hcs htk hxl (by omega) (by omega) hok.1 hok.2 ox).mono ?_
    rintro r w6 ⟨rfl, q1, q2⟩
    have hne : c.c ≠ rb := fun e => by
      have hnd := s5.left.nd
      unfold CA.hl at hnd
      rw [hrv'] at hnd
      simp [rowH] at hnd
      exact hnd.1.1 (by simpa [CA.pageTo] using e)
    have hbk := q2.block c.c (s5.lt (by simp [CA.hl, CA.pageTo])) (fun e => hne (Option.some.inj e))
    refine ⟨rfl, ⟨_, (block_same hbk 2).trans (hC.cell 2 _ rfl)⟩, ?_, rfl, d', b1, b2, b3, b4, ?_⟩
    · have := hC.free 2
      rw [hcc] at this
      simpa only [World.frozen?, hbk] using this
    · have hd := CA.dropStep s5.left hrv' k n (by rw [el]; omega) el (by rw [ec]; exact ⟨rfl, q1, q2⟩)
      rw [ed, hcc] at hd
      have := Step.frame [] d'.hl (by simpa using s5) hd
      exact (hst.trans f5).trans (by simpa using this)
set_option maxHeartbeats 4000000 in
set_option maxRecDepth 100000 in
theorem give_last {w : World} {c : CA} {d : BD} (h : Sep w (c.hl ++ d.hl)) (ok : c.Ok) (hd : d.At) (hbb : c.bb = d.b) (a : Nat) (ha : a < 4611686018427387904) (k i : Nat) (x : BM × Nat) (hs : spotV c a = some (k, i)) (hx : c.pg[k]? = some x) (hi : x.1.bits[i]?.getD false = true) (hcnt : cntB (x.1.bits.set i false) = 0) (hp : x.2 ∈ d.ps) :
    Calls Tryz.prog 157 #[.pointer (some ⟨c.c, 0, none⟩), .int .i64 a] w (GiveZ c d k x.2 w) := by
  have k1 := spot_any h.left ok a ha
  rw [hs] at k1
  have hk := (List.getElem?_eq_some_iff.1 hx).1
  have hil : i < x.1.bits.length := by
    rcases Nat.lt_or_ge i x.1.bits.length with e | e
    · exact e
    · rw [List.getElem?_eq_none e] at hi; cases hi
  have hml := ok.many x (List.mem_of_getElem? hx)
  have hmn : x.1.bits.length ≤ 1048576 := by rw [hml]; have := Nat.div_le_self 960 c.size; omega
  have hln := ok.len
  obtain ⟨rb, cap, hrv⟩ : ∃ rb cap, c.rv = some (rb, cap) := by
    cases e : c.rv with
    | none => have := ok.rv; rw [e] at this; have : c.pg.length = 0 := this; omega
    | some p => exact ⟨p.1, p.2, rfl⟩
  obtain ⟨n, hn⟩ : ∃ n, c.pg.length = n + 1 := ⟨c.pg.length - 1, by omega⟩
  have HCont : Hid (∀ w1, Below w.heap.size w w1 → w1.cell? ⟨c.c, 2, none⟩ = some (.slice (some ⟨rb, 0, none⟩) (n + 1) cap) ∧ w1.cell? ⟨rb, k * 2, none⟩ = some (.pointer (some ⟨x.1.b, 0, none⟩)) ∧ w1.cell? ⟨rb, k * 2 + 1, none⟩ = some (.int .i64 ((1024 * x.2 : Nat) : Int)) ∧
      Calls Tryz.prog 148 #[.pointer (some ⟨x.1.b, 0, none⟩), .bool false, .slice (some ⟨w1.heap.size + 1, 0, none⟩) 1 1] ((w1.alloc (.cells #[.pointer (some ⟨x.1.b, 0, none⟩), .int .i64 ((1024 * x.2 : Nat) : Int)] 231)).alloc (.cells #[.int .i64 (i : Int)] 3)) fun r w4 => r = .returned (.int .i64 1) ∧
        w4.cell? ⟨w1.heap.size, 0, none⟩ = some (.pointer (some ⟨x.1.b, 0, none⟩)) ∧ w4.cell? ⟨w1.heap.size, 1, none⟩ = some (.int .i64 ((1024 * x.2 : Nat) : Int)) ∧ w4.cell? ⟨c.c, 0, none⟩ = some (.pointer (some ⟨d.b, 0, none⟩)) ∧
        Calls Tryz.prog 181 #[.pointer (some ⟨x.1.b, 0, none⟩)] w4 (fun r w5 => r = .returned (.int .i64 0) ∧ w4 = w5) ∧
        Calls Tryz.prog 111 #[.pointer (some ⟨d.b, 0, none⟩), .int .i64 ((1024 * x.2 : Nat) : Int)] w4.drew fun r w5 => r = .returned (.int .i64 0) ∧ (w5.cell? ⟨c.c, 0, none⟩ = some (.pointer (some ⟨d.b, 0, none⟩)) ∧ w5.cell? ⟨w1.heap.size, 1, none⟩ = some (.int .i64 ((1024 * x.2 : Nat) : Int))) ∧
          w5.cell? ⟨c.c, 2, none⟩ = some (.slice (some ⟨rb, 0, none⟩) (n + 1) cap) ∧
          Calls Tryz.prog 182 #[.slice (some ⟨rb, 0, none⟩) (n + 1) cap, .int .i64 k, .int .i64 ((k : Int) + 1)] w5 fun r w6 => r = .returned (.slice (some ⟨rb, 0, none⟩) n cap) ∧
            (∃ v, w6.cell? ⟨c.c, 2, none⟩ = some v) ∧ w6.frozen? ⟨c.c, 2, none⟩ = false ∧ GiveZ c d k x.2 w (.returned (.int .i64 0)) (w6.setCell ⟨c.c, 2, none⟩ (.slice (some ⟨rb, 0, none⟩) n cap))) := fun w1 hb => by
    have s1 := (h.grown hb).sep
    have hsr := CA.sepR s1.left
    rw [hrv] at hsr
    obtain ⟨e1, e2⟩ := pcells_get _ _ _ hx
    have hc2 := (CA.sepC s1.left).cell 2 _ rfl
    rw [hrv, hn] at hc2
    refine ⟨hc2, row_cell hsr _ _ e1, row_cell hsr _ _ e2, ?_⟩
    have s3 := (s1.alloc (.cells #[.pointer (some ⟨x.1.b, 0, none⟩), .int .i64 ((1024 * x.2 : Nat) : Int)] 231)).alloc (.cells #[.int .i64 (i : Int)] 3)
    have sb := CA.sepB s3.left k x hx
    have hlt : ∀ b ∈ keys x.1.hl, b < w1.heap.size := fun b hbk => (CA.sepB s1.left k x hx).lt hbk
    have hz : ((w1.alloc (.cells #[.pointer (some ⟨x.1.b, 0, none⟩), .int .i64 ((1024 * x.2 : Nat) : Int)] 231))).heap.size = w1.heap.size + 1 := by simp
    have hset := bmset_turn sb false i hil hmn (by rw [hi]; simp) (w1.heap.size + 1) (by
      have := (Cells.new (w1.alloc (.cells #[.pointer (some ⟨x.1.b, 0, none⟩), .int .i64 ((1024 * x.2 : Nat) : Int)] 231)) 3 [.int .i64 (i : Int)]).cell 0 _ rfl
      rw [hz] at this
      exact this) (fun hm => by have := hlt _ hm; omega)
    refine hset.mono ?_
    rintro r w4 ⟨rfl, hst⟩
    have hc' := CA.turnB s3.left k x hx { x.1 with bits := x.1.bits.set i false } rfl hst
    have hall : Step (c.hl ++ d.hl) ((c.pageTo k x { x.1 with bits := x.1.bits.set i false }).hl ++ d.hl) w w4 := by
      have := Step.frame [] d.hl (by simpa using s3) hc'
      exact (h.grown hb).trans (Step.from_alloc (Step.from_alloc (by simpa using this)))
    have hnn : w1.heap.size ∉ keys x.1.hl := fun hm => by have := hlt _ hm; omega
    have hbk := hst.chg.block w1.heap.size (by simp; omega) hnn
    have hcells := ((Cells.new w1 231 [.pointer (some ⟨x.1.b, 0, none⟩), .int .i64 ((1024 * x.2 : Nat) : Int)]).alloc (.cells #[.int .i64 (i : Int)] 3))
    have g4 : w1.heap.size < w4.heap.size := by
      have := hst.chg.size
      simp at this
      omega
    have hgd : w1.heap.size ∉ keys d.hl := fun hm => by have := s1.right.lt hm; omega
    have d1 := (block_same hbk 1).trans (hcells.cell 1 _ rfl)
    have d0 := (CA.sepC hall.sep.left).cell 0 _ rfl
    have d0' : w4.cell? ⟨c.c, 0, none⟩ = some (.pointer (some ⟨d.b, 0, none⟩)) := by rw [← hbb]; exact d0
    refine ⟨rfl, (block_same hbk 0).trans (hcells.cell 0 _ rfl), d1, d0', ?_, ?_⟩
    · have := bmcount_any hst.sep (by simpa using hmn)
      rw [hcnt] at this
      exact this
    · have ht := last_tail k x { x.1 with bits := x.1.bits.set i false } hx rfl hrv hn ok hd hp w1.heap.size hgd g4 hall
      rw [d1, hbb] at ht
      exact ht
  have HQ : Hid (∀ r w', Told w (spotT (some (k, i))) r w' → r = .returned (.tuple #[.int .i64 k, .int .i64 i, .bool true]) ∧ Below w.heap.size w w') := fun r w' ⟨e, hb⟩ => ⟨e, hb⟩
  have hk0 : (0 : Int) ≤ k := by omega
  have hkn : (k : Int) < (n : Int) + 1 := by omega
  have hkb : (k : Int) < 1048576 := by omega
  have hi0 : (0 : Int) ≤ i := by omega
  have hib : (i : Int) < 1048576 := by omega
  have hw : IntKind.i64.wrap ((k : Int) + 1) = (k : Int) + 1 := Go.IntWalk.i64_in _ (by omega)
  clear h ok hs hx hi hil hml hmn hrv hcnt hd hbb hp hk hln
  obtain ⟨GL, hGL⟩ : ∃ GL : Ending → World → Prop, GL = GiveZ c d k x.2 w := ⟨_, rfl⟩
  rw [← hGL] at HCont ⊢
  clear hGL hn
  generalize 1024 * x.2 = pv at *
  generalize x.1.b = b at *
  generalize c.c = cc at *
  generalize d.b = db at *
  go_enter Tryz.func157, Tryz.ntmps157
  go_wp2_with fail
  refine k1.mono ?_
  rintro r w1 hf
  obtain ⟨rfl, hb⟩ := HQ.out _ _ hf
  obtain ⟨c1, c2, c3, hset⟩ := HCont.out _ hb
  have HSet := hidden hset
  clear hset hf hb
  go_wp2_with fail
  refine HSet.out.mono ?_
  rintro r w4 ⟨rfl, d1, d2, d3, d4, d5⟩
  have HG := hidden d5
  have HC := hidden d4
  clear d4 d5
  go_wp2_with fail
  refine HC.out.mono ?_
  rintro r w5 ⟨rfl, rfl⟩
  have d2' : w4.drew.cell? ⟨w1.heap.size, 1, none⟩ = some (.int .i64 pv) := d2
  have d3' : w4.drew.cell? ⟨cc, 0, none⟩ = some (.pointer (some ⟨db, 0, none⟩)) := d3
  go_wp2_with fail
  go_region_held3 (fun w' => w'.cell? ⟨cc, 0, none⟩ = some (.pointer (some ⟨db, 0, none⟩)) ∧ w'.cell? ⟨w1.heap.size, 1, none⟩ = some (.int .i64 pv))
    (first | exact ⟨d3, d2⟩ | exact ⟨d3', d2'⟩ | exact ⟨e0, e1⟩)
    (first | (go_at_call 111; refine HG.out.mono ?_; rintro r w6 ⟨rfl, ⟨e0, e1⟩, e2, e3⟩; have HD := hidden e3; clear e3))
  go_wp2_with fail
  refine HD.out.mono ?_
  rintro r w7 ⟨rfl, ⟨v, f1⟩, f2, f3⟩
  have HF := hidden f3
  clear f3
  go_wp2_with fail
  exact HF.out
end Go.Proofs.YtcnbbenmlffgpaaGreatDoor

/- Walks of a cache's Take where no page has a free place. Conditions: the blocks hold what CA.hl and BD.hl say. -/
namespace Go.Proofs.YtcnbbenmlffgpaaGreatDoor
open Go.RowKit

theorem slice_of {rv : RV} {n : Nat} (h : rvOk rv n) : ∃ a cp, lvOf rv n = .slice a n cp ∧ (∀ rb cap, rv = some (rb, cap) → a = some ⟨rb, 0, none⟩) := by
  cases rv with
  | none => exact ⟨none, 0, by show Value.slice none 0 0 = _; rw [show n = 0 from h], fun _ _ e => by cases e⟩
  | some p => exact ⟨_, _, rfl, fun _ _ e => by cases e; rfl⟩
theorem rv_some {rv : RV} {n j : Nat} (h : rvOk rv n) (hj : j < n) : ∃ rb cap, rv = some (rb, cap) := by
  cases rv with
  | none => have : n = 0 := h; omega
  | some p => exact ⟨p.1, p.2, rfl⟩
/-- One round of the search at a page that is full. -/
def FullAt (c : CA) (w : World) (a : Option Addr) : Prop := ∀ j w1, j < c.pg.length → Below w.heap.size w w1 → ∃ rb b p, a = some ⟨rb, 0, none⟩ ∧ w1.cell? ⟨rb, j * 2, none⟩ = some (.pointer (some ⟨b, 0, none⟩)) ∧ w1.cell? ⟨rb, j * 2 + 1, none⟩ = some (.int .i64 p) ∧
      Calls Tryz.prog 88 #[.pointer (some ⟨b, 0, none⟩), .bool false, .int .i64 0] (w1.alloc (.cells #[.pointer (some ⟨b, 0, none⟩), .int .i64 p] 231)) fun r w' => r = .returned (.int .i64 (-1)) ∧ (w1.alloc (.cells #[.pointer (some ⟨b, 0, none⟩), .int .i64 p] 231)) = w'
theorem full_at {w : World} {c : CA} (h : Sep w c.hl) (ok : c.Ok) (hpre : ∀ y ∈ c.pg, freeP y = none) (a : Option Addr) (ha : ∀ rb cap, c.rv = some (rb, cap) → a = some ⟨rb, 0, none⟩) : FullAt c w a := by
  intro j w1 hj hb
  obtain ⟨rb, cap, hrv⟩ := rv_some ok.rv hj
  have hy : c.pg[j]? = some c.pg[j] := List.getElem?_eq_getElem hj
  have s1 := (h.grown hb).sep
  have hsr := CA.sepR s1
  rw [hrv] at hsr
  obtain ⟨e1, e2⟩ := pcells_get _ _ _ hy
  have hmany : c.pg[j].1.bits.length ≤ 60 := by
    rw [ok.many _ (List.mem_of_getElem? hy)]
    have := ok.s0
    exact Nat.le_trans (Nat.div_le_div_left this (by omega)) (by omega)
  refine ⟨rb, _, _, ha _ _ hrv, row_cell hsr _ _ e1, row_cell hsr _ _ e2, ?_⟩
  have := bmfirst_any (CA.sepB (s1.alloc (.cells #[.pointer (some ⟨c.pg[j].1.b, 0, none⟩), .int .i64 ((1024 * c.pg[j].2 : Nat) : Int)] 231)) j _ hy) false 0 (by omega) (by omega)
  have e := hpre _ (List.mem_of_getElem? hy)
  unfold freeP at e
  rw [e] at this
  exact this
set_option maxHeartbeats 1000000 in
set_option maxRecDepth 100000 in
/-- The search, whatever comes behind it. -/
theorem take_search {w : World} {c : CA} (h : Sep w c.hl) (ok : c.Ok) (hpre : ∀ y ∈ c.pg, freeP y = none) (db : Nat) (hbb : c.bb = db) (Q : Ending → World → Prop)
    (hno : ∀ w1, Below w.heap.size w w1 → Calls Tryz.prog 112 #[.pointer (some ⟨db, 0, none⟩), .int .i64 0] w1 fun r w2 => r = .returned (.tuple #[.int .i64 0, .int .i64 4]) ∧ Q (.returned (.tuple #[.int .i64 0, .int .i64 4])) w2) :
    Calls Tryz.prog 101 #[.pointer (some ⟨c.c, 0, none⟩)] w Q := by
  obtain ⟨a, cp, hv, ha⟩ := slice_of ok.rv
  have hfull := full_at h ok hpre a ha
  have hc2 : w.cell? ⟨c.c, 2, none⟩ = some (.slice a c.pg.length cp) := by
    have := (CA.sepC h).cell 2 _ rfl
    rw [hv] at this
    exact this
  have HC0 : Hid (∀ w1, Below w.heap.size w w1 → w1.cell? ⟨c.c, 0, none⟩ = some (.pointer (some ⟨db, 0, none⟩))) := fun w1 hb => by
    have := (CA.sepC ((h.grown hb).sep)).cell 0 _ rfl
    rw [hbb] at this
    exact this
  have hln := ok.len
  have HF := hidden hfull
  have HNo := hidden hno
  clear h ok hfull hpre hno hbb ha hv
  unfold FullAt at HF
  generalize c.pg.length = np at *
  generalize c.c = cc at *
  go_enter Tryz.func101, Tryz.ntmps101
  go_wp2_with fail
  go_loopw [19] (fun jv wr => ∃ j : Nat, jv = .int .i64 j ∧ j ≤ np ∧ Below w.heap.size w wr) (fun jv _ => np + 1 - (intOf jv).toNat)
  case atStart => exact ⟨0, rfl, Nat.zero_le _, Below.refl _ _⟩
  case round =>
    obtain ⟨j, rfl, hj, hb⟩ := hrel
    by_cases hlt : j < np
    · obtain ⟨rb, b, p, rfl, c1, c2, hfst⟩ := HF.out j wr hlt hb
      have HFst := hidden hfst
      have HB := hidden (((hb.alloc (by exact hb.size) (.cells #[.pointer (some ⟨b, 0, none⟩), .int .i64 p] 231))))
      clear hfst
      go_wp2_with (go_at_call 88; refine HFst.out.mono ?_; rintro e w' ⟨rfl, rfl⟩)
      go_roundw
      case rel => exact ⟨j + 1, by go_num, by omega, HB.out⟩
      case measure => simp [intOf]; omega
    · obtain rfl : j = np := by omega
      have c0 := HC0.out _ hb
      have HN := hidden (HNo.out _ hb)
      go_wp2_with fail
      refine HN.out.mono ?_
      rintro r w2 ⟨rfl, hq⟩
      have HQ := hidden hq
      clear hq
      go_wp2_with fail
      exact HQ.out
theorem take_none {w : World} {c : CA} {d : BD} {G : Nat → Nat → Bool} (h : Sep w (c.hl ++ d.hl)) (ok : c.Ok) (hpre : ∀ y ∈ c.pg, freeP y = none) (hbb : c.bb = d.b) (hi : d.Is G) (hn : ∀ k, k ≤ d.top → fstG G d.top k 0 = none) :
    Calls Tryz.prog 101 #[.pointer (some ⟨c.c, 0, none⟩)] w (Told w (.tuple #[.int .i64 0, .int .i64 4])) :=
  take_search h.left ok hpre d.b hbb _ fun w1 hb => (btake_none ((h.grown hb).sep).right hi hn).mono fun _ _ ⟨e, e'⟩ => ⟨e, rfl, by rw [← e']; exact hb⟩
/-- Behind the search: the new page's bitmap, its first place, the page's row. -/
def NewT (c : CA) (d : BD) (p : Nat) (w w1 : World) : Prop :=
  Calls Tryz.prog 112 #[.pointer (some ⟨d.b, 0, none⟩), .int .i64 0] w1 fun r w2 => r = .returned (.tuple #[.int .i64 ((1024 * p : Nat) : Int), .int .i64 0]) ∧
    Calls Tryz.prog 151 #[.pointer (some ⟨c.c, 0, none⟩)] w2 fun r w' => r = .returned (.int .i64 ((960 / c.size : Nat) : Int)) ∧ w2 = w' ∧
    Calls Tryz.prog 147 #[.int .i64 ((960 / c.size : Nat) : Int)] w2 fun r w3 => ∃ mb, r = .returned (.pointer (some ⟨mb, 0, none⟩)) ∧
    Calls Tryz.prog 148 #[.pointer (some ⟨mb, 0, none⟩), .bool true, .slice (some ⟨w3.heap.size + 1, 0, none⟩) 1 1] ((w3.alloc (.cells #[.pointer (some ⟨mb, 0, none⟩), .int .i64 ((1024 * p : Nat) : Int)] 231)).alloc (.cells #[.int .i64 0] 3)) fun r w4 => r = .returned (.int .i64 1) ∧
    Calls Tryz.prog 152 #[.pointer (some ⟨c.c, 0, none⟩), .int .i64 ((1024 * p : Nat) : Int)] w4 fun r w5 => r = .returned (.tuple #[.int .i64 (below_ c.pg p), .bool (hasPg c.pg p)]) ∧
      w5.cell? ⟨w3.heap.size, 0, none⟩ = some (.pointer (some ⟨mb, 0, none⟩)) ∧ w5.cell? ⟨w3.heap.size, 1, none⟩ = some (.int .i64 ((1024 * p : Nat) : Int)) ∧ w5.cell? ⟨c.c, 2, none⟩ = some (lvOf c.rv c.pg.length) ∧
    Calls Tryz.prog 153 #[lvOf c.rv c.pg.length, .int .i64 (below_ c.pg p), .slice (some ⟨w5.heap.size, 0, none⟩) 1 1] (w5.drew.alloc (.cells #[.pointer (some ⟨mb, 0, none⟩), .int .i64 ((1024 * p : Nat) : Int)] 231)) fun r w6 => ∃ (g6 cap6 : Nat) (v6 : Value), v6 = .slice (some ⟨g6, 0, none⟩) (c.pg.length + 1) cap6 ∧ r = .returned v6 ∧
      w6.cell? ⟨w3.heap.size, 0, none⟩ = some (.pointer (some ⟨mb, 0, none⟩)) ∧ w6.cell? ⟨w3.heap.size, 1, none⟩ = some (.int .i64 ((1024 * p : Nat) : Int)) ∧ c.c ≠ w3.heap.size ∧ w6.cell? ⟨c.c, 2, none⟩ = some (lvOf c.rv c.pg.length) ∧ w6.frozen? ⟨c.c, 2, none⟩ = false ∧
      Calls Tryz.prog 150 #[.pointer (some ⟨c.c, 0, none⟩), .agg #[.pointer (some ⟨mb, 0, none⟩), .int .i64 ((1024 * p : Nat) : Int)], .int .i64 0] (w6.setCell ⟨c.c, 2, none⟩ v6) fun r w7 => r = .returned (.int .i64 ((addr c.size p 0 : Nat) : Int)) ∧ TakeN c d p w (.returned (.tuple #[.int .i64 ((addr c.size p 0 : Nat) : Int), .int .i64 0])) w7
theorem new_t {w w1 : World} {c : CA} {d : BD} (h : Sep w (c.hl ++ d.hl)) (hb : Below w.heap.size w w1) (ok : c.Ok) (ha : d.At) (hln : c.pg.length < 1048576) (k0 i0 : Nat) (hk0 : k0 ≤ d.top) (hf : fstG (fre (uOf d.ps) d.top) d.top k0 0 = some i0) (hp : ∀ k, k < k0 → fstG (fre (uOf d.ps) d.top) d.top k 0 = none) (hn : ∀ x ∈ c.pg, x.2 ≠ i0 * 2 ^ k0) (hpl : i0 * 2 ^ k0 < 1048576) :
    NewT c d (i0 * 2 ^ k0) w w1 := by
  have s1 := (h.grown hb)
  unfold NewT
  have hs0 := ok.s0
  have hs1 := ok.s1
  have hq1 : 960 / c.size ≤ 60 := Nat.le_trans (Nat.div_le_div_left hs0 (by omega)) (by omega)
  have hq0 : 0 < 960 / c.size := Nat.div_pos (by omega) (by omega)
  refine (btake_some s1.sep.right ha k0 i0 hk0 hf hp).mono ?_
  rintro r w2 ⟨rfl, d', b1, b2, b3, b4, st2⟩
  generalize i0 * 2 ^ k0 = p at *
  have s2 : Step (c.hl ++ d.hl) (c.hl ++ d'.hl) w w2 := by
    have := Step.frame c.hl [] (by simpa using s1.sep) st2
    exact s1.trans (by simpa using this)
  refine ⟨rfl, (many_any s2.sep.left ok).mono ?_⟩
  rintro r w' ⟨rfl, rfl⟩
  refine ⟨rfl, rfl, (bmnew_any s2.sep (960 / c.size) (by omega)).mono ?_⟩
  rintro r w3 ⟨m, rfl, hm, st3⟩
  have s3 := s2.trans st3
  refine ⟨m.b, rfl, ?_⟩
  have a3 := (s3.sep.alloc (.cells #[.pointer (some ⟨m.b, 0, none⟩), .int .i64 ((1024 * p : Nat) : Int)] 231)).alloc (.cells #[.int .i64 0] 3)
  have hz : ((w3.alloc (.cells #[.pointer (some ⟨m.b, 0, none⟩), .int .i64 ((1024 * p : Nat) : Int)] 231))).heap.size = w3.heap.size + 1 := by simp
  have hlt : ∀ b ∈ keys (m.hl ++ (c.hl ++ d'.hl)), b < w3.heap.size := fun b hbk => s3.sep.lt hbk
  have hset := bmset_turn a3.left true 0 (by rw [hm]; simpa using hq0) (by rw [hm]; simp; omega) (by rw [hm]; rw [List.getElem?_replicate, if_pos hq0]; simp) (w3.heap.size + 1) (by
      have := (Cells.new (w3.alloc (.cells #[.pointer (some ⟨m.b, 0, none⟩), .int .i64 ((1024 * p : Nat) : Int)] 231)) 3 [.int .i64 0]).cell 0 _ rfl
      rw [hz] at this
      exact this) (fun hm' => by have := hlt (w3.heap.size + 1) (by simp only [keys_append, List.mem_append]; exact .inl hm'); omega)
  refine hset.mono ?_
  rintro r w4 ⟨rfl, st4⟩
  have f4 : Step (m.hl ++ (c.hl ++ d'.hl)) (({ m with bits := m.bits.set 0 true } : BM).hl ++ (c.hl ++ d'.hl)) w3 w4 := by
    have := Step.frame [] (c.hl ++ d'.hl) (by simpa using a3) st4
    exact Step.from_alloc (Step.from_alloc (by simpa using this))
  have s4 := s3.trans f4
  have g4 : w3.heap.size < w4.heap.size := by
    have := st4.chg.size
    simp at this
    omega
  have hnn : w3.heap.size ∉ keys m.hl := fun hm' => by have := hlt _ (by simp only [keys_append, List.mem_append]; exact .inl hm'); omega
  have hbk := st4.chg.block w3.heap.size (by simp; omega) hnn
  have hcells := ((Cells.new w3 231 [.pointer (some ⟨m.b, 0, none⟩), .int .i64 ((1024 * p : Nat) : Int)]).alloc (.cells #[.int .i64 0] 3))
  refine ⟨rfl, (find_any s4.sep.right.left ok p).mono ?_⟩
  rintro r w5 ⟨rfl, hb5⟩
  have s5 := s4.trans (s4.sep.grown hb5)
  have hbk5 : w5.heap[w3.heap.size]? = w4.heap[w3.heap.size]? := hb5.block _ g4
  have x0 := (block_same hbk5 0).trans ((block_same hbk 0).trans (hcells.cell 0 _ rfl))
  have x1 := (block_same hbk5 1).trans ((block_same hbk 1).trans (hcells.cell 1 _ rfl))
  refine ⟨rfl, x0, x1, (CA.sepC s5.sep.right.left).cell 2 _ rfl, ?_⟩
  have g5 : w3.heap.size < w5.heap.size := by have := hb5.size; omega
  have hkeys : w3.heap.size ∉ keys (c.hl ++ (({ m with bits := m.bits.set 0 true } : BM).hl ++ d'.hl)) := fun hm' => by
    have := hlt w3.heap.size (by simp only [keys_append, List.mem_append] at hm' ⊢; rcases hm' with h1 | h1 | h1; exact .inr (.inl h1); exact .inl h1; exact .inr (.inr h1))
    omega
  have s5' : Step (c.hl ++ d.hl) (c.hl ++ (({ m with bits := m.bits.set 0 true } : BM).hl ++ d'.hl)) w w5 := s5.perm (List.Perm.refl _) (by
    rw [← List.append_assoc, ← List.append_assoc]
    exact List.Perm.append_right _ List.perm_append_comm)
  refine (new_tail p w3.heap.size ok hn hpl hln (by show m.bits.set 0 true = _; rw [hm]) b1 b2 b3 b4 s5' g5 hkeys).mono ?_
  rintro r w6 ⟨g6, cap6, v6, h6, rfl, e1, e2, e3, e4⟩
  refine ⟨g6, cap6, v6, h6, rfl, (block_same e1 0).trans x0, (block_same e1 1).trans x1, ?_, e2, e3, e4⟩
  rintro e
  exact hkeys (by rw [← e]; simp [CA.hl])
theorem cell_alloc_old {w : World} {p : Addr} {v : Value} {o : Obj} (h : w.cell? p = some v) : (w.alloc o).cell? p = some v := by
  have hl : p.block < w.heap.size := by
    rcases Nat.lt_or_ge p.block w.heap.size with e | e
    · exact e
    · unfold World.cell? at h
      rw [Array.getElem?_eq_none e] at h
      cases h
  exact (World.cell?_of_block (w := w) (Below.heap_alloc _ _ _ hl)).trans h
set_option maxHeartbeats 4000000 in
set_option maxRecDepth 100000 in
theorem take_new {w : World} {c : CA} {d : BD} (h : Sep w (c.hl ++ d.hl)) (ok : c.Ok) (ha : d.At) (hpre : ∀ y ∈ c.pg, freeP y = none) (hbb : c.bb = d.b) (hln : c.pg.length < 1048576) (k0 i0 : Nat) (hk0 : k0 ≤ d.top) (hf : fstG (fre (uOf d.ps) d.top) d.top k0 0 = some i0) (hp : ∀ k, k < k0 → fstG (fre (uOf d.ps) d.top) d.top k 0 = none) (hn : ∀ x ∈ c.pg, x.2 ≠ i0 * 2 ^ k0) (hpl : i0 * 2 ^ k0 < 1048576) :
    Calls Tryz.prog 101 #[.pointer (some ⟨c.c, 0, none⟩)] w (TakeN c d (i0 * 2 ^ k0) w) := by
  obtain ⟨a, cp, hv, hrva⟩ := slice_of ok.rv
  have hfull := full_at h.left ok hpre a hrva
  have hc2 : w.cell? ⟨c.c, 2, none⟩ = some (.slice a c.pg.length cp) := by
    have := (CA.sepC h.left).cell 2 _ rfl
    rw [hv] at this
    exact this
  have HC0 : Hid (∀ w1, Below w.heap.size w w1 → w1.cell? ⟨c.c, 0, none⟩ = some (.pointer (some ⟨d.b, 0, none⟩)) ∧ NewT c d (i0 * 2 ^ k0) w w1) := fun w1 hb => by
    have := (CA.sepC ((h.left.grown hb).sep)).cell 0 _ rfl
    rw [hbb] at this
    exact ⟨this, new_t h hb ok ha hln k0 i0 hk0 hf hp hn hpl⟩
  have HF := hidden hfull
  clear h ok hfull hpre hbb hrva hf hp hn hpl ha hk0
  unfold FullAt at HF
  unfold NewT at HC0
  rw [hv] at HC0
  clear hv
  obtain ⟨TN, hTN⟩ : ∃ TN : Ending → World → Prop, TN = TakeN c d (i0 * 2 ^ k0) w := ⟨_, rfl⟩
  rw [← hTN] at HC0 ⊢
  clear hTN
  generalize addr c.size (i0 * 2 ^ k0) 0 = ad at *
  generalize 1024 * (i0 * 2 ^ k0) = q at *
  generalize 960 / c.size = n at *
  generalize below_ c.pg (i0 * 2 ^ k0) = bl at *
  generalize hasPg c.pg (i0 * 2 ^ k0) = hp at *
  generalize c.pg.length = np at *
  generalize c.c = cc at *
  generalize d.b = db at *
  go_enter Tryz.func101, Tryz.ntmps101
  go_wp2_with fail
  go_loopw [19] (fun jv wr => ∃ j : Nat, jv = .int .i64 j ∧ j ≤ np ∧ Below w.heap.size w wr) (fun jv _ => np + 1 - (intOf jv).toNat)
  case atStart => exact ⟨0, rfl, Nat.zero_le _, Below.refl _ _⟩
  case round =>
    obtain ⟨j, rfl, hj, hb⟩ := hrel
    by_cases hlt : j < np
    · obtain ⟨rb, b, p, rfl, c1, c2, hfst⟩ := HF.out j wr hlt hb
      have HFst := hidden hfst
      have HB := hidden (((hb.alloc (by exact hb.size) (.cells #[.pointer (some ⟨b, 0, none⟩), .int .i64 p] 231))))
      clear hfst
      go_wp2_with (go_at_call 88; refine HFst.out.mono ?_; rintro e w' ⟨rfl, rfl⟩)
      go_roundw
      case rel => exact ⟨j + 1, by go_num, by omega, HB.out⟩
      case measure => simp [intOf]; omega
    · obtain rfl : j = np := by omega
      obtain ⟨c0, hnt⟩ := HC0.out _ hb
      have HN := hidden hnt
      clear hnt
      go_wp2_with fail
      refine HN.out.mono ?_
      rintro r w2 ⟨rfl, hq⟩
      have H2 := hidden hq
      clear hq
      go_wp2_with fail
      refine H2.out.mono ?_
      rintro r w2' ⟨rfl, rfl, hq⟩
      have H3 := hidden hq
      clear hq
      go_wp2_with fail
      refine H3.out.mono ?_
      rintro r w3 ⟨mb, rfl, hq⟩
      have H4 := hidden hq
      clear hq
      go_wp2_with fail
      refine H4.out.mono ?_
      rintro r w4 ⟨rfl, hq⟩
      have H5 := hidden hq
      clear hq
      go_wp2_with fail
      refine H5.out.mono ?_
      rintro r w5 ⟨rfl, x0, x1, x2, hq⟩
      have H6 := hidden hq
      clear hq
      have y0 : w5.drew.cell? ⟨w3.heap.size, 0, none⟩ = some (.pointer (some ⟨mb, 0, none⟩)) := x0
      have y1 : w5.drew.cell? ⟨w3.heap.size, 1, none⟩ = some (.int .i64 q) := x1
      have y2 : w5.drew.cell? ⟨cc, 2, none⟩ = some (.slice a j cp) := x2
      go_wp2_with fail
      have HX := hidden (show _ ∧ _ ∧ _ from ⟨x2, x0, x1⟩)
      have u0 : (w5.alloc (.cells #[.pointer (some ⟨mb, 0, none⟩), .int .i64 q] 231)).cell? ⟨w3.heap.size, 0, none⟩ = some (.pointer (some ⟨mb, 0, none⟩)) := cell_alloc_old HX.out.2.1
      have u1 : (w5.alloc (.cells #[.pointer (some ⟨mb, 0, none⟩), .int .i64 q] 231)).cell? ⟨w3.heap.size, 1, none⟩ = some (.int .i64 q) := cell_alloc_old HX.out.2.2
      have u2 : (w5.alloc (.cells #[.pointer (some ⟨mb, 0, none⟩), .int .i64 q] 231)).cell? ⟨cc, 2, none⟩ = some (.slice a j cp) := cell_alloc_old HX.out.1
      go_region_law (first | (go_simp; go_at_call 153; refine H6.out.mono ?_; rintro r w6 ⟨g6, cap6, v6, rfl, rfl, z0, z1, hne, z2, hfz, hq⟩; have H7 := hidden hq; clear hq))
      all_goals
        have p0 : (w6.setCell ⟨cc, 2, none⟩ (.slice (some ⟨g6, 0, none⟩) (j + 1) cap6)).cell? ⟨w3.heap.size, 0, none⟩ = some (.pointer (some ⟨mb, 0, none⟩)) := (World.cell?_of_block (w := w6) (Below.heap_setCell _ _ _ _ (fun e => hne e.symm))).trans z0
        have p1 : (w6.setCell ⟨cc, 2, none⟩ (.slice (some ⟨g6, 0, none⟩) (j + 1) cap6)).cell? ⟨w3.heap.size, 1, none⟩ = some (.int .i64 q) := (World.cell?_of_block (w := w6) (Below.heap_setCell _ _ _ _ (fun e => hne e.symm))).trans z1
        clear z0 z1 z2 hfz x0 x1 x2 y0 y1 y2 u0 u1 u2
        go_wp2_with fail
        refine H7.out.mono ?_
        rintro r w7 ⟨rfl, hta⟩
        have HTA := hidden hta
        clear hta
        go_wp2_with fail
        exact HTA.out
end Go.Proofs.YtcnbbenmlffgpaaGreatDoor

/- Walks of a cache's places, an iterator, and of Used. Conditions: the blocks hold what CA.hl says. -/
namespace Go.Proofs.YtcnbbenmlffgpaaGreatDoor
open Go.RowKit Go.Shelf
attribute [local go_sem] Oper.semAt_some

/-- The numbers below s of the bits that are on. -/
def truesTo (bits : List Bool) (s : Nat) : List Nat := (trues bits).filter fun i => decide (i < s)
theorem truesTo_zero (bits : List Bool) : truesTo bits 0 = [] := by simp [truesTo]
theorem filter_sorted_split {l : List Nat} (hs : l.Pairwise (· < ·)) {s i : Nat} (hi : i ∈ l) (hsi : s ≤ i) (hno : ∀ j ∈ l, s ≤ j → i ≤ j) : l.filter (fun j => decide (j < i + 1)) = l.filter (fun j => decide (j < s)) ++ [i] := by
  induction l with
  | nil => cases hi
  | cons a r ih =>
    obtain ⟨h1, h2⟩ := List.pairwise_cons.1 hs
    rcases List.mem_cons.1 hi with rfl | hi'
    · have e1 : r.filter (fun j => decide (j < i + 1)) = [] := by
        rw [List.filter_eq_nil_iff]; intro j hj; have := h1 j hj; simp; omega
      have e2 : r.filter (fun j => decide (j < s)) = [] := by
        rw [List.filter_eq_nil_iff]; intro j hj; have := h1 j hj; simp; omega
      rw [List.filter_cons_of_pos (by simp), List.filter_cons_of_neg (by simp; omega), e1, e2]; rfl
    · have hai := h1 i hi'
      have hlt : a < s := by
        rcases Nat.lt_or_ge a s with e | e
        · exact e
        · have := hno a (by simp) e; omega
      rw [List.filter_cons_of_pos (by simp; omega), List.filter_cons_of_pos (by simp; omega), ih h2 hi' (fun j hj hsj => hno j (by simp [hj]) hsj)]; rfl
theorem truesTo_step {bits : List Bool} {s i : Nat} (h : firstI bits true s = some i) : truesTo bits (i + 1) = truesTo bits s ++ [i] := by
  obtain ⟨h1, h2, h3, h4⟩ := firstI_spec h
  refine filter_sorted_split (trues_sorted bits) (mem_trues.2 h3) h2 fun j hj hsj => ?_
  rcases Nat.lt_or_ge j i with e | e
  · exact absurd (mem_trues.1 hj) (h4 j hsj e)
  · exact e
theorem truesTo_end {bits : List Bool} {s : Nat} (h : firstI bits true s = none) : truesTo bits s = trues bits := by
  have h1 := firstI_no h
  unfold truesTo
  rw [List.filter_eq_self]
  intro j hj
  have hj' := mem_trues.1 hj
  have hl : j < bits.length := by
    rcases Nat.lt_or_ge j bits.length with e | e
    · exact e
    · rw [List.getElem?_eq_none e] at hj'; cases hj'
  rcases Nat.lt_or_ge j s with e | e
  · simpa using e
  · exact absurd hj' (h1 j e hl)
def usedTo (c : CA) (k : Nat) : List Nat := (c.pg.take k).flatMap (usedPg c.size)
theorem usedTo_succ (c : CA) (k : Nat) (x : BM × Nat) (hx : c.pg[k]? = some x) : usedTo c (k + 1) = usedTo c k ++ usedPg c.size x := by
  unfold usedTo
  have hk := List.getElem?_eq_some_iff.1 hx
  rw [List.take_succ_eq_append_getElem hk.1, List.flatMap_append, hk.2]
  simp
theorem usedTo_all (c : CA) : usedTo c c.pg.length = c.used := by simp [usedTo, CA.used]
/-- Blocks FP, and those that hold a page's struct, stay. -/
structure KpT (FP : Nat → Prop) (W W' : World) : Prop where
  size : W.heap.size ≤ W'.heap.size
  kept : ∀ b, (FP b ∨ ∃ cs f, W.heap[b]? = some (.cells cs 231 f)) → W'.heap[b]? = W.heap[b]?
theorem KpT.trans {FP : Nat → Prop} {A B C : World} (h : KpT FP A B) (k : KpT FP B C) : KpT FP A C := ⟨Nat.le_trans h.size k.size, fun b hb => by
  have e := h.kept b hb
  refine (k.kept b ?_).trans e
  rcases hb with hb | ⟨cs, f, hb⟩
  · exact .inl hb
  · exact .inr ⟨cs, f, e.trans hb⟩⟩
theorem lift_in {F : Fence} (hF : Hid (F = Fence.wide)) {n : Nat} {P : Program} {f : Nat} {a : Array Value} {w : World} {R : Ending → World → Prop} (h : Calls P f a w R) : CallsIn F n P f a w R := by
  rw [hF.out]; exact (callsIn_wide (n := n)).2 h
/-- What the iterator's blocks are. -/
def placesFP (c : CA) (bc : Nat) : Nat → Prop := fun b => b < GB ∨ b ∈ keys c.hl ∨ b = bc
theorem keptSep {c : CA} {bc : Nat} {W W' : World} (h : Sep W c.hl) (hs : W.heap.size ≤ W'.heap.size) (hk : ∀ b, placesFP c bc b → W'.heap[b]? = W.heap[b]?) : Sep W' c.hl :=
  h.same (fun b hb => hk b (.inr (.inl hb))) (h.env.same (fun b hb => hk b (.inl hb)) (Nat.le_trans h.env.gb hs))
theorem grown_of_below {w w' : World} (h : Below w.heap.size w w') : w.grownBy w' none := ⟨h.os, h.tape, h.output, h.size, fun k hk _ => h.block k hk⟩
theorem usedPg_len {c : CA} (ok : c.Ok) {x : BM × Nat} (hx : x ∈ c.pg) : (usedPg c.size x).length ≤ 60 ∧ x.1.bits.length ≤ 60 := by
  have h1 : x.1.bits.length ≤ 60 := by
    rw [ok.many x hx]
    have := ok.s0
    exact Nat.le_trans (Nat.div_le_div_left this (by omega)) (by omega)
  refine ⟨?_, h1⟩
  unfold usedPg trues
  rw [List.length_map]
  exact Nat.le_trans (List.length_filter_le _ _) (by simpa using h1)
theorem usedTo_len {c : CA} (ok : c.Ok) : ∀ k, (usedTo c k).length ≤ 60 * k
  | 0 => by simp [usedTo]
  | k + 1 => by
    have ih := usedTo_len ok k
    rcases Nat.lt_or_ge k c.pg.length with h | h
    · rw [usedTo_succ c k _ (List.getElem?_eq_getElem h), List.length_append]
      have := (usedPg_len ok (List.getElem_mem h)).1
      omega
    · have e : usedTo c (k + 1) = usedTo c k := by
        unfold usedTo
        rw [List.take_of_length_le (by omega), List.take_of_length_le (by omega)]
      rw [e]; omega
theorem truesTo_len {bits : List Bool} (h : bits.length ≤ 60) (s : Nat) : (truesTo bits s).length ≤ 60 := by
  unfold truesTo trues
  exact Nat.le_trans (List.length_filter_le _ _) (Nat.le_trans (List.length_filter_le _ _) (by simpa using h))
/-- How far the iterator is: pages before j, then the bits below s. -/
def Upto (c : CA) (j : Nat) (x : BM × Nat) (s : Nat) : List Nat := usedTo c j ++ (truesTo x.1.bits s).map (addr c.size x.2)
theorem upto_len {c : CA} (ok : c.Ok) (j : Nat) (x : BM × Nat) (hx : x ∈ c.pg) (s : Nat) : (Upto c j x s).length ≤ 60 * j + 60 := by
  unfold Upto
  have h1 := usedTo_len ok j
  have h2 := truesTo_len (usedPg_len ok hx).2 s
  rw [List.length_append, List.length_map]
  omega
theorem upto_zero (c : CA) (j : Nat) (x : BM × Nat) : Upto c j x 0 = usedTo c j := by simp [Upto, truesTo_zero]
theorem upto_step {c : CA} {j : Nat} {x : BM × Nat} {s i : Nat} (h : firstI x.1.bits true s = some i) : Upto c j x (i + 1) = Upto c j x s ++ [addr c.size x.2 i] := by
  unfold Upto
  rw [truesTo_step h]; simp
theorem upto_end {c : CA} {j : Nat} {x : BM × Nat} {s : Nat} (hx : c.pg[j]? = some x) (h : firstI x.1.bits true s = none) : Upto c j x s = usedTo c (j + 1) := by
  unfold Upto
  rw [truesTo_end h, usedTo_succ c j x hx]; rfl
def isrtA (a : Nat) : Array Value := #[.int .i64 (a : Int)]
/-- Where a page begins, as Go's int. -/
def pgv (p : Nat) : Int := ((1024 * p : Nat) : Int)
/-- While a page is gone through: the iterator's blocks are as they were, block g holds the page. -/
structure PIn (c : CA) (bc : Nat) (W wr : World) (g : Nat) (y : BM × Nat) : Prop where
  size : W.heap.size ≤ wr.heap.size
  kept : ∀ b, placesFP c bc b → wr.heap[b]? = W.heap[b]?
  box : Cells wr g 231 [.pointer (some ⟨y.1.b, 0, none⟩), .int .i64 (pgv y.2)]
theorem PIn.facts {c : CA} {bc : Nat} {W wr : World} {g : Nat} {y : BM × Nat} (p : PIn c bc W wr g y) (hbc : Cells W bc 124 [.pointer (some ⟨c.c, 0, none⟩)]) :
    wr.cell? ⟨bc, 0, none⟩ = some (.pointer (some ⟨c.c, 0, none⟩)) ∧ wr.cell? ⟨g, 0, none⟩ = some (.pointer (some ⟨y.1.b, 0, none⟩)) ∧ wr.cell? ⟨g, 1, none⟩ = some (.int .i64 (pgv y.2)) :=
  ⟨(hbc.same (p.kept bc (.inr (.inr rfl)))).cell 0 _ rfl, p.box.cell 0 _ rfl, p.box.cell 1 _ rfl⟩
theorem PIn.sep {c : CA} {bc : Nat} {W wr : World} {g : Nat} {y : BM × Nat} (p : PIn c bc W wr g y) (h : Sep W c.hl) : Sep wr c.hl := keptSep h p.size p.kept
theorem placesFP_lt {c : CA} {bc : Nat} {W : World} (h : Sep W c.hl) (hbc : bc < W.heap.size) {b : Nat} (hb : placesFP c bc b) : b < W.heap.size := by
  rcases hb with hb | hb | rfl
  · exact Nat.lt_of_lt_of_le hb h.env.gb
  · exact h.lt hb
  · exact hbc
theorem PIn.below {c : CA} {bc : Nat} {W wr wr' : World} {g : Nat} {y : BM × Nat} (p : PIn c bc W wr g y) (h : Sep W c.hl) (hbc : bc < W.heap.size) (hb : Below wr.heap.size wr wr') : PIn c bc W wr' g y :=
  ⟨Nat.le_trans p.size hb.size, fun b hb' => (hb.block b (Nat.lt_of_lt_of_le (placesFP_lt h hbc hb') p.size)).trans (p.kept b hb'), p.box.same (hb.block g p.box.lt)⟩
theorem PIn.yield {c : CA} {bc : Nat} {W wr wr' : World} {g : Nat} {y : BM × Nat} (p : PIn c bc W wr g y) (hk : KpT (placesFP c bc) wr wr') : PIn c bc W wr' g y :=
  ⟨Nat.le_trans p.size hk.size, fun b hb' => (hk.kept b (.inl hb')).trans (p.kept b hb'), p.box.same (hk.kept g (.inr ⟨_, _, p.box⟩))⟩
theorem Tryz.infoint : (Tryz.prog.info? 3).map (fun i => (i.zero, i.size, i.bytes)) = some (some (.int .i64 0), 1, 8) := by kernel_rfl
/-- What a collecting round keeps. -/
theorem collected_kept {W w1 : World} {n₀ B b : Nat} {e : TypeId} {size k : Nat} {v v' : Value} {xs : List Value} {tmp o : Obj} (hrow : W.ownsRow n₀ e size v k xs) (hgrow : (W.alloc tmp).grownBy w1 v.ownBlock) (hb : W.heap[b]? = some o) (hbB : b ≠ B) (ho : b < n₀ ∨ ∀ cs f, o ≠ .cells cs e f) :
    (w1.setCell ⟨B, 0, none⟩ v').heap[b]? = W.heap[b]? := by
  have hlt := lt_of_block hb
  refine (Below.heap_setCell _ _ _ _ hbB).trans ((hgrow.block b (by simp; omega) ?_).trans (Below.heap_alloc _ _ _ hlt))
  intro e'
  rcases hrow.2 with ⟨rfl, _⟩ | ⟨g, cap, cur, rfl, hg, hgb, _⟩
  · cases e'
  · have : b = g := by simpa [Value.ownBlock] using e'
    subst this
    rcases ho with ho | ho
    · omega
    · rw [hgb] at hb; cases hb; exact ho _ _ rfl
def ints (l : List Nat) : List Value := l.map fun (a : Nat) => Value.int .i64 (a : Int)
/-- A new slice of these numbers. -/
def NewInts (w : World) (l : List Nat) (r : Ending) (w' : World) : Prop := ∃ v, r = .returned v ∧ w'.ownsRow w.heap.size 3 1 v l.length (ints l) ∧ Below w.heap.size w w'
end Go.Proofs.YtcnbbenmlffgpaaGreatDoor
