/- CoreApart returns true at every input. No condition. Part of its proof. -/
import Derived.Test.YtcnbbenmlffgpaaGreatDoorCa05
import Derived.Test.YtcnbbenmlffgpaaGreatDoorCa06
import Derived.Deep.RegionLaw
import Derived.RangeFuncNested
import Derived.RangeFuncBound
import Derived.RangeFuncCalls
import Derived.RangeFuncLeaves
import Derived.RangeFuncOne
import Derived.RangeFuncBox
import Derived.Maps.AppendAt
import Derived.Shelf.Abstract
import Derived.Shelf.RegionOpen
import Derived.OwnWalkIn
import Derived.TacticsInMore
import Derived.LoopNIn
import Derived.LoopIn
import Derived.Sort.LoopGhostIn
import Derived.Test.YtcnbbenmlffgpaaGreatDoorCa03
import Derived.Deep.RegionHeld3
import Derived.IntWalk
import Derived.Test.YtcnbbenmlffgpaaGreatDoorCa02
set_option linter.unusedVariables false
/- Walks of a cache's Take where no page has a free place. Conditions: the blocks hold what CA.hl and BD.hl say. -/
namespace Go.Proofs.YtcnbbenmlffgpaaGreatDoor
open Go.RowKit

theorem slice_of {rv : RV} {n : Nat} (h : rvOk rv n) : ∃ a cp, lvOf rv n = .slice a n cp ∧ (∀ rb cap, rv = some (rb, cap) → a = some ⟨rb, 0, none⟩) := by
  cases rv with
  | none => exact ⟨none, 0, by show Value.slice none 0 0 = _; rw [show n = 0 from h], fun _ _ e => by cases e⟩
  | some p => exact ⟨_, _, rfl, fun _ _ e => by cases e; rfl⟩
theorem rv_some {rv : RV} {n j : Nat} (h : rvOk rv n) (hj : j < n) : ∃ rb cap, rv = some (rb, cap) := by
  cases rv with
  | none => have : n = 0 := h; omega
  | some p => exact ⟨p.1, p.2, rfl⟩
/-- One round of the search at a page that is full. -/
def FullAt (c : CA) (w : World) (a : Option Addr) : Prop := ∀ j w1, j < c.pg.length → Below w.heap.size w w1 → ∃ rb b p, a = some ⟨rb, 0, none⟩ ∧ w1.cell? ⟨rb, j * 2, none⟩ = some (.pointer (some ⟨b, 0, none⟩)) ∧ w1.cell? ⟨rb, j * 2 + 1, none⟩ = some (.int .i64 p) ∧
      Calls Tryz.prog 88 #[.pointer (some ⟨b, 0, none⟩), .bool false, .int .i64 0] (w1.alloc (.cells #[.pointer (some ⟨b, 0, none⟩), .int .i64 p] 231)) fun r w' => r = .returned (.int .i64 (-1)) ∧ (w1.alloc (.cells #[.pointer (some ⟨b, 0, none⟩), .int .i64 p] 231)) = w'
theorem full_at {w : World} {c : CA} (h : Sep w c.hl) (ok : c.Ok) (hpre : ∀ y ∈ c.pg, freeP y = none) (a : Option Addr) (ha : ∀ rb cap, c.rv = some (rb, cap) → a = some ⟨rb, 0, none⟩) : FullAt c w a := by
  intro j w1 hj hb
  obtain ⟨rb, cap, hrv⟩ := rv_some ok.rv hj
  have hy : c.pg[j]? = some c.pg[j] := List.getElem?_eq_getElem hj
  have s1 := (h.grown hb).sep
  have hsr := CA.sepR s1
  rw [hrv] at hsr
  obtain ⟨e1, e2⟩ := pcells_get _ _ _ hy
  have hmany : c.pg[j].1.bits.length ≤ 60 := by
    rw [ok.many _ (List.mem_of_getElem? hy)]
    have := ok.s0
    exact Nat.le_trans (Nat.div_le_div_left this (by omega)) (by omega)
  refine ⟨rb, _, _, ha _ _ hrv, row_cell hsr _ _ e1, row_cell hsr _ _ e2, ?_⟩
  have := bmfirst_any (CA.sepB (s1.alloc (.cells #[.pointer (some ⟨c.pg[j].1.b, 0, none⟩), .int .i64 ((1024 * c.pg[j].2 : Nat) : Int)] 231)) j _ hy) false 0 (by omega) (by omega)
  have e := hpre _ (List.mem_of_getElem? hy)
  unfold freeP at e
  rw [e] at this
  exact this
set_option maxHeartbeats 1000000 in
set_option maxRecDepth 100000 in
/-- The search, whatever comes behind it. -/
theorem take_search {w : World} {c : CA} (h : Sep w c.hl) (ok : c.Ok) (hpre : ∀ y ∈ c.pg, freeP y = none) (db : Nat) (hbb : c.bb = db) (Q : Ending → World → Prop)
    (hno : ∀ w1, Below w.heap.size w w1 → Calls Tryz.prog 112 #[.pointer (some ⟨db, 0, none⟩), .int .i64 0] w1 fun r w2 => r = .returned (.tuple #[.int .i64 0, .int .i64 4]) ∧ Q (.returned (.tuple #[.int .i64 0, .int .i64 4])) w2) :
    Calls Tryz.prog 101 #[.pointer (some ⟨c.c, 0, none⟩)] w Q := by
  obtain ⟨a, cp, hv, ha⟩ := slice_of ok.rv
  have hfull := full_at h ok hpre a ha
  have hc2 : w.cell? ⟨c.c, 2, none⟩ = some (.slice a c.pg.length cp) := by
    have := (CA.sepC h).cell 2 _ rfl
    rw [hv] at this
    exact this
  have HC0 : Hid (∀ w1, Below w.heap.size w w1 → w1.cell? ⟨c.c, 0, none⟩ = some (.pointer (some ⟨db, 0, none⟩))) := fun w1 hb => by
    have := (CA.sepC ((h.grown hb).sep)).cell 0 _ rfl
    rw [hbb] at this
    exact this
  have hln := ok.len
  have HF := hidden hfull
  have HNo := hidden hno
  clear h ok hfull hpre hno hbb ha hv
  unfold FullAt at HF
  generalize c.pg.length = np at *
  generalize c.c = cc at *
  go_enter Tryz.func101, Tryz.ntmps101
  go_wp2_with fail
  go_loopw [19] (fun jv wr => ∃ j : Nat, jv = .int .i64 j ∧ j ≤ np ∧ Below w.heap.size w wr) (fun jv _ => np + 1 - (intOf jv).toNat)
  case atStart => exact ⟨0, rfl, Nat.zero_le _, Below.refl _ _⟩
  case round =>
    obtain ⟨j, rfl, hj, hb⟩ := hrel
    by_cases hlt : j < np
    · obtain ⟨rb, b, p, rfl, c1, c2, hfst⟩ := HF.out j wr hlt hb
      have HFst := hidden hfst
      have HB := hidden (((hb.alloc (by exact hb.size) (.cells #[.pointer (some ⟨b, 0, none⟩), .int .i64 p] 231))))
      clear hfst
      go_wp2_with (go_at_call 88; refine HFst.out.mono ?_; rintro e w' ⟨rfl, rfl⟩)
      go_roundw
      case rel => exact ⟨j + 1, by go_num, by omega, HB.out⟩
      case measure => simp [intOf]; omega
    · obtain rfl : j = np := by omega
      have c0 := HC0.out _ hb
      have HN := hidden (HNo.out _ hb)
      go_wp2_with fail
      refine HN.out.mono ?_
      rintro r w2 ⟨rfl, hq⟩
      have HQ := hidden hq
      clear hq
      go_wp2_with fail
      exact HQ.out
theorem take_none {w : World} {c : CA} {d : BD} {G : Nat → Nat → Bool} (h : Sep w (c.hl ++ d.hl)) (ok : c.Ok) (hpre : ∀ y ∈ c.pg, freeP y = none) (hbb : c.bb = d.b) (hi : d.Is G) (hn : ∀ k, k ≤ d.top → fstG G d.top k 0 = none) :
    Calls Tryz.prog 101 #[.pointer (some ⟨c.c, 0, none⟩)] w (Told w (.tuple #[.int .i64 0, .int .i64 4])) :=
  take_search h.left ok hpre d.b hbb _ fun w1 hb => (btake_none ((h.grown hb).sep).right hi hn).mono fun _ _ ⟨e, e'⟩ => ⟨e, rfl, by rw [← e']; exact hb⟩
/-- Behind the search: the new page's bitmap, its first place, the page's row. -/
def NewT (c : CA) (d : BD) (p : Nat) (w w1 : World) : Prop :=
  Calls Tryz.prog 112 #[.pointer (some ⟨d.b, 0, none⟩), .int .i64 0] w1 fun r w2 => r = .returned (.tuple #[.int .i64 ((1024 * p : Nat) : Int), .int .i64 0]) ∧
    Calls Tryz.prog 151 #[.pointer (some ⟨c.c, 0, none⟩)] w2 fun r w' => r = .returned (.int .i64 ((960 / c.size : Nat) : Int)) ∧ w2 = w' ∧
    Calls Tryz.prog 147 #[.int .i64 ((960 / c.size : Nat) : Int)] w2 fun r w3 => ∃ mb, r = .returned (.pointer (some ⟨mb, 0, none⟩)) ∧
    Calls Tryz.prog 148 #[.pointer (some ⟨mb, 0, none⟩), .bool true, .slice (some ⟨w3.heap.size + 1, 0, none⟩) 1 1] ((w3.alloc (.cells #[.pointer (some ⟨mb, 0, none⟩), .int .i64 ((1024 * p : Nat) : Int)] 231)).alloc (.cells #[.int .i64 0] 3)) fun r w4 => r = .returned (.int .i64 1) ∧
    Calls Tryz.prog 152 #[.pointer (some ⟨c.c, 0, none⟩), .int .i64 ((1024 * p : Nat) : Int)] w4 fun r w5 => r = .returned (.tuple #[.int .i64 (below_ c.pg p), .bool (hasPg c.pg p)]) ∧
      w5.cell? ⟨w3.heap.size, 0, none⟩ = some (.pointer (some ⟨mb, 0, none⟩)) ∧ w5.cell? ⟨w3.heap.size, 1, none⟩ = some (.int .i64 ((1024 * p : Nat) : Int)) ∧ w5.cell? ⟨c.c, 2, none⟩ = some (lvOf c.rv c.pg.length) ∧
    Calls Tryz.prog 153 #[lvOf c.rv c.pg.length, .int .i64 (below_ c.pg p), .slice (some ⟨w5.heap.size, 0, none⟩) 1 1] (w5.drew.alloc (.cells #[.pointer (some ⟨mb, 0, none⟩), .int .i64 ((1024 * p : Nat) : Int)] 231)) fun r w6 => ∃ (g6 cap6 : Nat) (v6 : Value), v6 = .slice (some ⟨g6, 0, none⟩) (c.pg.length + 1) cap6 ∧ r = .returned v6 ∧
      w6.cell? ⟨w3.heap.size, 0, none⟩ = some (.pointer (some ⟨mb, 0, none⟩)) ∧ w6.cell? ⟨w3.heap.size, 1, none⟩ = some (.int .i64 ((1024 * p : Nat) : Int)) ∧ c.c ≠ w3.heap.size ∧ w6.cell? ⟨c.c, 2, none⟩ = some (lvOf c.rv c.pg.length) ∧ w6.frozen? ⟨c.c, 2, none⟩ = false ∧
      Calls Tryz.prog 150 #[.pointer (some ⟨c.c, 0, none⟩), .agg #[.pointer (some ⟨mb, 0, none⟩), .int .i64 ((1024 * p : Nat) : Int)], .int .i64 0] (w6.setCell ⟨c.c, 2, none⟩ v6) fun r w7 => r = .returned (.int .i64 ((addr c.size p 0 : Nat) : Int)) ∧ TakeN c d p w (.returned (.tuple #[.int .i64 ((addr c.size p 0 : Nat) : Int), .int .i64 0])) w7
theorem new_t {w w1 : World} {c : CA} {d : BD} (h : Sep w (c.hl ++ d.hl)) (hb : Below w.heap.size w w1) (ok : c.Ok) (ha : d.At) (hln : c.pg.length < 1048576) (k0 i0 : Nat) (hk0 : k0 ≤ d.top) (hf : fstG (fre (uOf d.ps) d.top) d.top k0 0 = some i0) (hp : ∀ k, k < k0 → fstG (fre (uOf d.ps) d.top) d.top k 0 = none) (hn : ∀ x ∈ c.pg, x.2 ≠ i0 * 2 ^ k0) (hpl : i0 * 2 ^ k0 < 1048576) :
    NewT c d (i0 * 2 ^ k0) w w1 := by
  have s1 := (h.grown hb)
  unfold NewT
  have hs0 := ok.s0
  have hs1 := ok.s1
  have hq1 : 960 / c.size ≤ 60 := Nat.le_trans (Nat.div_le_div_left hs0 (by omega)) (by omega)
  have hq0 : 0 < 960 / c.size := Nat.div_pos (by omega) (by omega)
  refine (btake_some s1.sep.right ha k0 i0 hk0 hf hp).mono ?_
  rintro r w2 ⟨rfl, d', b1, b2, b3, b4, st2⟩
  generalize i0 * 2 ^ k0 = p at *
  have s2 : Step (c.hl ++ d.hl) (c.hl ++ d'.hl) w w2 := by
    have := Step.frame c.hl [] (by simpa using s1.sep) st2
    exact s1.trans (by simpa using this)
  refine ⟨rfl, (many_any s2.sep.left ok).mono ?_⟩
  rintro r w' ⟨rfl, rfl⟩
  refine ⟨rfl, rfl, (bmnew_any s2.sep (960 / c.size) (by omega)).mono ?_⟩
  rintro r w3 ⟨m, rfl, hm, st3⟩
  have s3 := s2.trans st3
  refine ⟨m.b, rfl, ?_⟩
  have a3 := (s3.sep.alloc (.cells #[.pointer (some ⟨m.b, 0, none⟩), .int .i64 ((1024 * p : Nat) : Int)] 231)).alloc (.cells #[.int .i64 0] 3)
  have hz : ((w3.alloc (.cells #[.pointer (some ⟨m.b, 0, none⟩), .int .i64 ((1024 * p : Nat) : Int)] 231))).heap.size = w3.heap.size + 1 := by simp
  have hlt : ∀ b ∈ keys (m.hl ++ (c.hl ++ d'.hl)), b < w3.heap.size := fun b hbk => s3.sep.lt hbk
  have hset := bmset_turn a3.left true 0 (by rw [hm]; simpa using hq0) (by rw [hm]; simp; omega) (by rw [hm]; rw [List.getElem?_replicate, if_pos hq0]; simp) (w3.heap.size + 1) (by
      have := (Cells.new (w3.alloc (.cells #[.pointer (some ⟨m.b, 0, none⟩), .int .i64 ((1024 * p : Nat) : Int)] 231)) 3 [.int .i64 0]).cell 0 _ rfl
      rw [hz] at this
      exact this) (fun hm' => by have := hlt (w3.heap.size + 1) (by simp only [keys_append, List.mem_append]; exact .inl hm'); omega)
  refine hset.mono ?_
  rintro r w4 ⟨rfl, st4⟩
  have f4 : Step (m.hl ++ (c.hl ++ d'.hl)) (({ m with bits := m.bits.set 0 true } : BM).hl ++ (c.hl ++ d'.hl)) w3 w4 := by
    have := Step.frame [] (c.hl ++ d'.hl) (by simpa using a3) st4
    exact Step.from_alloc (Step.from_alloc (by simpa using this))
  have s4 := s3.trans f4
  have g4 : w3.heap.size < w4.heap.size := by
    have := st4.chg.size
    simp at this
    omega
  have hnn : w3.heap.size ∉ keys m.hl := fun hm' => by have := hlt _ (by simp only [keys_append, List.mem_append]; exact .inl hm'); omega
  have hbk := st4.chg.block w3.heap.size (by simp; omega) hnn
  have hcells := ((Cells.new w3 231 [.pointer (some ⟨m.b, 0, none⟩), .int .i64 ((1024 * p : Nat) : Int)]).alloc (.cells #[.int .i64 0] 3))
  refine ⟨rfl, (find_any s4.sep.right.left ok p).mono ?_⟩
  rintro r w5 ⟨rfl, hb5⟩
  have s5 := s4.trans (s4.sep.grown hb5)
  have hbk5 : w5.heap[w3.heap.size]? = w4.heap[w3.heap.size]? := hb5.block _ g4
  have x0 := (block_same hbk5 0).trans ((block_same hbk 0).trans (hcells.cell 0 _ rfl))
  have x1 := (block_same hbk5 1).trans ((block_same hbk 1).trans (hcells.cell 1 _ rfl))
  refine ⟨rfl, x0, x1, (CA.sepC s5.sep.right.left).cell 2 _ rfl, ?_⟩
  have g5 : w3.heap.size < w5.heap.size := by have := hb5.size; omega
  have hkeys : w3.heap.size ∉ keys (c.hl ++ (({ m with bits := m.bits.set 0 true } : BM).hl ++ d'.hl)) := fun hm' => by
    have := hlt w3.heap.size (by simp only [keys_append, List.mem_append] at hm' ⊢; rcases hm' with h1 | h1 | h1; exact .inr (.inl h1); exact .inl h1; exact .inr (.inr h1))
    omega
  have s5' : Step (c.hl ++ d.hl) (c.hl ++ (({ m with bits := m.bits.set 0 true } : BM).hl ++ d'.hl)) w w5 := s5.perm (List.Perm.refl _) (by
    rw [← List.append_assoc, ← List.append_assoc]
    exact List.Perm.append_right _ List.perm_append_comm)
  refine (new_tail p w3.heap.size ok hn hpl hln (by show m.bits.set 0 true = _; rw [hm]) b1 b2 b3 b4 s5' g5 hkeys).mono ?_
  rintro r w6 ⟨g6, cap6, v6, h6, rfl, e1, e2, e3, e4⟩
  refine ⟨g6, cap6, v6, h6, rfl, (block_same e1 0).trans x0, (block_same e1 1).trans x1, ?_, e2, e3, e4⟩
  rintro e
  exact hkeys (by rw [← e]; simp [CA.hl])
theorem cell_alloc_old {w : World} {p : Addr} {v : Value} {o : Obj} (h : w.cell? p = some v) : (w.alloc o).cell? p = some v := by
  have hl : p.block < w.heap.size := by
    rcases Nat.lt_or_ge p.block w.heap.size with e | e
    · exact e
    · unfold World.cell? at h
      rw [Array.getElem?_eq_none e] at h
      cases h
  exact (World.cell?_of_block (w := w) (Below.heap_alloc _ _ _ hl)).trans h
set_option maxHeartbeats 4000000 in
set_option maxRecDepth 100000 in
theorem take_new {w : World} {c : CA} {d : BD} (h : Sep w (c.hl ++ d.hl)) (ok : c.Ok) (ha : d.At) (hpre : ∀ y ∈ c.pg, freeP y = none) (hbb : c.bb = d.b) (hln : c.pg.length < 1048576) (k0 i0 : Nat) (hk0 : k0 ≤ d.top) (hf : fstG (fre (uOf d.ps) d.top) d.top k0 0 = some i0) (hp : ∀ k, k < k0 → fstG (fre (uOf d.ps) d.top) d.top k 0 = none) (hn : ∀ x ∈ c.pg, x.2 ≠ i0 * 2 ^ k0) (hpl : i0 * 2 ^ k0 < 1048576) :
    Calls Tryz.prog 101 #[.pointer (some ⟨c.c, 0, none⟩)] w (TakeN c d (i0 * 2 ^ k0) w) := by
  obtain ⟨a, cp, hv, hrva⟩ := slice_of ok.rv
  have hfull := full_at h.left ok hpre a hrva
  have hc2 : w.cell? ⟨c.c, 2, none⟩ = some (.slice a c.pg.length cp) := by
    have := (CA.sepC h.left).cell 2 _ rfl
    rw [hv] at this
    exact this
  have HC0 : Hid (∀ w1, Below w.heap.size w w1 → w1.cell? ⟨c.c, 0, none⟩ = some (.pointer (some ⟨d.b, 0, none⟩)) ∧ NewT c d (i0 * 2 ^ k0) w w1) := fun w1 hb => by
    have := (CA.sepC ((h.left.grown hb).sep)).cell 0 _ rfl
    rw [hbb] at this
    exact ⟨this, new_t h hb ok ha hln k0 i0 hk0 hf hp hn hpl⟩
  have HF := hidden hfull
  clear h ok hfull hpre hbb hrva hf hp hn hpl ha hk0
  unfold FullAt at HF
  unfold NewT at HC0
  rw [hv] at HC0
  clear hv
  obtain ⟨TN, hTN⟩ : ∃ TN : Ending → World → Prop, TN = TakeN c d (i0 * 2 ^ k0) w := ⟨_, rfl⟩
  rw [← hTN] at HC0 ⊢
  clear hTN
  generalize addr c.size (i0 * 2 ^ k0) 0 = ad at *
  generalize 1024 * (i0 * 2 ^ k0) = q at *
  generalize 960 / c.size = n at *
  generalize below_ c.pg (i0 * 2 ^ k0) = bl at *
  generalize hasPg c.pg (i0 * 2 ^ k0) = hp at *
  generalize c.pg.length = np at *
  generalize c.c = cc at *
  generalize d.b = db at *
  go_enter Tryz.func101, Tryz.ntmps101
  go_wp2_with fail
  go_loopw [19] (fun jv wr => ∃ j : Nat, jv = .int .i64 j ∧ j ≤ np ∧ Below w.heap.size w wr) (fun jv _ => np + 1 - (intOf jv).toNat)
  case atStart => exact ⟨0, rfl, Nat.zero_le _, Below.refl _ _⟩
  case round =>
    obtain ⟨j, rfl, hj, hb⟩ := hrel
    by_cases hlt : j < np
    · obtain ⟨rb, b, p, rfl, c1, c2, hfst⟩ := HF.out j wr hlt hb
      have HFst := hidden hfst
      have HB := hidden (((hb.alloc (by exact hb.size) (.cells #[.pointer (some ⟨b, 0, none⟩), .int .i64 p] 231))))
      clear hfst
      go_wp2_with (go_at_call 88; refine HFst.out.mono ?_; rintro e w' ⟨rfl, rfl⟩)
      go_roundw
      case rel => exact ⟨j + 1, by go_num, by omega, HB.out⟩
      case measure => simp [intOf]; omega
    · obtain rfl : j = np := by omega
      obtain ⟨c0, hnt⟩ := HC0.out _ hb
      have HN := hidden hnt
      clear hnt
      go_wp2_with fail
      refine HN.out.mono ?_
      rintro r w2 ⟨rfl, hq⟩
      have H2 := hidden hq
      clear hq
      go_wp2_with fail
      refine H2.out.mono ?_
      rintro r w2' ⟨rfl, rfl, hq⟩
      have H3 := hidden hq
      clear hq
      go_wp2_with fail
      refine H3.out.mono ?_
      rintro r w3 ⟨mb, rfl, hq⟩
      have H4 := hidden hq
      clear hq
      go_wp2_with fail
      refine H4.out.mono ?_
      rintro r w4 ⟨rfl, hq⟩
      have H5 := hidden hq
      clear hq
      go_wp2_with fail
      refine H5.out.mono ?_
      rintro r w5 ⟨rfl, x0, x1, x2, hq⟩
      have H6 := hidden hq
      clear hq
      have y0 : w5.drew.cell? ⟨w3.heap.size, 0, none⟩ = some (.pointer (some ⟨mb, 0, none⟩)) := x0
      have y1 : w5.drew.cell? ⟨w3.heap.size, 1, none⟩ = some (.int .i64 q) := x1
      have y2 : w5.drew.cell? ⟨cc, 2, none⟩ = some (.slice a j cp) := x2
      go_wp2_with fail
      have HX := hidden (show _ ∧ _ ∧ _ from ⟨x2, x0, x1⟩)
      have u0 : (w5.alloc (.cells #[.pointer (some ⟨mb, 0, none⟩), .int .i64 q] 231)).cell? ⟨w3.heap.size, 0, none⟩ = some (.pointer (some ⟨mb, 0, none⟩)) := cell_alloc_old HX.out.2.1
      have u1 : (w5.alloc (.cells #[.pointer (some ⟨mb, 0, none⟩), .int .i64 q] 231)).cell? ⟨w3.heap.size, 1, none⟩ = some (.int .i64 q) := cell_alloc_old HX.out.2.2
      have u2 : (w5.alloc (.cells #[.pointer (some ⟨mb, 0, none⟩), .int .i64 q] 231)).cell? ⟨cc, 2, none⟩ = some (.slice a j cp) := cell_alloc_old HX.out.1
      go_region_law (first | (go_simp; go_at_call 153; refine H6.out.mono ?_; rintro r w6 ⟨g6, cap6, v6, rfl, rfl, z0, z1, hne, z2, hfz, hq⟩; have H7 := hidden hq; clear hq))
      all_goals
        have p0 : (w6.setCell ⟨cc, 2, none⟩ (.slice (some ⟨g6, 0, none⟩) (j + 1) cap6)).cell? ⟨w3.heap.size, 0, none⟩ = some (.pointer (some ⟨mb, 0, none⟩)) := (World.cell?_of_block (w := w6) (Below.heap_setCell _ _ _ _ (fun e => hne e.symm))).trans z0
        have p1 : (w6.setCell ⟨cc, 2, none⟩ (.slice (some ⟨g6, 0, none⟩) (j + 1) cap6)).cell? ⟨w3.heap.size, 1, none⟩ = some (.int .i64 q) := (World.cell?_of_block (w := w6) (Below.heap_setCell _ _ _ _ (fun e => hne e.symm))).trans z1
        clear z0 z1 z2 hfz x0 x1 x2 y0 y1 y2 u0 u1 u2
        go_wp2_with fail
        refine H7.out.mono ?_
        rintro r w7 ⟨rfl, hta⟩
        have HTA := hidden hta
        clear hta
        go_wp2_with fail
        exact HTA.out
end Go.Proofs.YtcnbbenmlffgpaaGreatDoor

/- Walks of a cache's places, an iterator, and of Used. Conditions: the blocks hold what CA.hl says. -/
namespace Go.Proofs.YtcnbbenmlffgpaaGreatDoor
open Go.RowKit Go.Shelf
attribute [local go_sem] Oper.semAt_some

/-- The numbers below s of the bits that are on. -/
def truesTo (bits : List Bool) (s : Nat) : List Nat := (trues bits).filter fun i => decide (i < s)
theorem truesTo_zero (bits : List Bool) : truesTo bits 0 = [] := by simp [truesTo]
theorem filter_sorted_split {l : List Nat} (hs : l.Pairwise (· < ·)) {s i : Nat} (hi : i ∈ l) (hsi : s ≤ i) (hno : ∀ j ∈ l, s ≤ j → i ≤ j) : l.filter (fun j => decide (j < i + 1)) = l.filter (fun j => decide (j < s)) ++ [i] := by
  induction l with
  | nil => cases hi
  | cons a r ih =>
    obtain ⟨h1, h2⟩ := List.pairwise_cons.1 hs
    rcases List.mem_cons.1 hi with rfl | hi'
    · have e1 : r.filter (fun j => decide (j < i + 1)) = [] := by
        rw [List.filter_eq_nil_iff]; intro j hj; have := h1 j hj; simp; omega
      have e2 : r.filter (fun j => decide (j < s)) = [] := by
        rw [List.filter_eq_nil_iff]; intro j hj; have := h1 j hj; simp; omega
      rw [List.filter_cons_of_pos (by simp), List.filter_cons_of_neg (by simp; omega), e1, e2]; rfl
    · have hai := h1 i hi'
      have hlt : a < s := by
        rcases Nat.lt_or_ge a s with e | e
        · exact e
        · have := hno a (by simp) e; omega
      rw [List.filter_cons_of_pos (by simp; omega), List.filter_cons_of_pos (by simp; omega), ih h2 hi' (fun j hj hsj => hno j (by simp [hj]) hsj)]; rfl
theorem truesTo_step {bits : List Bool} {s i : Nat} (h : firstI bits true s = some i) : truesTo bits (i + 1) = truesTo bits s ++ [i] := by
  obtain ⟨h1, h2, h3, h4⟩ := firstI_spec h
  refine filter_sorted_split (trues_sorted bits) (mem_trues.2 h3) h2 fun j hj hsj => ?_
  rcases Nat.lt_or_ge j i with e | e
  · exact absurd (mem_trues.1 hj) (h4 j hsj e)
  · exact e
theorem truesTo_end {bits : List Bool} {s : Nat} (h : firstI bits true s = none) : truesTo bits s = trues bits := by
  have h1 := firstI_no h
  unfold truesTo
  rw [List.filter_eq_self]
  intro j hj
  have hj' := mem_trues.1 hj
  have hl : j < bits.length := by
    rcases Nat.lt_or_ge j bits.length with e | e
    · exact e
    · rw [List.getElem?_eq_none e] at hj'; cases hj'
  rcases Nat.lt_or_ge j s with e | e
  · simpa using e
  · exact absurd hj' (h1 j e hl)
def usedTo (c : CA) (k : Nat) : List Nat := (c.pg.take k).flatMap (usedPg c.size)
theorem usedTo_succ (c : CA) (k : Nat) (x : BM × Nat) (hx : c.pg[k]? = some x) : usedTo c (k + 1) = usedTo c k ++ usedPg c.size x := by
  unfold usedTo
  have hk := List.getElem?_eq_some_iff.1 hx
  rw [List.take_succ_eq_append_getElem hk.1, List.flatMap_append, hk.2]
  simp
theorem usedTo_all (c : CA) : usedTo c c.pg.length = c.used := by simp [usedTo, CA.used]
/-- Blocks FP, and those that hold a page's struct, stay. -/
structure KpT (FP : Nat → Prop) (W W' : World) : Prop where
  size : W.heap.size ≤ W'.heap.size
  kept : ∀ b, (FP b ∨ ∃ cs f, W.heap[b]? = some (.cells cs 231 f)) → W'.heap[b]? = W.heap[b]?
theorem KpT.trans {FP : Nat → Prop} {A B C : World} (h : KpT FP A B) (k : KpT FP B C) : KpT FP A C := ⟨Nat.le_trans h.size k.size, fun b hb => by
  have e := h.kept b hb
  refine (k.kept b ?_).trans e
  rcases hb with hb | ⟨cs, f, hb⟩
  · exact .inl hb
  · exact .inr ⟨cs, f, e.trans hb⟩⟩
theorem lift_in {F : Fence} (hF : Hid (F = Fence.wide)) {n : Nat} {P : Program} {f : Nat} {a : Array Value} {w : World} {R : Ending → World → Prop} (h : Calls P f a w R) : CallsIn F n P f a w R := by
  rw [hF.out]; exact (callsIn_wide (n := n)).2 h
/-- What the iterator's blocks are. -/
def placesFP (c : CA) (bc : Nat) : Nat → Prop := fun b => b < GB ∨ b ∈ keys c.hl ∨ b = bc
theorem keptSep {c : CA} {bc : Nat} {W W' : World} (h : Sep W c.hl) (hs : W.heap.size ≤ W'.heap.size) (hk : ∀ b, placesFP c bc b → W'.heap[b]? = W.heap[b]?) : Sep W' c.hl :=
  h.same (fun b hb => hk b (.inr (.inl hb))) (h.env.same (fun b hb => hk b (.inl hb)) (Nat.le_trans h.env.gb hs))
theorem grown_of_below {w w' : World} (h : Below w.heap.size w w') : w.grownBy w' none := ⟨h.os, h.tape, h.output, h.size, fun k hk _ => h.block k hk⟩
theorem usedPg_len {c : CA} (ok : c.Ok) {x : BM × Nat} (hx : x ∈ c.pg) : (usedPg c.size x).length ≤ 60 ∧ x.1.bits.length ≤ 60 := by
  have h1 : x.1.bits.length ≤ 60 := by
    rw [ok.many x hx]
    have := ok.s0
    exact Nat.le_trans (Nat.div_le_div_left this (by omega)) (by omega)
  refine ⟨?_, h1⟩
  unfold usedPg trues
  rw [List.length_map]
  exact Nat.le_trans (List.length_filter_le _ _) (by simpa using h1)
theorem usedTo_len {c : CA} (ok : c.Ok) : ∀ k, (usedTo c k).length ≤ 60 * k
  | 0 => by simp [usedTo]
  | k + 1 => by
    have ih := usedTo_len ok k
    rcases Nat.lt_or_ge k c.pg.length with h | h
    · rw [usedTo_succ c k _ (List.getElem?_eq_getElem h), List.length_append]
      have := (usedPg_len ok (List.getElem_mem h)).1
      omega
    · have e : usedTo c (k + 1) = usedTo c k := by
        unfold usedTo
        rw [List.take_of_length_le (by omega), List.take_of_length_le (by omega)]
      rw [e]; omega
theorem truesTo_len {bits : List Bool} (h : bits.length ≤ 60) (s : Nat) : (truesTo bits s).length ≤ 60 := by
  unfold truesTo trues
  exact Nat.le_trans (List.length_filter_le _ _) (Nat.le_trans (List.length_filter_le _ _) (by simpa using h))
/-- How far the iterator is: pages before j, then the bits below s. -/
def Upto (c : CA) (j : Nat) (x : BM × Nat) (s : Nat) : List Nat := usedTo c j ++ (truesTo x.1.bits s).map (addr c.size x.2)
theorem upto_len {c : CA} (ok : c.Ok) (j : Nat) (x : BM × Nat) (hx : x ∈ c.pg) (s : Nat) : (Upto c j x s).length ≤ 60 * j + 60 := by
  unfold Upto
  have h1 := usedTo_len ok j
  have h2 := truesTo_len (usedPg_len ok hx).2 s
  rw [List.length_append, List.length_map]
  omega
theorem upto_zero (c : CA) (j : Nat) (x : BM × Nat) : Upto c j x 0 = usedTo c j := by simp [Upto, truesTo_zero]
theorem upto_step {c : CA} {j : Nat} {x : BM × Nat} {s i : Nat} (h : firstI x.1.bits true s = some i) : Upto c j x (i + 1) = Upto c j x s ++ [addr c.size x.2 i] := by
  unfold Upto
  rw [truesTo_step h]; simp
theorem upto_end {c : CA} {j : Nat} {x : BM × Nat} {s : Nat} (hx : c.pg[j]? = some x) (h : firstI x.1.bits true s = none) : Upto c j x s = usedTo c (j + 1) := by
  unfold Upto
  rw [truesTo_end h, usedTo_succ c j x hx]; rfl
def isrtA (a : Nat) : Array Value := #[.int .i64 (a : Int)]
/-- Where a page begins, as Go's int. -/
def pgv (p : Nat) : Int := ((1024 * p : Nat) : Int)
/-- While a page is gone through: the iterator's blocks are as they were, block g holds the page. -/
structure PIn (c : CA) (bc : Nat) (W wr : World) (g : Nat) (y : BM × Nat) : Prop where
  size : W.heap.size ≤ wr.heap.size
  kept : ∀ b, placesFP c bc b → wr.heap[b]? = W.heap[b]?
  box : Cells wr g 231 [.pointer (some ⟨y.1.b, 0, none⟩), .int .i64 (pgv y.2)]
theorem PIn.facts {c : CA} {bc : Nat} {W wr : World} {g : Nat} {y : BM × Nat} (p : PIn c bc W wr g y) (hbc : Cells W bc 124 [.pointer (some ⟨c.c, 0, none⟩)]) :
    wr.cell? ⟨bc, 0, none⟩ = some (.pointer (some ⟨c.c, 0, none⟩)) ∧ wr.cell? ⟨g, 0, none⟩ = some (.pointer (some ⟨y.1.b, 0, none⟩)) ∧ wr.cell? ⟨g, 1, none⟩ = some (.int .i64 (pgv y.2)) :=
  ⟨(hbc.same (p.kept bc (.inr (.inr rfl)))).cell 0 _ rfl, p.box.cell 0 _ rfl, p.box.cell 1 _ rfl⟩
theorem PIn.sep {c : CA} {bc : Nat} {W wr : World} {g : Nat} {y : BM × Nat} (p : PIn c bc W wr g y) (h : Sep W c.hl) : Sep wr c.hl := keptSep h p.size p.kept
theorem placesFP_lt {c : CA} {bc : Nat} {W : World} (h : Sep W c.hl) (hbc : bc < W.heap.size) {b : Nat} (hb : placesFP c bc b) : b < W.heap.size := by
  rcases hb with hb | hb | rfl
  · exact Nat.lt_of_lt_of_le hb h.env.gb
  · exact h.lt hb
  · exact hbc
theorem PIn.below {c : CA} {bc : Nat} {W wr wr' : World} {g : Nat} {y : BM × Nat} (p : PIn c bc W wr g y) (h : Sep W c.hl) (hbc : bc < W.heap.size) (hb : Below wr.heap.size wr wr') : PIn c bc W wr' g y :=
  ⟨Nat.le_trans p.size hb.size, fun b hb' => (hb.block b (Nat.lt_of_lt_of_le (placesFP_lt h hbc hb') p.size)).trans (p.kept b hb'), p.box.same (hb.block g p.box.lt)⟩
theorem PIn.yield {c : CA} {bc : Nat} {W wr wr' : World} {g : Nat} {y : BM × Nat} (p : PIn c bc W wr g y) (hk : KpT (placesFP c bc) wr wr') : PIn c bc W wr' g y :=
  ⟨Nat.le_trans p.size hk.size, fun b hb' => (hk.kept b (.inl hb')).trans (p.kept b hb'), p.box.same (hk.kept g (.inr ⟨_, _, p.box⟩))⟩
theorem Tryz.infoint : (Tryz.prog.info? 3).map (fun i => (i.zero, i.size, i.bytes)) = some (some (.int .i64 0), 1, 8) := by kernel_rfl
/-- What a collecting round keeps. -/
theorem collected_kept {W w1 : World} {n₀ B b : Nat} {e : TypeId} {size k : Nat} {v v' : Value} {xs : List Value} {tmp o : Obj} (hrow : W.ownsRow n₀ e size v k xs) (hgrow : (W.alloc tmp).grownBy w1 v.ownBlock) (hb : W.heap[b]? = some o) (hbB : b ≠ B) (ho : b < n₀ ∨ ∀ cs f, o ≠ .cells cs e f) :
    (w1.setCell ⟨B, 0, none⟩ v').heap[b]? = W.heap[b]? := by
  have hlt := lt_of_block hb
  refine (Below.heap_setCell _ _ _ _ hbB).trans ((hgrow.block b (by simp; omega) ?_).trans (Below.heap_alloc _ _ _ hlt))
  intro e'
  rcases hrow.2 with ⟨rfl, _⟩ | ⟨g, cap, cur, rfl, hg, hgb, _⟩
  · cases e'
  · have : b = g := by simpa [Value.ownBlock] using e'
    subst this
    rcases ho with ho | ho
    · omega
    · rw [hgb] at hb; cases hb; exact ho _ _ rfl
def ints (l : List Nat) : List Value := l.map fun (a : Nat) => Value.int .i64 (a : Int)
/-- A new slice of these numbers. -/
def NewInts (w : World) (l : List Nat) (r : Ending) (w' : World) : Prop := ∃ v, r = .returned v ∧ w'.ownsRow w.heap.size 3 1 v l.length (ints l) ∧ Below w.heap.size w w'
end Go.Proofs.YtcnbbenmlffgpaaGreatDoor

/- The tree of factories in memory, and walks of its small methods. Conditions: the tree's blocks hold what QT.hl says. -/
namespace Go.Proofs.YtcnbbenmlffgpaaGreatDoor
open Go.RowKit

structure Fa where
  limit : Int
  charged : Int
  given : Int
  parent : Int
  kids : Int
def Fa.cells (f : Fa) : List Value := [.int .i64 f.limit, .int .i64 f.charged, .int .i64 f.given, .int .i64 f.parent, .int .i64 f.kids]
structure QT where
  t : Nat
  m : Nat
  E : List (En Fa)
  next : Int
def facH (E : List (En Fa)) : HL := E.map fun e => (e.b, isC 137 e.q.cells)
def QT.hl (q : QT) : HL := (q.t, isC 172 [.map (some q.m), .int .i64 q.next]) :: (q.m, isMI (kvs q.E)) :: facH q.E
/-- What the tree's numbers keep to. -/
structure QT.Ok (q : QT) : Prop where
  ids : q.E.Pairwise (fun a b => a.id ≠ b.id)
  next0 : 0 < q.next
  next1 : q.next < 1048576
  fa : ∀ id e, find q.E id = some e → 0 ≤ e.q.charged ∧ 0 ≤ e.q.given ∧ e.q.charged + e.q.given ≤ e.q.limit ∧ e.q.limit ≤ 1073741824 ∧ 0 ≤ e.q.kids ∧ e.q.kids < q.next ∧ 0 ≤ id ∧ id < q.next

section
variable {w : World} {q : QT}
theorem QT.c0 (h : Sep w q.hl) : w.cell? ⟨q.t, 0, none⟩ = some (.map (some q.m)) := (h.cells (T := 172) (cs := [.map (some q.m), .int .i64 q.next]) (by simp [QT.hl])).cell 0 _ rfl
theorem QT.c1 (h : Sep w q.hl) : w.cell? ⟨q.t, 1, none⟩ = some (.int .i64 q.next) := (h.cells (T := 172) (cs := [.map (some q.m), .int .i64 q.next]) (by simp [QT.hl])).cell 1 _ rfl
theorem QT.map (h : Sep w q.hl) : MapInt w q.m (kvs q.E) := h.map (by simp [QT.hl, isMI])
theorem QT.fac (h : Sep w q.hl) {id : Int} {e : En Fa} (hf : find q.E id = some e) : Cells w e.b 137 e.q.cells :=
  h.cells (by simp only [QT.hl, List.mem_cons]; exact .inr (.inr (List.mem_map.2 ⟨e, (find_mem hf).1, rfl⟩)))
theorem zero_fac (w : World) : (zeroValue 131).run Tryz.prog w = .ok (.pointer none) w := by kernel_rfl
theorem QT.look_some (h : Sep w q.hl) {id : Int} {e : En Fa} (hf : find q.E id = some e) :
    (Instr.lookup 170 (.map (some q.m)) (.int .i64 id) false).run Tryz.prog w = .ok (.pointer (some ⟨e.b, 0, none⟩)) w := by
  rw [run_lookup_int (QT.map h) id false (.pointer none) Tryz.underlying170 Tryz.underlying3 (zero_fac w)]
  simp [look_kvs, hf, ptr]
theorem QT.look_none (h : Sep w q.hl) {id : Int} (hf : find q.E id = none) :
    (Instr.lookup 170 (.map (some q.m)) (.int .i64 id) false).run Tryz.prog w = .ok (.pointer none) w := by
  rw [run_lookup_int (QT.map h) id false (.pointer none) Tryz.underlying170 Tryz.underlying3 (zero_fac w)]
  simp [look_kvs, hf]
/-- A store into one factory's struct. -/
theorem QT.setF (h : Sep w q.hl) (hids : q.E.Pairwise (fun a b => a.id ≠ b.id)) {id : Int} {e : En Fa} (hf : find q.E id = some e) (i : Nat) (v : Value) (f : Fa) (hq : e.q.cells.set i v = f.cells) :
    Step q.hl ({ q with E := upd q.E id f } : QT).hl w (w.setCell ⟨e.b, i, none⟩ v) := by
  obtain ⟨A, B, e1, e2, _⟩ := find_at hids hf
  have e3 : q.hl = ((q.t, isC 172 [.map (some q.m), .int .i64 q.next]) :: (q.m, isMI (kvs q.E)) :: facH A) ++ (e.b, isC 137 e.q.cells) :: facH B := by
    simp only [QT.hl, facH, List.cons_append]; congr 2
    conv => lhs; rw [e1]
    simp
  have e4 : ({ q with E := upd q.E id f } : QT).hl = ((q.t, isC 172 [.map (some q.m), .int .i64 q.next]) :: (q.m, isMI (kvs q.E)) :: facH A) ++ (e.b, isC 137 f.cells) :: facH B := by
    simp only [QT.hl, facH, List.cons_append, kvs_upd]; congr 2
    rw [e2]
    simp
  rw [e4, ← hq]
  rw [e3] at h ⊢
  exact h.set i v
end

set_option maxHeartbeats 400000 in
theorem qat_some {w : World} {q : QT} (h : Sep w q.hl) {id : Int} {e : En Fa} (hf : find q.E id = some e) :
    Calls Tryz.prog 74 #[ptr q.t, .int .i64 id] w fun r w' => r = .returned (.tuple #[ptr e.b, .int .i64 0]) ∧ w = w' := by
  have h0 := QT.c0 h
  have hl := QT.look_some h hf
  clear h hf
  unfold ptr
  go_enter Tryz.func74, Tryz.ntmps74
  go_wp2
  go_ret2
  exact ⟨rfl, rfl⟩
set_option maxHeartbeats 400000 in
theorem qat_none {w : World} {q : QT} (h : Sep w q.hl) {id : Int} (hf : find q.E id = none) :
    Calls Tryz.prog 74 #[ptr q.t, .int .i64 id] w fun r w' => r = .returned (.tuple #[.pointer none, .int .i64 6]) ∧ w = w' := by
  have h0 := QT.c0 h
  have hl := QT.look_none h hf
  clear h hf
  unfold ptr
  go_enter Tryz.func74, Tryz.ntmps74
  go_wp2
  go_ret2
  exact ⟨rfl, rfl⟩
set_option maxHeartbeats 400000 in
theorem qsum_any {w : World} {g : Nat} {a b : Int} (h0 : w.cell? ⟨g, 0, none⟩ = some (.int .i64 a)) (h1 : w.cell? ⟨g, 1, none⟩ = some (.int .i64 b)) (ha : 0 ≤ a) (hb : 0 ≤ b) (hs : a + b ≤ 1073741824) :
    Calls Tryz.prog 118 #[.slice (some ⟨g, 0, none⟩) 2 2] w fun r w' => r = .returned (.int .i64 (a + b)) ∧ w = w' := by
  go_enter Tryz.func118, Tryz.ntmps118
  go_wp2_with fail
  go_loop [3, 8] (fun nv iv => (nv = .int .i64 0 ∧ iv = .int .i64 0) ∨ (nv = .int .i64 a ∧ iv = .int .i64 1) ∨ (nv = .int .i64 (a + b) ∧ iv = .int .i64 2)) (fun _ iv => 2 - (intOf iv).toNat)
  case atStart => exact .inl ⟨rfl, rfl⟩
  case round =>
    rcases hrel with ⟨rfl, rfl⟩ | ⟨rfl, rfl⟩ | ⟨rfl, rfl⟩
    · go_wp2_with fail
      go_round
      case rel => exact .inr (.inl ⟨by simp, rfl⟩)
      case measure => simp [intOf]
    · go_wp2_with fail
      go_round
      case rel => exact .inr (.inr ⟨rfl, rfl⟩)
      case measure => simp [intOf]
    · go_wp2_with fail
      go_ret
      exact ⟨rfl, rfl⟩
set_option maxHeartbeats 1000000 in
theorem quse_any {w : World} {b : Nat} {f : Fa} (hc : Cells w b 137 f.cells) (h0 : 0 ≤ f.charged) (h1 : 0 ≤ f.given) (h2 : f.charged + f.given ≤ 1073741824) :
    Calls Tryz.prog 75 #[.pointer (some ⟨b, 0, none⟩)] w fun r w' => r = .returned (.int .i64 (f.charged + f.given)) ∧ Below w.heap.size w w' := by
  have c1 := hc.cell 1 _ rfl
  have c2 := hc.cell 2 _ rfl
  clear hc
  generalize f.charged = x at *
  generalize f.given = y at *
  have HS : Hid (Calls Tryz.prog 118 #[.slice (some ⟨w.heap.size, 0, none⟩) 2 2] (w.alloc (.cells #[.int .i64 x, .int .i64 y] 3)).drew fun r w' => r = .returned (.int .i64 (x + y)) ∧ (w.alloc (.cells #[.int .i64 x, .int .i64 y] 3)).drew = w') :=
    qsum_any ((Cells.new w 3 [.int .i64 x, .int .i64 y]).cell 0 _ rfl) ((Cells.new w 3 [.int .i64 x, .int .i64 y]).cell 1 _ rfl) h0 h1 h2
  have HB : Hid (∀ o : Obj, Below w.heap.size w (w.alloc o).drew) := fun o => ((Below.refl _ _).alloc (Nat.le_refl _) o).drew
  have d1 : w.drew.cell? ⟨b, 1, none⟩ = some (.int .i64 x) := c1
  have d2 : w.drew.cell? ⟨b, 2, none⟩ = some (.int .i64 y) := c2
  go_enter Tryz.func75, Tryz.ntmps75
  go_wp2_with fail
  go_region_held3 (fun w' => w'.cell? ⟨b, 1, none⟩ = some (.int .i64 x) ∧ w'.cell? ⟨b, 2, none⟩ = some (.int .i64 y)) (first | exact ⟨c1, c2⟩ | exact ⟨d1, d2⟩ | go_keep)
    (first | (go_at_call 118; refine HS.out.mono ?_; rintro e w' ⟨rfl, rfl⟩))
  go_wp2_with fail
  go_ret
  exact ⟨rfl, HB.out _⟩
set_option maxHeartbeats 1000000 in
theorem qfits_any {w : World} {b : Nat} {f : Fa} (hc : Cells w b 137 f.cells) (h0 : 0 ≤ f.charged) (h1 : 0 ≤ f.given) (h2 : f.charged + f.given ≤ f.limit) (h3 : f.limit ≤ 1073741824) (n : Int) :
    Calls Tryz.prog 149 #[.pointer (some ⟨b, 0, none⟩), .int .i64 n] w fun r w' => r = .returned (.bool (decide (n ≤ f.limit - (f.charged + f.given)))) ∧ Below w.heap.size w w' := by
  have c0 := hc.cell 0 _ rfl
  have k1 : Hid (Calls Tryz.prog 75 #[.pointer (some ⟨b, 0, none⟩)] w.drew fun r w' => r = .returned (.int .i64 (f.charged + f.given)) ∧ Below w.heap.size w.drew w') := quse_any (w := w.drew) hc h0 h1 (by omega)
  have hlt := hc.lt
  have HN : Hid (∀ w', Below w.heap.size w.drew w' → Below w.heap.size w w' ∧ w'.cell? ⟨b, 0, none⟩ = some (.int .i64 f.limit)) := by
    intro w' hb
    have hb2 : Below w.heap.size w w' := ((Below.refl _ _).drew).trans hb
    exact ⟨hb2, (hb2.cell (p := ⟨b, 0, none⟩) hlt).trans c0⟩
  have hs0 : 0 ≤ f.charged + f.given := by omega
  clear hc
  generalize f.limit = l at *
  generalize f.charged + f.given = u at *
  have d0 : w.drew.cell? ⟨b, 0, none⟩ = some (.int .i64 l) := c0
  have hw : IntKind.i64.wrap (l - u) = l - u := Go.IntWalk.i64_in _ (by omega)
  clear h0 h1 h2 h3 hs0
  go_enter Tryz.func149, Tryz.ntmps149
  go_wp2_with fail
  go_region_held3 (fun w' => w'.cell? ⟨b, 0, none⟩ = some (.int .i64 l)) (first | exact c0 | exact d0 | exact d1)
    (first | (go_at_call 75; refine k1.out.mono ?_; rintro e w1 ⟨rfl, hb⟩; obtain ⟨hb1, d1⟩ := HN.out _ hb; clear hb))
  go_wp2_with fail
  go_ret
  exact ⟨rfl, hb1⟩
end Go.Proofs.YtcnbbenmlffgpaaGreatDoor

/- Walks of the tree's methods: charge, refund, and what is read. Conditions: the tree's blocks hold what QT.hl says. -/
namespace Go.Proofs.YtcnbbenmlffgpaaGreatDoor
open Go.RowKit

section
variable {w : World} {q : QT} {id : Int} {e : En Fa}
theorem QT.fac0 (h : Sep w q.hl) (hf : find q.E id = some e) : w.cell? ⟨e.b, 0, none⟩ = some (.int .i64 e.q.limit) ∧ w.cell? ⟨e.b, 1, none⟩ = some (.int .i64 e.q.charged) ∧ w.cell? ⟨e.b, 2, none⟩ = some (.int .i64 e.q.given) ∧ w.cell? ⟨e.b, 3, none⟩ = some (.int .i64 e.q.parent) ∧ w.cell? ⟨e.b, 4, none⟩ = some (.int .i64 e.q.kids) ∧ ∀ i, w.frozen? ⟨e.b, i, none⟩ = false := by
  have k := QT.fac h hf
  exact ⟨k.cell 0 _ rfl, k.cell 1 _ rfl, k.cell 2 _ rfl, k.cell 3 _ rfl, k.cell 4 _ rfl, k.free⟩
end
set_option maxHeartbeats 400000 in
theorem qlimit_some {w : World} {q : QT} (h : Sep w q.hl) {id : Int} {e : En Fa} (hf : find q.E id = some e) :
    Calls Tryz.prog 27 #[ptr q.t, .int .i64 id] w fun r w' => r = .returned (.int .i64 e.q.limit) ∧ w = w' := by
  have k1 := qat_some h hf
  have c0 := QT.fac0 h hf
  obtain ⟨c0, c1, c2, c3, c4, -⟩ := c0
  clear h hf
  unfold ptr at *
  go_enter Tryz.func27, Tryz.ntmps27
  go_wp2_with (go_at_call 74; refine k1.mono ?_; rintro e w' ⟨rfl, rfl⟩)
  go_ret
  exact ⟨rfl, rfl⟩
set_option maxHeartbeats 400000 in
theorem qlimit_none {w : World} {q : QT} (h : Sep w q.hl) {id : Int} (hf : find q.E id = none) :
    Calls Tryz.prog 27 #[ptr q.t, .int .i64 id] w fun r w' => r = .returned (.int .i64 0) ∧ w = w' := by
  have k1 := qat_none h hf
  clear h hf
  unfold ptr at *
  go_enter Tryz.func27, Tryz.ntmps27
  go_wp2_with (go_at_call 74; refine k1.mono ?_; rintro e w' ⟨rfl, rfl⟩)
  go_ret
  exact ⟨rfl, rfl⟩
set_option maxHeartbeats 400000 in
theorem qparent_some {w : World} {q : QT} (h : Sep w q.hl) {id : Int} {e : En Fa} (hf : find q.E id = some e) :
    Calls Tryz.prog 51 #[ptr q.t, .int .i64 id] w fun r w' => r = .returned (.int .i64 e.q.parent) ∧ w = w' := by
  have k1 := qat_some h hf
  have c0 := QT.fac0 h hf
  obtain ⟨c0, c1, c2, c3, c4, -⟩ := c0
  clear h hf
  unfold ptr at *
  go_enter Tryz.func51, Tryz.ntmps51
  go_wp2_with (go_at_call 74; refine k1.mono ?_; rintro e w' ⟨rfl, rfl⟩)
  go_ret
  exact ⟨rfl, rfl⟩
set_option maxHeartbeats 400000 in
theorem qparent_none {w : World} {q : QT} (h : Sep w q.hl) {id : Int} (hf : find q.E id = none) :
    Calls Tryz.prog 51 #[ptr q.t, .int .i64 id] w fun r w' => r = .returned (.int .i64 (-1)) ∧ w = w' := by
  have k1 := qat_none h hf
  clear h hf
  unfold ptr at *
  go_enter Tryz.func51, Tryz.ntmps51
  go_wp2_with (go_at_call 74; refine k1.mono ?_; rintro e w' ⟨rfl, rfl⟩)
  go_ret
  exact ⟨rfl, rfl⟩
set_option maxHeartbeats 400000 in
theorem quse_some {w : World} {q : QT} (h : Sep w q.hl) (ok : q.Ok) {id : Int} {e : En Fa} (hf : find q.E id = some e) :
    Calls Tryz.prog 28 #[ptr q.t, .int .i64 id] w (Told w (.int .i64 (e.q.charged + e.q.given))) := by
  have k1 := qat_some h hf
  obtain ⟨a1, a2, a3, a4, _⟩ := ok.fa id e hf
  have k2 := quse_any (QT.fac h hf) a1 a2 (by omega)
  clear h hf ok
  unfold ptr at *
  go_enter Tryz.func28, Tryz.ntmps28
  go_wp2_with (first | (go_at_call 74; refine k1.mono ?_; rintro e w' ⟨rfl, rfl⟩) | (go_at_call 75; refine k2.mono ?_; rintro e w1 ⟨rfl, hb⟩))
  go_ret
  exact ⟨rfl, hb⟩
set_option maxHeartbeats 400000 in
theorem quse_none {w : World} {q : QT} (h : Sep w q.hl) {id : Int} (hf : find q.E id = none) :
    Calls Tryz.prog 28 #[ptr q.t, .int .i64 id] w fun r w' => r = .returned (.int .i64 0) ∧ w = w' := by
  have k1 := qat_none h hf
  clear h hf
  unfold ptr at *
  go_enter Tryz.func28, Tryz.ntmps28
  go_wp2_with (go_at_call 74; refine k1.mono ?_; rintro e w' ⟨rfl, rfl⟩)
  go_ret
  exact ⟨rfl, rfl⟩
/-! Charge. -/
set_option maxHeartbeats 400000 in
theorem qcharge_none {w : World} {q : QT} (h : Sep w q.hl) {id : Int} (hf : find q.E id = none) (n : Int) :
    Calls Tryz.prog 100 #[ptr q.t, .int .i64 id, .int .i64 n] w fun r w' => r = .returned (.int .i64 6) ∧ w = w' := by
  have k1 := qat_none h hf
  clear h hf
  unfold ptr at *
  go_enter Tryz.func100, Tryz.ntmps100
  go_wp2_with (go_at_call 74; refine k1.mono ?_; rintro e w' ⟨rfl, rfl⟩)
  go_ret
  exact ⟨rfl, rfl⟩
set_option maxHeartbeats 1000000 in
theorem qcharge_quota {w : World} {q : QT} (h : Sep w q.hl) (ok : q.Ok) {id : Int} {e : En Fa} (hf : find q.E id = some e) (n : Int) (hn : 0 ≤ n) (hq : e.q.limit - (e.q.charged + e.q.given) < n) :
    Calls Tryz.prog 100 #[ptr q.t, .int .i64 id, .int .i64 n] w (Told w (.int .i64 5)) := by
  have k1 := qat_some h hf
  obtain ⟨a1, a2, a3, a4, _⟩ := ok.fa id e hf
  have k2 := qfits_any (QT.fac h hf) a1 a2 a3 a4 n
  have hd : decide (n ≤ e.q.limit - (e.q.charged + e.q.given)) = false := by simp; omega
  rw [hd] at k2
  clear h hf ok hd
  unfold ptr at *
  go_enter Tryz.func100, Tryz.ntmps100
  go_wp2_with (first | (go_at_call 74; refine k1.mono ?_; rintro e w' ⟨rfl, rfl⟩) | (go_at_call 149; refine k2.mono ?_; rintro e w1 ⟨rfl, hb⟩))
  go_ret
  exact ⟨rfl, hb⟩
def Charged_ (w : World) (q : QT) (id : Int) (f : Fa) (r : Ending) (w' : World) : Prop := r = .returned (.int .i64 0) ∧ Step q.hl ({ q with E := upd q.E id f } : QT).hl w w'
set_option maxHeartbeats 1000000 in
theorem qcharge_ok {w : World} {q : QT} (h : Sep w q.hl) (ok : q.Ok) {id : Int} {e : En Fa} (hf : find q.E id = some e) (n : Int) (hn : 0 ≤ n) (hq : n ≤ e.q.limit - (e.q.charged + e.q.given)) :
    Calls Tryz.prog 100 #[ptr q.t, .int .i64 id, .int .i64 n] w (Charged_ w q id { e.q with charged := e.q.charged + n }) := by
  have k1 := qat_some h hf
  obtain ⟨a1, a2, a3, a4, _⟩ := ok.fa id e hf
  have k2 := qfits_any (QT.fac h hf) a1 a2 a3 a4 n
  have hd : decide (n ≤ e.q.limit - (e.q.charged + e.q.given)) = true := by simp; omega
  rw [hd] at k2
  have HN : Hid (∀ w1, Below w.heap.size w w1 → w1.cell? ⟨e.b, 1, none⟩ = some (.int .i64 e.q.charged) ∧ w1.frozen? ⟨e.b, 1, none⟩ = false ∧ Charged_ w q id { e.q with charged := e.q.charged + n } (.returned (.int .i64 0)) (w1.setCell ⟨e.b, 1, none⟩ (.int .i64 (e.q.charged + n)))) := by
    intro w1 hb
    have hs := h.grown hb
    obtain ⟨_, c1, _, _, _, cf⟩ := QT.fac0 hs.sep hf
    exact ⟨c1, cf 1, rfl, hs.trans (QT.setF hs.sep ok.ids hf 1 _ { e.q with charged := e.q.charged + n } rfl)⟩
  clear h hf ok hd
  unfold ptr at *
  go_enter Tryz.func100, Tryz.ntmps100
  go_wp2_with (first | (go_at_call 74; refine k1.mono ?_; rintro e w' ⟨rfl, rfl⟩) | (go_at_call 149; refine k2.mono ?_; rintro e w1 ⟨rfl, hb⟩; obtain ⟨d1, d2, hfin⟩ := HN.out w1 hb; have HFin := hidden hfin; clear hfin hb))
  go_ret
  exact HFin.out
/-! Refund. -/
set_option maxHeartbeats 400000 in
theorem qrefund_none {w : World} {q : QT} (h : Sep w q.hl) {id : Int} (hf : find q.E id = none) (n : Int) :
    Calls Tryz.prog 102 #[ptr q.t, .int .i64 id, .int .i64 n] w fun r w' => r = .returned (.int .i64 6) ∧ w = w' := by
  have k1 := qat_none h hf
  clear h hf
  unfold ptr at *
  go_enter Tryz.func102, Tryz.ntmps102
  go_wp2_with (go_at_call 74; refine k1.mono ?_; rintro e w' ⟨rfl, rfl⟩)
  go_ret
  exact ⟨rfl, rfl⟩
set_option maxHeartbeats 400000 in
theorem qrefund_arg {w : World} {q : QT} (h : Sep w q.hl) {id : Int} {e : En Fa} (hf : find q.E id = some e) (n : Int) (hn : 0 ≤ n) (hq : e.q.charged < n) :
    Calls Tryz.prog 102 #[ptr q.t, .int .i64 id, .int .i64 n] w fun r w' => r = .returned (.int .i64 1) ∧ w = w' := by
  have k1 := qat_some h hf
  obtain ⟨_, c1, _⟩ := QT.fac0 h hf
  have hd : decide (e.q.charged < n) = true := by simpa using hq
  clear h hf
  generalize e.q.charged = x at *
  unfold ptr at *
  go_enter Tryz.func102, Tryz.ntmps102
  go_wp2_with (go_at_call 74; refine k1.mono ?_; rintro e w' ⟨rfl, rfl⟩)
  go_ret
  exact ⟨rfl, rfl⟩
set_option maxHeartbeats 400000 in
theorem qrefund_ok {w : World} {q : QT} (h : Sep w q.hl) (ok : q.Ok) {id : Int} {e : En Fa} (hf : find q.E id = some e) (n : Int) (hn : 0 ≤ n) (hq : n ≤ e.q.charged) :
    Calls Tryz.prog 102 #[ptr q.t, .int .i64 id, .int .i64 n] w (Charged_ w q id { e.q with charged := e.q.charged - n }) := by
  have k1 := qat_some h hf
  obtain ⟨a1, a2, a3, a4, _⟩ := ok.fa id e hf
  obtain ⟨_, c1, _, _, _, cf⟩ := QT.fac0 h hf
  have cf1 := cf 1
  have HR : Hid (Charged_ w q id { e.q with charged := e.q.charged - n } (.returned (.int .i64 0)) (w.setCell ⟨e.b, 1, none⟩ (.int .i64 (e.q.charged - n)))) :=
    ⟨rfl, QT.setF h ok.ids hf 1 _ { e.q with charged := e.q.charged - n } rfl⟩
  have hd : decide (e.q.charged < n) = false := by simp; omega
  clear h hf ok cf
  generalize hx : e.q.charged = x at *
  clear hx
  unfold ptr at *
  go_enter Tryz.func102, Tryz.ntmps102
  go_wp2_with (go_at_call 74; refine k1.mono ?_; rintro e w' ⟨rfl, rfl⟩)
  go_ret
  exact HR.out
end Go.Proofs.YtcnbbenmlffgpaaGreatDoor

/- Bytes in a row: putting some, words of eight. Plain lists. No condition. -/
namespace Go.Proofs.YtcnbbenmlffgpaaGreatDoor

def put_ (m : List Nat) (at_ : Nat) (bs : List Nat) : List Nat := m.take at_ ++ bs ++ m.drop (at_ + bs.length)
theorem put_len (m : List Nat) (at_ : Nat) (bs : List Nat) (h : at_ + bs.length ≤ m.length) : (put_ m at_ bs).length = m.length := by
  unfold put_; simp; omega
theorem put_nil (m : List Nat) (at_ : Nat) : put_ m at_ [] = m := by simp [put_]
theorem put_get (m : List Nat) (at_ : Nat) (bs : List Nat) (h : at_ + bs.length ≤ m.length) (i : Nat) : (put_ m at_ bs)[i]? = if i < at_ then m[i]? else if i < at_ + bs.length then bs[i - at_]? else m[i]? := by
  unfold put_
  by_cases h1 : i < at_
  · rw [if_pos h1, List.append_assoc, List.getElem?_append_left (by simp; omega), List.getElem?_take, if_pos h1]
  · rw [if_neg h1]
    by_cases h2 : i < at_ + bs.length
    · rw [if_pos h2, List.getElem?_append_left (by simp; omega), List.getElem?_append_right (by simp; omega)]
      congr 1; simp; omega
    · rw [if_neg h2, List.getElem?_append_right (by simp; omega), List.getElem?_drop]
      congr 1; simp; omega
theorem put_step (m : List Nat) (at_ : Nat) (bs : List Nat) (k : Nat) (hk : k < bs.length) (h : at_ + bs.length ≤ m.length) : (put_ m at_ (bs.take k)).set (at_ + k) (bs[k]?.getD 0) = put_ m at_ (bs.take (k + 1)) := by
  have l1 : (bs.take k).length = k := by simp; omega
  have l2 : (bs.take (k + 1)).length = k + 1 := by simp; omega
  apply List.ext_getElem?
  intro i
  rw [List.getElem?_set, put_get _ _ _ (by rw [l1]; omega), put_get _ _ _ (by rw [l2]; omega), put_len _ _ _ (by rw [l1]; omega), l1, l2]
  by_cases h1 : at_ + k = i
  · subst h1
    have h2 : ¬ at_ + k < at_ := by omega
    have h3 : at_ + k < at_ + (k + 1) := by omega
    have h4 : at_ + k < m.length := by omega
    simp only [if_true, h4, h2, if_false, h3, Nat.add_sub_cancel_left]
    rw [List.getElem?_take, if_pos (by omega), List.getElem?_eq_getElem hk]; rfl
  · rw [if_neg h1]
    by_cases h2 : i < at_
    · simp [h2]
    · simp only [h2, if_false]
      by_cases h3 : i < at_ + k
      · have h4 : i < at_ + (k + 1) := by omega
        simp only [h3, h4, if_true]
        rw [List.getElem?_take, List.getElem?_take, if_pos (by omega), if_pos (by omega)]
      · have h4 : ¬ i < at_ + (k + 1) := by omega
        simp only [h3, h4, if_false]
/-- The number of bytes, the least first. -/
def leN : List Nat → Nat
  | [] => 0
  | b :: r => b + 256 * leN r
theorem leN_snoc (l : List Nat) (b : Nat) : leN (l ++ [b]) = leN l + 256 ^ l.length * b := by
  induction l with
  | nil => simp [leN]
  | cons x r ih => simp only [List.cons_append, leN, ih, List.length_cons, Nat.pow_succ]; rw [Nat.mul_add, Nat.add_assoc, ← Nat.mul_assoc, Nat.mul_comm (256 ^ r.length) 256]
theorem leN_lt (l : List Nat) (h : ∀ b ∈ l, b < 256) : leN l < 256 ^ l.length := by
  induction l with
  | nil => simp [leN]
  | cons x r ih =>
    have h1 := h x (by simp)
    have h2 := ih (fun b hb => h b (by simp [hb]))
    simp only [leN, List.length_cons, Nat.pow_succ]; omega
def bytes8 (x : Nat) : List Nat := [x % 256, x / 256 % 256, x / 65536 % 256, x / 16777216 % 256, x / 4294967296 % 256, x / 1099511627776 % 256, x / 281474976710656 % 256, x / 72057594037927936 % 256]
theorem leN_bytes8 (x : Nat) (h : x < 18446744073709551616) : leN (bytes8 x) = x := by
  simp only [bytes8, leN]; omega
theorem or_byte (x b k : Nat) (hx : x < 2 ^ (8 * k)) : x ||| b * 2 ^ (8 * k) = x + 256 ^ k * b := by
  rw [Nat.or_comm, Nat.mul_comm b, ← Nat.two_pow_add_eq_or_of_lt hx, Nat.add_comm, show (256 : Nat) ^ k = 2 ^ (8 * k) from by rw [Nat.pow_mul]]
end Go.Proofs.YtcnbbenmlffgpaaGreatDoor
