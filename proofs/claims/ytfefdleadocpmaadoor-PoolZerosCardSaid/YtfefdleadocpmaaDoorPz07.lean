/- PoolZeros returns true at every input, with the three listed tables tied to the program's text. No condition. Part of its proof. -/
import Derived.RangeFuncNested
import Derived.RangeFuncBound
import Derived.RangeFuncCalls
import Derived.RangeFuncLeaves
import Derived.RangeFuncOne
import Derived.RangeFuncBox
import Derived.Maps.AppendAt
import Derived.Shelf.Abstract
import Derived.Shelf.RegionOpen
import Derived.OwnWalkIn
import Derived.TacticsInMore
import Derived.LoopNIn
import Derived.LoopIn
import Derived.Sort.LoopGhostIn
import Derived.Test.YtfefdleadocpmaaDoorPz04
import Derived.Test.YtfefdleadocpmaaDoorPz06
import Derived.Test.YtfefdleadocpmaaDoorPz02
import Derived.Deep.RegionHeld3
import Derived.IntWalk
import Derived.Test.YtfefdleadocpmaaDoorPz01
/- Walks of a cache's places, an iterator, and of Used. Conditions: the blocks hold what CA.hl says. -/
namespace Go.Proofs.YtfefdleadocpmaaDoor
open Go.RowKit Go.Shelf
attribute [local go_sem] Oper.semAt_some

/-- The numbers below s of the bits that are on. -/
def truesTo (bits : List Bool) (s : Nat) : List Nat := (trues bits).filter fun i => decide (i < s)
theorem truesTo_zero (bits : List Bool) : truesTo bits 0 = [] := by simp [truesTo]
theorem filter_sorted_split {l : List Nat} (hs : l.Pairwise (· < ·)) {s i : Nat} (hi : i ∈ l) (hsi : s ≤ i) (hno : ∀ j ∈ l, s ≤ j → i ≤ j) : l.filter (fun j => decide (j < i + 1)) = l.filter (fun j => decide (j < s)) ++ [i] := by
  induction l with
  | nil => cases hi
  | cons a r ih =>
    obtain ⟨h1, h2⟩ := List.pairwise_cons.1 hs
    rcases List.mem_cons.1 hi with rfl | hi'
    · have e1 : r.filter (fun j => decide (j < i + 1)) = [] := by
        rw [List.filter_eq_nil_iff]; intro j hj; have := h1 j hj; simp; omega
      have e2 : r.filter (fun j => decide (j < s)) = [] := by
        rw [List.filter_eq_nil_iff]; intro j hj; have := h1 j hj; simp; omega
      rw [List.filter_cons_of_pos (by simp), List.filter_cons_of_neg (by simp; omega), e1, e2]; rfl
    · have hai := h1 i hi'
      have hlt : a < s := by
        rcases Nat.lt_or_ge a s with e | e
        · exact e
        · have := hno a (by simp) e; omega
      rw [List.filter_cons_of_pos (by simp; omega), List.filter_cons_of_pos (by simp; omega), ih h2 hi' (fun j hj hsj => hno j (by simp [hj]) hsj)]; rfl
theorem truesTo_step {bits : List Bool} {s i : Nat} (h : firstI bits true s = some i) : truesTo bits (i + 1) = truesTo bits s ++ [i] := by
  obtain ⟨h1, h2, h3, h4⟩ := firstI_spec h
  refine filter_sorted_split (trues_sorted bits) (mem_trues.2 h3) h2 fun j hj hsj => ?_
  rcases Nat.lt_or_ge j i with e | e
  · exact absurd (mem_trues.1 hj) (h4 j hsj e)
  · exact e
theorem truesTo_end {bits : List Bool} {s : Nat} (h : firstI bits true s = none) : truesTo bits s = trues bits := by
  have h1 := firstI_no h
  unfold truesTo
  rw [List.filter_eq_self]
  intro j hj
  have hj' := mem_trues.1 hj
  have hl : j < bits.length := by
    rcases Nat.lt_or_ge j bits.length with e | e
    · exact e
    · rw [List.getElem?_eq_none e] at hj'; cases hj'
  rcases Nat.lt_or_ge j s with e | e
  · simpa using e
  · exact absurd hj' (h1 j e hl)
def usedTo (c : CA) (k : Nat) : List Nat := (c.pg.take k).flatMap (usedPg c.size)
theorem usedTo_succ (c : CA) (k : Nat) (x : BM × Nat) (hx : c.pg[k]? = some x) : usedTo c (k + 1) = usedTo c k ++ usedPg c.size x := by
  unfold usedTo
  have hk := List.getElem?_eq_some_iff.1 hx
  rw [List.take_succ_eq_append_getElem hk.1, List.flatMap_append, hk.2]
  simp
theorem usedTo_all (c : CA) : usedTo c c.pg.length = c.used := by simp [usedTo, CA.used]
/-- Blocks FP, and those that hold a page's struct, stay. -/
structure KpT (FP : Nat → Prop) (W W' : World) : Prop where
  size : W.heap.size ≤ W'.heap.size
  kept : ∀ b, (FP b ∨ ∃ cs f, W.heap[b]? = some (.cells cs 105 f)) → W'.heap[b]? = W.heap[b]?
theorem KpT.trans {FP : Nat → Prop} {A B C : World} (h : KpT FP A B) (k : KpT FP B C) : KpT FP A C := ⟨Nat.le_trans h.size k.size, fun b hb => by
  have e := h.kept b hb
  refine (k.kept b ?_).trans e
  rcases hb with hb | ⟨cs, f, hb⟩
  · exact .inl hb
  · exact .inr ⟨cs, f, e.trans hb⟩⟩
theorem lift_in {F : Fence} (hF : Hid (F = Fence.wide)) {n : Nat} {P : Program} {f : Nat} {a : Array Value} {w : World} {R : Ending → World → Prop} (h : Calls P f a w R) : CallsIn F n P f a w R := by
  rw [hF.out]; exact (callsIn_wide (n := n)).2 h
/-- What the iterator's blocks are. -/
def placesFP (c : CA) (bc : Nat) : Nat → Prop := fun b => b < GB ∨ b ∈ keys c.hl ∨ b = bc
theorem keptSep {c : CA} {bc : Nat} {W W' : World} (h : Sep W c.hl) (hs : W.heap.size ≤ W'.heap.size) (hk : ∀ b, placesFP c bc b → W'.heap[b]? = W.heap[b]?) : Sep W' c.hl :=
  h.same (fun b hb => hk b (.inr (.inl hb))) (h.env.same (fun b hb => hk b (.inl hb)) (Nat.le_trans h.env.gb hs))
theorem grown_of_below {w w' : World} (h : Below w.heap.size w w') : w.grownBy w' none := ⟨h.os, h.tape, h.output, h.size, fun k hk _ => h.block k hk⟩
theorem usedPg_len {c : CA} (ok : c.Ok) {x : BM × Nat} (hx : x ∈ c.pg) : (usedPg c.size x).length ≤ 60 ∧ x.1.bits.length ≤ 60 := by
  have h1 : x.1.bits.length ≤ 60 := by
    rw [ok.many x hx]
    have := ok.s0
    exact Nat.le_trans (Nat.div_le_div_left this (by omega)) (by omega)
  refine ⟨?_, h1⟩
  unfold usedPg trues
  rw [List.length_map]
  exact Nat.le_trans (List.length_filter_le _ _) (by simpa using h1)
theorem usedTo_len {c : CA} (ok : c.Ok) : ∀ k, (usedTo c k).length ≤ 60 * k
  | 0 => by simp [usedTo]
  | k + 1 => by
    have ih := usedTo_len ok k
    rcases Nat.lt_or_ge k c.pg.length with h | h
    · rw [usedTo_succ c k _ (List.getElem?_eq_getElem h), List.length_append]
      have := (usedPg_len ok (List.getElem_mem h)).1
      omega
    · have e : usedTo c (k + 1) = usedTo c k := by
        unfold usedTo
        rw [List.take_of_length_le (by omega), List.take_of_length_le (by omega)]
      rw [e]; omega
theorem truesTo_len {bits : List Bool} (h : bits.length ≤ 60) (s : Nat) : (truesTo bits s).length ≤ 60 := by
  unfold truesTo trues
  exact Nat.le_trans (List.length_filter_le _ _) (Nat.le_trans (List.length_filter_le _ _) (by simpa using h))
/-- How far the iterator is: pages before j, then the bits below s. -/
def Upto (c : CA) (j : Nat) (x : BM × Nat) (s : Nat) : List Nat := usedTo c j ++ (truesTo x.1.bits s).map (addr c.size x.2)
theorem upto_len {c : CA} (ok : c.Ok) (j : Nat) (x : BM × Nat) (hx : x ∈ c.pg) (s : Nat) : (Upto c j x s).length ≤ 60 * j + 60 := by
  unfold Upto
  have h1 := usedTo_len ok j
  have h2 := truesTo_len (usedPg_len ok hx).2 s
  rw [List.length_append, List.length_map]
  omega
theorem upto_zero (c : CA) (j : Nat) (x : BM × Nat) : Upto c j x 0 = usedTo c j := by simp [Upto, truesTo_zero]
theorem upto_step {c : CA} {j : Nat} {x : BM × Nat} {s i : Nat} (h : firstI x.1.bits true s = some i) : Upto c j x (i + 1) = Upto c j x s ++ [addr c.size x.2 i] := by
  unfold Upto
  rw [truesTo_step h]; simp
theorem upto_end {c : CA} {j : Nat} {x : BM × Nat} {s : Nat} (hx : c.pg[j]? = some x) (h : firstI x.1.bits true s = none) : Upto c j x s = usedTo c (j + 1) := by
  unfold Upto
  rw [truesTo_end h, usedTo_succ c j x hx]; rfl
def isrtA (a : Nat) : Array Value := #[.int .i64 (a : Int)]
/-- Where a page begins, as Go's int. -/
def pgv (p : Nat) : Int := ((1024 * p : Nat) : Int)
/-- While a page is gone through: the iterator's blocks are as they were, block g holds the page. -/
structure PIn (c : CA) (bc : Nat) (W wr : World) (g : Nat) (y : BM × Nat) : Prop where
  size : W.heap.size ≤ wr.heap.size
  kept : ∀ b, placesFP c bc b → wr.heap[b]? = W.heap[b]?
  box : Cells wr g 105 [.pointer (some ⟨y.1.b, 0, none⟩), .int .i64 (pgv y.2)]
theorem PIn.facts {c : CA} {bc : Nat} {W wr : World} {g : Nat} {y : BM × Nat} (p : PIn c bc W wr g y) (hbc : Cells W bc 59 [.pointer (some ⟨c.c, 0, none⟩)]) :
    wr.cell? ⟨bc, 0, none⟩ = some (.pointer (some ⟨c.c, 0, none⟩)) ∧ wr.cell? ⟨g, 0, none⟩ = some (.pointer (some ⟨y.1.b, 0, none⟩)) ∧ wr.cell? ⟨g, 1, none⟩ = some (.int .i64 (pgv y.2)) :=
  ⟨(hbc.same (p.kept bc (.inr (.inr rfl)))).cell 0 _ rfl, p.box.cell 0 _ rfl, p.box.cell 1 _ rfl⟩
theorem PIn.sep {c : CA} {bc : Nat} {W wr : World} {g : Nat} {y : BM × Nat} (p : PIn c bc W wr g y) (h : Sep W c.hl) : Sep wr c.hl := keptSep h p.size p.kept
theorem placesFP_lt {c : CA} {bc : Nat} {W : World} (h : Sep W c.hl) (hbc : bc < W.heap.size) {b : Nat} (hb : placesFP c bc b) : b < W.heap.size := by
  rcases hb with hb | hb | rfl
  · exact Nat.lt_of_lt_of_le hb h.env.gb
  · exact h.lt hb
  · exact hbc
theorem PIn.below {c : CA} {bc : Nat} {W wr wr' : World} {g : Nat} {y : BM × Nat} (p : PIn c bc W wr g y) (h : Sep W c.hl) (hbc : bc < W.heap.size) (hb : Below wr.heap.size wr wr') : PIn c bc W wr' g y :=
  ⟨Nat.le_trans p.size hb.size, fun b hb' => (hb.block b (Nat.lt_of_lt_of_le (placesFP_lt h hbc hb') p.size)).trans (p.kept b hb'), p.box.same (hb.block g p.box.lt)⟩
theorem PIn.yield {c : CA} {bc : Nat} {W wr wr' : World} {g : Nat} {y : BM × Nat} (p : PIn c bc W wr g y) (hk : KpT (placesFP c bc) wr wr') : PIn c bc W wr' g y :=
  ⟨Nat.le_trans p.size hk.size, fun b hb' => (hk.kept b (.inl hb')).trans (p.kept b hb'), p.box.same (hk.kept g (.inr ⟨_, _, p.box⟩))⟩
set_option maxHeartbeats 4000000 in
set_option maxRecDepth 100000 in
theorem places_some (F : Fence) (hF : Hid (F = Fence.wide)) (n : Nat) (hn : 1 ≤ n) (l : Nat) (c : CA) (ok : c.Ok) (bc : Nat) (J Jx : List Nat → World → Prop)
    (W : World) (h : Sep W c.hl) (hbc : Cells W bc 59 [.pointer (some ⟨c.c, 0, none⟩)])
    (hJ : AbidesFrom W.heap.size J)
    (hY : ∀ pre x W1, J pre W1 → pre.length < 62914621 → YieldAt F (n - 1) Tryd.prog l (isrtA x) W1 fun e W' =>
      (e = .returned (.bool true) ∧ J (pre ++ [x]) W' ∧ KpT (placesFP c bc) W1 W') ∨ (e = .returned (.bool false) ∧ Jx (pre ++ [x]) W'))
    (h0 : J [] W) :
    CallsIn F n Tryd.prog 67 #[.func (.yield l) #[] #[], .pointer (some ⟨bc, 0, none⟩)] W fun e W' => (∃ v, e = .returned v) ∧
      ((∃ xs, xs = c.used ∧ J xs W') ∨ (∃ pre, True ∧ Jx pre W')) := by
  have h67 : F.fn 67 := by rw [hF.out]; trivial
  have h35 : F.fn 35 := by rw [hF.out]; trivial
  have h47 : F.fn 47 := by rw [hF.out]; trivial
  have hnone : ∀ (f : FuncId), (none : Option FuncId) = some f → F.fn f := fun _ h => nomatch h
  have hro : F.round = none := by rw [hF.out]; rfl
  have hc2 := (CA.sepC h).cell 2 _ rfl
  obtain ⟨a, cp, hv, hva⟩ := slice_of ok.rv
  rw [hv] at hc2
  have k0 := hbc.cell 0 _ rfl
  have hln := ok.len
  -- the rounds' facts
  have HRow : Hid (∀ (j : Nat) (y : BM × Nat) (w1 : World), c.pg[j]? = some y → W.heap.size ≤ w1.heap.size → (∀ b, placesFP c bc b → w1.heap[b]? = W.heap[b]?) → ∃ rb, a = some ⟨rb, 0, none⟩ ∧ w1.cell? ⟨rb, j * 2, none⟩ = some (.pointer (some ⟨y.1.b, 0, none⟩)) ∧ w1.cell? ⟨rb, j * 2 + 1, none⟩ = some (.int .i64 (pgv y.2)) ∧
      Calls Tryd.prog 35 #[.pointer (some ⟨y.1.b, 0, none⟩), .bool true, .int .i64 0] (w1.alloc (.cells #[.pointer (some ⟨y.1.b, 0, none⟩), .int .i64 (pgv y.2)] 105)) fun r w' => r = .returned (.int .i64 (optI (firstI y.1.bits true 0))) ∧ (w1.alloc (.cells #[.pointer (some ⟨y.1.b, 0, none⟩), .int .i64 (pgv y.2)] 105)) = w') := fun j y w1 hy hs hk => by
    have s1 := keptSep h hs hk
    have hsr := CA.sepR s1
    obtain ⟨rb, cap, hrv⟩ := rv_some ok.rv (List.getElem?_eq_some_iff.1 hy).1
    rw [hrv] at hsr
    obtain ⟨e1, e2⟩ := pcells_get _ _ _ hy
    have hm := (usedPg_len ok (List.mem_of_getElem? hy)).2
    exact ⟨rb, hva _ _ hrv, row_cell hsr _ _ e1, row_cell hsr _ _ e2, bmfirst_any (CA.sepB (s1.alloc _) j y hy) true 0 (by omega) (by omega)⟩
  have hblt := hbc.lt
  have HRow1 : Hid (∀ (j : Nat) (y : BM × Nat) (w1 : World), c.pg[j]? = some y → W.heap.size ≤ w1.heap.size → (∀ b, placesFP c bc b → w1.heap[b]? = W.heap[b]?) → PIn c bc W (w1.alloc (.cells #[.pointer (some ⟨y.1.b, 0, none⟩), .int .i64 (pgv y.2)] 105)) w1.heap.size y) := fun j y w1 hy hs hk =>
    ⟨by simp; omega, fun b hb => (Below.heap_alloc _ _ _ (Nat.lt_of_lt_of_le (placesFP_lt h hblt hb) hs)).trans (hk b hb), Cells.new w1 105 [.pointer (some ⟨y.1.b, 0, none⟩), .int .i64 (pgv y.2)]⟩
  have HPlace : Hid (∀ (j : Nat) (y : BM × Nat) (w1 : World) (g i : Nat), c.pg[j]? = some y → PIn c bc W w1 g y → i < 64 → Calls Tryd.prog 47 #[.pointer (some ⟨c.c, 0, none⟩), .agg #[.pointer (some ⟨y.1.b, 0, none⟩), .int .i64 (pgv y.2)], .int .i64 i] w1 fun r w' => r = .returned (.int .i64 ((addr c.size y.2 i : Nat) : Int)) ∧ PIn c bc W w' g y ∧ w1.grownBy w' none) := fun j y w1 g i hy hp hi =>
    (place_any (hp.sep h) ok y.1.b y.2 i (ok.lt y (List.mem_of_getElem? hy)) hi).mono fun r w' ⟨e, hb⟩ => ⟨e, hp.below h hblt hb, grown_of_below hb⟩
  have HNext : Hid (∀ (j : Nat) (y : BM × Nat) (w1 : World) (g s : Nat), c.pg[j]? = some y → PIn c bc W w1 g y → s ≤ 60 → Calls Tryd.prog 35 #[.pointer (some ⟨y.1.b, 0, none⟩), .bool true, .int .i64 s] w1 fun r w' => r = .returned (.int .i64 (optI (firstI y.1.bits true s))) ∧ w1 = w') := fun j y w1 g s hy hp hs => by
    have hm := (usedPg_len ok (List.mem_of_getElem? hy)).2
    exact bmfirst_any (CA.sepB (hp.sep h) j y hy) true s (by omega) (by omega)
  have HFacts : Hid (∀ (y : BM × Nat) (w1 : World) (g : Nat), PIn c bc W w1 g y → w1.cell? ⟨bc, 0, none⟩ = some (.pointer (some ⟨c.c, 0, none⟩)) ∧ w1.cell? ⟨g, 0, none⟩ = some (.pointer (some ⟨y.1.b, 0, none⟩)) ∧ w1.cell? ⟨g, 1, none⟩ = some (.int .i64 (pgv y.2))) := fun y w1 g hp => hp.facts hbc
  have HJ := hidden hJ
  have HY := hidden hY
  have HOk := hidden ok
  clear h hbc hJ hY hv hva
  refine callsIn_of_wp Tryd.func67 rfl h67 ?_ hro
  simp only [Tryd.ntmps67, List.size_toArray, List.length_cons, List.length_nil, Nat.reduceAdd, Nat.reduceSub, Array.replicate_succ, Array.replicate_zero, List.push_toArray, List.append_toArray, List.nil_append, List.cons_append]
  gi_wp2
  gi_loopg [13] c.pg.length (fun gk iv wr => ∃ j : Nat, iv = .int .i64 j ∧ j + gk = c.pg.length ∧ J (usedTo c j) wr ∧ W.heap.size ≤ wr.heap.size ∧ (∀ b, placesFP c bc b → wr.heap[b]? = W.heap[b]?))
  case atStart => exact ⟨0, rfl, Nat.zero_add _, by simpa [usedTo] using h0, Nat.le_refl _, fun _ _ => rfl⟩
  case round =>
    obtain ⟨j, rfl, hjg, hJs, hsz, hkp⟩ := hrel
    have HKp := hidden hkp
    have HJs := hidden hJs
    have HJg := hidden hjg
    clear hkp hJs
    by_cases hlt : j < c.pg.length
    · obtain ⟨y, hy⟩ : ∃ y, c.pg[j]? = some y := ⟨_, List.getElem?_eq_getElem hlt⟩
      obtain ⟨rb, ha, e1, e2, hfst⟩ := HRow.out j y wr hy hsz HKp.out
      subst ha
      have hpin := HRow1.out j y wr hy hsz HKp.out
      have Hy := hidden hy
      have hcall := lift_in hF (n := n - 1) hfst
      have HJ1 : Hid (J (Upto c j y 0) (wr.alloc (.cells #[.pointer (some ⟨y.1.b, 0, none⟩), .int .i64 (pgv y.2)] 105))) := by
        have := HJ.out _ _ (wr.alloc (.cells #[.pointer (some ⟨y.1.b, 0, none⟩), .int .i64 (pgv y.2)] 105)) none HJs.out (World.grownBy_alloc wr _ none) (fun r e => by cases e)
        show J _ _
        rw [upto_zero]; exact this
      clear hy hfst hjg
      gi_wp2_with (first | (gi_at_call 35; refine hcall.mono ?_; rintro e w' ⟨rfl, rfl⟩))
      have HCall := hidden hcall
      clear hcall
      generalize hg0 : wr.heap.size = g0 at *
      generalize (wr.alloc (.cells #[.pointer (some ⟨y.1.b, 0, none⟩), .int .i64 (pgv y.2)] 105)) = w1 at *
      have hm := (usedPg_len HOk.out (List.mem_of_getElem? Hy.out)).2
      have HPin := hidden hpin
      clear hpin
      obtain ⟨go, hgo⟩ : ∃ go, go = gk := ⟨_, rfl⟩
      subst hgo
      obtain ⟨wo, hwo⟩ : ∃ wo, wo = wr := ⟨_, rfl⟩
      subst hwo
      gi_loopg [5] 61 (fun gi iv wi => ∃ s : Nat, iv = .int .i64 (optI (firstI y.1.bits true s)) ∧ s + gi = 61 ∧ J (Upto c j y s) wi ∧ PIn c bc W wi g0 y)
      case atStart => exact ⟨0, rfl, rfl, HJ1.out, HPin.out⟩
      case round =>
        clear HJ1 HPin HCall HRow HRow1 HJs HKp e1 e2 hsz h0 hc2
        obtain ⟨s, rfl, hsg, hJi, hpi⟩ := hrel
        have HJi := hidden hJi
        have HPi := hidden hpi
        clear hJi hpi
        cases hfi : firstI y.1.bits true s with
        | none =>
          have HFi := hidden hfi
          clear hfi
          rw [show optI none = -1 from rfl]
          gi_wp2
          gi_roundg (c.pg.length - (j + 1))
          case measure => have := HJg.out; omega
          case rel => exact ⟨j + 1, by go_num, by omega, by rw [← upto_end Hy.out HFi.out]; exact HJi.out, HPi.out.size, HPi.out.kept⟩
        | some i =>
          obtain ⟨hil, hsi, _, _⟩ := firstI_spec hfi
          have HFi := hidden hfi
          clear hfi
          obtain ⟨f0, f1, f2⟩ := HFacts.out y wr g0 HPi.out
          have hpl := lift_in hF (n := n - 1) (HPlace.out j y wr g0 i Hy.out HPi.out (by omega))
          have HPl := hidden hpl
          clear hpl
          have hi0 : (0 : Int) ≤ i := by omega
          have hib : (i : Int) < 60 := by omega
          rw [show optI (some i) = (i : Int) from rfl]
          have hu := upto_len HOk.out j y (List.mem_of_getElem? Hy.out) s
          have HNx : Hid (∀ w1, PIn c bc W w1 g0 y → CallsIn F (n - 1) Tryd.prog 35 #[.pointer (some ⟨y.1.b, 0, none⟩), .bool true, .int .i64 ((i : Int) + 1)] w1 fun r w' => r = .returned (.int .i64 (optI (firstI y.1.bits true (i + 1)))) ∧ w1 = w') := fun w1 hp1 => by
            have := lift_in hF (n := n - 1) (HNext.out j y w1 g0 (i + 1) Hy.out hp1 (by omega))
            rw [show ((i + 1 : Nat) : Int) = (i : Int) + 1 by omega] at this
            exact this
          gi_wp2_with fail
          refine HPl.out.mono ?_
          rintro r w3 ⟨rfl, hp3, hg3⟩
          have hj3 := HJ.out _ _ w3 none HJi.out hg3 (fun r e => by cases e)
          obtain ⟨fn, tmps, assign, body, hy, hR0⟩ := HY.out _ (addr c.size y.2 i) w3 hj3 (by omega)
          unfold isrtA at hy
          have HR := hidden hR0
          have HP3 := hidden hp3
          clear hR0 hp3 hg3 hj3
          gi_wp2_with fail
          refine HR.out.mono ?_
          rintro e W4 (⟨rfl, hj4, hk4⟩ | ⟨rfl, hx4⟩)
          · have hp4 := HP3.out.yield hk4
            obtain ⟨f0', f1', f2'⟩ := HFacts.out y W4 g0 hp4
            have hnx := HNx.out W4 hp4
            have HNx4 := hidden hnx
            have HJ4 := hidden hj4
            have HP4 := hidden hp4
            clear hnx hj4 hp4 hk4 HNx f0 f1 f2 HR hy
            gi_wp2_with fail
            refine HNx4.out.mono ?_
            rintro r w' ⟨rfl, rfl⟩
            gi_wp2_with fail
            gi_roundg (61 - (i + 1))
            case measure => omega
            case rel => exact ⟨i + 1, rfl, by omega, by rw [upto_step HFi.out]; exact HJ4.out, HP4.out⟩
          · clear HNx f0 f1 f2 HR hy
            gi_wp2_with fail
            refine bodyPost_ret (results_none rfl _ _ _) rfl ?_
            exact ⟨⟨_, rfl⟩, .inr ⟨_, trivial, hx4⟩⟩
    · obtain rfl : j = c.pg.length := by omega
      gi_wp2
      go_end0
      exact ⟨⟨_, rfl⟩, .inl ⟨_, rfl, by rw [← usedTo_all]; exact HJs.out⟩⟩
set_option maxHeartbeats 400000 in
theorem places_make (c : Nat) (w : World) : Calls Tryd.prog 45 #[.pointer (some ⟨c, 0, none⟩)] w fun r w' =>
    r = .returned (.func (.func 67) #[] #[.pointer (some ⟨w.heap.size, 0, none⟩)]) ∧ w' = w.alloc (.cells #[.pointer (some ⟨c, 0, none⟩)] 59) := by
  go_enter Tryd.func45, Tryd.ntmps45
  go_wp2
  go_ret
  exact ⟨rfl, rfl⟩
theorem places_stops (F : Fence) (hF : Hid (F = Fence.wide)) (n : Nat) (hn : 1 ≤ n) (c : CA) (ok : c.Ok) (bc : Nat) (w : World) (h : Sep w c.hl) (hbc : Cells w bc 59 [.pointer (some ⟨c.c, 0, none⟩)]) :
    SeqStopsK F n Tryd.prog 67 #[.pointer (some ⟨bc, 0, none⟩)] isrtA (KpT (placesFP c bc)) (fun xs => xs = c.used) (fun _ => True) 62914621 w := by
  intro l J Jx W hW hJ hJx hY h0
  exact places_some F hF n hn l c ok bc J Jx W ((h.grown hW).sep) (hbc.same (hW.block _ hbc.lt)) hJ hY h0
theorem Tryd.infoint : (Tryd.prog.info? 3).map (fun i => (i.zero, i.size, i.bytes)) = some (some (.int .i64 0), 1, 8) := by kernel_rfl
/-- What a collecting round keeps. -/
theorem collected_kept {W w1 : World} {n₀ B b : Nat} {e : TypeId} {size k : Nat} {v v' : Value} {xs : List Value} {tmp o : Obj} (hrow : W.ownsRow n₀ e size v k xs) (hgrow : (W.alloc tmp).grownBy w1 v.ownBlock) (hb : W.heap[b]? = some o) (hbB : b ≠ B) (ho : b < n₀ ∨ ∀ cs f, o ≠ .cells cs e f) :
    (w1.setCell ⟨B, 0, none⟩ v').heap[b]? = W.heap[b]? := by
  have hlt := lt_of_block hb
  refine (Below.heap_setCell _ _ _ _ hbB).trans ((hgrow.block b (by simp; omega) ?_).trans (Below.heap_alloc _ _ _ hlt))
  intro e'
  rcases hrow.2 with ⟨rfl, _⟩ | ⟨g, cap, cur, rfl, hg, hgb, _⟩
  · cases e'
  · have : b = g := by simpa [Value.ownBlock] using e'
    subst this
    rcases ho with ho | ho
    · omega
    · rw [hgb] at hb; cases hb; exact ho _ _ rfl
def ints (l : List Nat) : List Value := l.map fun (a : Nat) => Value.int .i64 (a : Int)
/-- A new slice of these numbers. -/
def NewInts (w : World) (l : List Nat) (r : Ending) (w' : World) : Prop := ∃ v, r = .returned v ∧ w'.ownsRow w.heap.size 3 1 v l.length (ints l) ∧ Below w.heap.size w w'
set_option maxRecDepth 100000 in
set_option maxHeartbeats 2000000 in
theorem used_in (F : Fence) (hF : Hid (F = Fence.wide)) (n : Nat) (hn : 4 ≤ n) (c : CA) (ok : c.Ok) (w : World) (h : Sep w c.hl) :
    CallsIn F n Tryd.prog 28 #[.pointer (some ⟨c.c, 0, none⟩)] w (NewInts w c.used) := by
  have h28 : F.fn 28 := by rw [hF.out]; trivial
  have h45 : F.fn 45 := by rw [hF.out]; trivial
  have h67 : F.fn 67 := by rw [hF.out]; trivial
  have hro : F.round = none := by rw [hF.out]; rfl
  have h1 : 1 ≤ n := by omega
  obtain ⟨i0, hi, hz0, hz1, hz2⟩ := info_parts Tryd.infoint
  refine callsIn_of_wp_marks Tryd.func28 rfl h28 ?_ hro
  simp only [Tryd.ntmps28, List.size_toArray, List.length_cons, List.length_nil, Nat.reduceAdd, Nat.reduceSub, Array.replicate_succ, Array.replicate_zero, List.push_toArray, List.append_toArray, List.nil_append, List.cons_append]
  gi_wp2_with (gi_at_call 45; refine (lift_in hF (places_make c.c _)).mono ?_; rintro e w' ⟨rfl, rfl⟩)
  have bO := Boxed.new w 29 (.slice none 0 0)
  have bN := Cells.new (w.alloc (.cells #[.slice none 0 0] 29)) 59 [.pointer (some ⟨c.c, 0, none⟩)]
  rw [World.size_alloc] at bN
  have hB0 : Below w.heap.size w ((w.alloc (.cells #[.slice none 0 0] 29)).alloc (.cells #[.pointer (some ⟨c.c, 0, none⟩)] 59)) := ((Below.refl _ w).alloc (Nat.le_refl _) _).alloc (by simp) _
  have hfp : ∀ b, placesFP c (w.heap.size + 1) b → b < w.heap.size ∨ b = w.heap.size + 1 := by
    rintro b (hb | hb | rfl)
    · exact .inl (Nat.lt_of_lt_of_le hb h.env.gb)
    · exact .inl (h.lt hb)
    · exact .inr rfl
  refine wpIn_rangeFunc_ownG hro h1 (gf := 67) (lb := #[.pointer (some ⟨w.heap.size + 1, 0, none⟩)]) rfl h67 (enters_of Tryd.func67 (by kernel_rfl) rfl)
    (places_stops F hF (n - 1) (by omega) c ok (w.heap.size + 1) _ ((h.alloc _).alloc _) bN) (fun h k => h.trans k)
    (fun W l o o' hl ho hc _ => ⟨by simp [World.putObj], fun b hb => World.putObj_heap_other (by
      rcases hb with hb | ⟨cs, f, hb⟩
      · have := hfp b hb; simp at hl; omega
      · rintro rfl; rw [ho] at hb; cases hb; cases hc)⟩) (Below.refl _ _) (fun _ => rfl)
    (fun pre W => (∃ v, Boxed W w.heap.size 29 v ∧ W.ownsRow w.heap.size 3 1 v pre.length (ints pre) ∧ True) ∧ (Below w.heap.size w W ∧ Cells W (w.heap.size + 1) 59 [.pointer (some ⟨c.c, 0, none⟩)]))
    (fun _ _ _ => False)
    (OwnFrom.and (Own.from (holdsRow_own w.heap.size w.heap.size 29 3 1 (fun pre => pre.length) (fun pre => ints pre) (fun pre v => True)) _) (OwnFrom.and (ownFrom_below (Nat.le_refl _) (by simp; omega)) (fun s A B row hs hg hr => hs.same (hg.block _ hs.lt (fun e => by obtain ⟨_, o, ho, hc⟩ := hr _ e.symm; rw [show A.heap[w.heap.size + 1]? = _ from hs] at ho; cases ho; cases hc)))))
    (fun _ _ _ _ _ hs _ _ => hs)
    ⟨⟨_, bO.alloc _, World.ownsRow_nil _ _ _ _, trivial⟩, hB0, bN⟩
    (fun x => { tmps := #[.pointer (some ⟨c.c, 0, none⟩), undef, .slice none 0 0, .pointer (some ⟨w.heap.size, 0, none⟩), .int .i64 x, .pointer (some ⟨c.c, 0, none⟩), .func (.func 67) #[] #[.pointer (some ⟨w.heap.size + 1, 0, none⟩)], .int .i64 x, undef, undef, undef, undef, undef], defers := [] }) ?assign ?body ?done ?stop
  case assign =>
    intro l x W K hK
    unfold isrtA
    gi_wp2
    exact hK
  case body =>
    rintro l pre x W ⟨⟨v, hv, hrow, _⟩, hB, hN⟩ hlt
    have hc := hv.cell
    gi_wp2_with (gi_at_builtin; refine wpListIn_append_own _ rfl _ _ 29 rfl w.heap.size 3 i0 (.int .i64 0) 1 8 Tryd.underlying29 hi hz0 hz1 hz2 rfl (by decide) _ _ _ rfl (hrow.alloc _) ⟨W.heap.size, 0, none⟩ 1 1 [.int .i64 x] rfl rfl (cell_one_new _ _ _) (by simp [Value.oneCell']) (by unfold maxLen; omega) (by omega) (by have := hB.size; simp; omega) ?_; intro v' w1 hown' hgrow _; obtain ⟨g', cap', rfl⟩ := ownsRow_succ hown'; obtain ⟨hv1, hv2, hr2, hk2, hb2⟩ := hv.appended (by decide) hrow hB.size (Nat.le_refl _) hown' hgrow; have hc1 := hv1.cell; have hf1 := hv1.frozen)
    have hkN := collected_kept (v' := .slice (some ⟨g', 0, none⟩) (pre.length + 1) cap') (B := w.heap.size) hrow hgrow hN (by omega) (.inr (by intro cs f e; cases e))
    refine ⟨hk2.from _, ⟨hb2.size, fun b hb => ?_⟩, ⟨_, hv2, by simpa [ints] using hr2, trivial⟩, hB.trans hb2, hN.same hkN⟩
    rcases hb with hb | ⟨cs, f, hb⟩
    · rcases hfp b hb with hlt' | rfl
      · exact hb2.block b hlt'
      · exact hkN
    · exact collected_kept hrow hgrow hb (by rintro rfl; rw [show W.heap[w.heap.size]? = _ from hv] at hb; cases hb) (.inr (by intro cs f e; cases e))
  case done =>
    rintro D ys W hD rfl ⟨⟨v, hv, hrow, _⟩, hB, _⟩ hK
    have hc := hv.cell
    gi_wp2
    refine ⟨by simp, .inl ⟨_, _, rfl, run_takeDeferred hK, ?_⟩⟩
    exact ⟨_, results_tmp rfl _ _ _, v, rfl, ownsRow_putObj hrow _ hK rfl, hB.trans (belowK_b (w := w) (Nat.le_refl _) W D _ _ (by simp at hD; omega) hK rfl rfl)⟩
  case stop =>
    rintro D c pre W _ _ h _
    exact h.elim
theorem used_any {w : World} {c : CA} (h : Sep w c.hl) (ok : c.Ok) : Calls Tryd.prog 28 #[.pointer (some ⟨c.c, 0, none⟩)] w (NewInts w c.used) :=
  (callsIn_wide (n := 4)).1 (used_in Fence.wide rfl 4 (Nat.le_refl _) c ok w h)
end Go.Proofs.YtfefdleadocpmaaDoor

/- The tree of factories in memory, and walks of its small methods. Conditions: the tree's blocks hold what QT.hl says. -/
namespace Go.Proofs.YtfefdleadocpmaaDoor
open Go.RowKit

structure Fa where
  limit : Int
  charged : Int
  given : Int
  parent : Int
  kids : Int
def Fa.cells (f : Fa) : List Value := [.int .i64 f.limit, .int .i64 f.charged, .int .i64 f.given, .int .i64 f.parent, .int .i64 f.kids]
structure QT where
  t : Nat
  m : Nat
  E : List (En Fa)
  next : Int
def facH (E : List (En Fa)) : HL := E.map fun e => (e.b, isC 75 e.q.cells)
def QT.hl (q : QT) : HL := (q.t, isC 91 [.map (some q.m), .int .i64 q.next]) :: (q.m, isMI (kvs q.E)) :: facH q.E
/-- What the tree's numbers keep to. -/
structure QT.Ok (q : QT) : Prop where
  ids : q.E.Pairwise (fun a b => a.id ≠ b.id)
  next0 : 0 < q.next
  next1 : q.next < 1048576
  fa : ∀ id e, find q.E id = some e → 0 ≤ e.q.charged ∧ 0 ≤ e.q.given ∧ e.q.charged + e.q.given ≤ e.q.limit ∧ e.q.limit ≤ 1073741824 ∧ 0 ≤ e.q.kids ∧ e.q.kids < q.next ∧ 0 ≤ id ∧ id < q.next

section
variable {w : World} {q : QT}
theorem QT.c0 (h : Sep w q.hl) : w.cell? ⟨q.t, 0, none⟩ = some (.map (some q.m)) := (h.cells (T := 91) (cs := [.map (some q.m), .int .i64 q.next]) (by simp [QT.hl])).cell 0 _ rfl
theorem QT.c1 (h : Sep w q.hl) : w.cell? ⟨q.t, 1, none⟩ = some (.int .i64 q.next) := (h.cells (T := 91) (cs := [.map (some q.m), .int .i64 q.next]) (by simp [QT.hl])).cell 1 _ rfl
theorem QT.map (h : Sep w q.hl) : MapInt w q.m (kvs q.E) := h.map (by simp [QT.hl, isMI])
theorem QT.fac (h : Sep w q.hl) {id : Int} {e : En Fa} (hf : find q.E id = some e) : Cells w e.b 75 e.q.cells :=
  h.cells (by simp only [QT.hl, List.mem_cons]; exact .inr (.inr (List.mem_map.2 ⟨e, (find_mem hf).1, rfl⟩)))
theorem zero_fac (w : World) : (zeroValue 69).run Tryd.prog w = .ok (.pointer none) w := by kernel_rfl
theorem QT.look_some (h : Sep w q.hl) {id : Int} {e : En Fa} (hf : find q.E id = some e) :
    (Instr.lookup 89 (.map (some q.m)) (.int .i64 id) false).run Tryd.prog w = .ok (.pointer (some ⟨e.b, 0, none⟩)) w := by
  rw [run_lookup_int (QT.map h) id false (.pointer none) Tryd.underlying89 Tryd.underlying3 (zero_fac w)]
  simp [look_kvs, hf, ptr]
theorem QT.look_none (h : Sep w q.hl) {id : Int} (hf : find q.E id = none) :
    (Instr.lookup 89 (.map (some q.m)) (.int .i64 id) false).run Tryd.prog w = .ok (.pointer none) w := by
  rw [run_lookup_int (QT.map h) id false (.pointer none) Tryd.underlying89 Tryd.underlying3 (zero_fac w)]
  simp [look_kvs, hf]
/-- A store into one factory's struct. -/
theorem QT.setF (h : Sep w q.hl) (hids : q.E.Pairwise (fun a b => a.id ≠ b.id)) {id : Int} {e : En Fa} (hf : find q.E id = some e) (i : Nat) (v : Value) (f : Fa) (hq : e.q.cells.set i v = f.cells) :
    Step q.hl ({ q with E := upd q.E id f } : QT).hl w (w.setCell ⟨e.b, i, none⟩ v) := by
  obtain ⟨A, B, e1, e2, _⟩ := find_at hids hf
  have e3 : q.hl = ((q.t, isC 91 [.map (some q.m), .int .i64 q.next]) :: (q.m, isMI (kvs q.E)) :: facH A) ++ (e.b, isC 75 e.q.cells) :: facH B := by
    simp only [QT.hl, facH, List.cons_append]; congr 2
    conv => lhs; rw [e1]
    simp
  have e4 : ({ q with E := upd q.E id f } : QT).hl = ((q.t, isC 91 [.map (some q.m), .int .i64 q.next]) :: (q.m, isMI (kvs q.E)) :: facH A) ++ (e.b, isC 75 f.cells) :: facH B := by
    simp only [QT.hl, facH, List.cons_append, kvs_upd]; congr 2
    rw [e2]
    simp
  rw [e4, ← hq]
  rw [e3] at h ⊢
  exact h.set i v
end

set_option maxHeartbeats 400000 in
theorem qat_some {w : World} {q : QT} (h : Sep w q.hl) {id : Int} {e : En Fa} (hf : find q.E id = some e) :
    Calls Tryd.prog 33 #[ptr q.t, .int .i64 id] w fun r w' => r = .returned (.tuple #[ptr e.b, .int .i64 0]) ∧ w = w' := by
  have h0 := QT.c0 h
  have hl := QT.look_some h hf
  clear h hf
  unfold ptr
  go_enter Tryd.func33, Tryd.ntmps33
  go_wp2
  go_ret2
  exact ⟨rfl, rfl⟩
set_option maxHeartbeats 400000 in
theorem qat_none {w : World} {q : QT} (h : Sep w q.hl) {id : Int} (hf : find q.E id = none) :
    Calls Tryd.prog 33 #[ptr q.t, .int .i64 id] w fun r w' => r = .returned (.tuple #[.pointer none, .int .i64 6]) ∧ w = w' := by
  have h0 := QT.c0 h
  have hl := QT.look_none h hf
  clear h hf
  unfold ptr
  go_enter Tryd.func33, Tryd.ntmps33
  go_wp2
  go_ret2
  exact ⟨rfl, rfl⟩
set_option maxHeartbeats 400000 in
theorem qsum_any {w : World} {g : Nat} {a b : Int} (h0 : w.cell? ⟨g, 0, none⟩ = some (.int .i64 a)) (h1 : w.cell? ⟨g, 1, none⟩ = some (.int .i64 b)) (ha : 0 ≤ a) (hb : 0 ≤ b) (hs : a + b ≤ 1073741824) :
    Calls Tryd.prog 56 #[.slice (some ⟨g, 0, none⟩) 2 2] w fun r w' => r = .returned (.int .i64 (a + b)) ∧ w = w' := by
  go_enter Tryd.func56, Tryd.ntmps56
  go_wp2_with fail
  go_loop [3, 8] (fun nv iv => (nv = .int .i64 0 ∧ iv = .int .i64 0) ∨ (nv = .int .i64 a ∧ iv = .int .i64 1) ∨ (nv = .int .i64 (a + b) ∧ iv = .int .i64 2)) (fun _ iv => 2 - (intOf iv).toNat)
  case atStart => exact .inl ⟨rfl, rfl⟩
  case round =>
    rcases hrel with ⟨rfl, rfl⟩ | ⟨rfl, rfl⟩ | ⟨rfl, rfl⟩
    · go_wp2_with fail
      go_round
      case rel => exact .inr (.inl ⟨by simp, rfl⟩)
      case measure => simp [intOf]
    · go_wp2_with fail
      go_round
      case rel => exact .inr (.inr ⟨rfl, rfl⟩)
      case measure => simp [intOf]
    · go_wp2_with fail
      go_ret
      exact ⟨rfl, rfl⟩
set_option maxHeartbeats 1000000 in
theorem quse_any {w : World} {b : Nat} {f : Fa} (hc : Cells w b 75 f.cells) (h0 : 0 ≤ f.charged) (h1 : 0 ≤ f.given) (h2 : f.charged + f.given ≤ 1073741824) :
    Calls Tryd.prog 34 #[.pointer (some ⟨b, 0, none⟩)] w fun r w' => r = .returned (.int .i64 (f.charged + f.given)) ∧ Below w.heap.size w w' := by
  have c1 := hc.cell 1 _ rfl
  have c2 := hc.cell 2 _ rfl
  clear hc
  generalize f.charged = x at *
  generalize f.given = y at *
  have HS : Hid (Calls Tryd.prog 56 #[.slice (some ⟨w.heap.size, 0, none⟩) 2 2] (w.alloc (.cells #[.int .i64 x, .int .i64 y] 3)).drew fun r w' => r = .returned (.int .i64 (x + y)) ∧ (w.alloc (.cells #[.int .i64 x, .int .i64 y] 3)).drew = w') :=
    qsum_any ((Cells.new w 3 [.int .i64 x, .int .i64 y]).cell 0 _ rfl) ((Cells.new w 3 [.int .i64 x, .int .i64 y]).cell 1 _ rfl) h0 h1 h2
  have HB : Hid (∀ o : Obj, Below w.heap.size w (w.alloc o).drew) := fun o => ((Below.refl _ _).alloc (Nat.le_refl _) o).drew
  have d1 : w.drew.cell? ⟨b, 1, none⟩ = some (.int .i64 x) := c1
  have d2 : w.drew.cell? ⟨b, 2, none⟩ = some (.int .i64 y) := c2
  go_enter Tryd.func34, Tryd.ntmps34
  go_wp2_with fail
  go_region_held3 (fun w' => w'.cell? ⟨b, 1, none⟩ = some (.int .i64 x) ∧ w'.cell? ⟨b, 2, none⟩ = some (.int .i64 y)) (first | exact ⟨c1, c2⟩ | exact ⟨d1, d2⟩ | go_keep)
    (first | (go_at_call 56; refine HS.out.mono ?_; rintro e w' ⟨rfl, rfl⟩))
  go_wp2_with fail
  go_ret
  exact ⟨rfl, HB.out _⟩
set_option maxHeartbeats 1000000 in
theorem qfits_any {w : World} {b : Nat} {f : Fa} (hc : Cells w b 75 f.cells) (h0 : 0 ≤ f.charged) (h1 : 0 ≤ f.given) (h2 : f.charged + f.given ≤ f.limit) (h3 : f.limit ≤ 1073741824) (n : Int) :
    Calls Tryd.prog 46 #[.pointer (some ⟨b, 0, none⟩), .int .i64 n] w fun r w' => r = .returned (.bool (decide (n ≤ f.limit - (f.charged + f.given)))) ∧ Below w.heap.size w w' := by
  have c0 := hc.cell 0 _ rfl
  have k1 : Hid (Calls Tryd.prog 34 #[.pointer (some ⟨b, 0, none⟩)] w.drew fun r w' => r = .returned (.int .i64 (f.charged + f.given)) ∧ Below w.heap.size w.drew w') := quse_any (w := w.drew) hc h0 h1 (by omega)
  have hlt := hc.lt
  have HN : Hid (∀ w', Below w.heap.size w.drew w' → Below w.heap.size w w' ∧ w'.cell? ⟨b, 0, none⟩ = some (.int .i64 f.limit)) := by
    intro w' hb
    have hb2 : Below w.heap.size w w' := ((Below.refl _ _).drew).trans hb
    exact ⟨hb2, (hb2.cell (p := ⟨b, 0, none⟩) hlt).trans c0⟩
  have hs0 : 0 ≤ f.charged + f.given := by omega
  clear hc
  generalize f.limit = l at *
  generalize f.charged + f.given = u at *
  have d0 : w.drew.cell? ⟨b, 0, none⟩ = some (.int .i64 l) := c0
  have hw : IntKind.i64.wrap (l - u) = l - u := Go.IntWalk.i64_in _ (by omega)
  clear h0 h1 h2 h3 hs0
  go_enter Tryd.func46, Tryd.ntmps46
  go_wp2_with fail
  go_region_held3 (fun w' => w'.cell? ⟨b, 0, none⟩ = some (.int .i64 l)) (first | exact c0 | exact d0 | exact d1)
    (first | (go_at_call 34; refine k1.out.mono ?_; rintro e w1 ⟨rfl, hb⟩; obtain ⟨hb1, d1⟩ := HN.out _ hb; clear hb))
  go_wp2_with fail
  go_ret
  exact ⟨rfl, hb1⟩
end Go.Proofs.YtfefdleadocpmaaDoor

/- Walks of the tree's methods: charge, refund, and what is read. Conditions: the tree's blocks hold what QT.hl says. -/
namespace Go.Proofs.YtfefdleadocpmaaDoor
open Go.RowKit

section
variable {w : World} {q : QT} {id : Int} {e : En Fa}
theorem QT.fac0 (h : Sep w q.hl) (hf : find q.E id = some e) : w.cell? ⟨e.b, 0, none⟩ = some (.int .i64 e.q.limit) ∧ w.cell? ⟨e.b, 1, none⟩ = some (.int .i64 e.q.charged) ∧ w.cell? ⟨e.b, 2, none⟩ = some (.int .i64 e.q.given) ∧ w.cell? ⟨e.b, 3, none⟩ = some (.int .i64 e.q.parent) ∧ w.cell? ⟨e.b, 4, none⟩ = some (.int .i64 e.q.kids) ∧ ∀ i, w.frozen? ⟨e.b, i, none⟩ = false := by
  have k := QT.fac h hf
  exact ⟨k.cell 0 _ rfl, k.cell 1 _ rfl, k.cell 2 _ rfl, k.cell 3 _ rfl, k.cell 4 _ rfl, k.free⟩
end
set_option maxHeartbeats 400000 in
theorem qcharged_some {w : World} {q : QT} (h : Sep w q.hl) {id : Int} {e : En Fa} (hf : find q.E id = some e) :
    Calls Tryd.prog 12 #[ptr q.t, .int .i64 id] w fun r w' => r = .returned (.int .i64 e.q.charged) ∧ w = w' := by
  have k1 := qat_some h hf
  have c0 := QT.fac0 h hf
  obtain ⟨c0, c1, c2, c3, c4, -⟩ := c0
  clear h hf
  unfold ptr at *
  go_enter Tryd.func12, Tryd.ntmps12
  go_wp2_with (go_at_call 33; refine k1.mono ?_; rintro e w' ⟨rfl, rfl⟩)
  go_ret
  exact ⟨rfl, rfl⟩
set_option maxHeartbeats 400000 in
theorem qcharged_none {w : World} {q : QT} (h : Sep w q.hl) {id : Int} (hf : find q.E id = none) :
    Calls Tryd.prog 12 #[ptr q.t, .int .i64 id] w fun r w' => r = .returned (.int .i64 0) ∧ w = w' := by
  have k1 := qat_none h hf
  clear h hf
  unfold ptr at *
  go_enter Tryd.func12, Tryd.ntmps12
  go_wp2_with (go_at_call 33; refine k1.mono ?_; rintro e w' ⟨rfl, rfl⟩)
  go_ret
  exact ⟨rfl, rfl⟩
set_option maxHeartbeats 400000 in
theorem quse_some {w : World} {q : QT} (h : Sep w q.hl) (ok : q.Ok) {id : Int} {e : En Fa} (hf : find q.E id = some e) :
    Calls Tryd.prog 13 #[ptr q.t, .int .i64 id] w (Told w (.int .i64 (e.q.charged + e.q.given))) := by
  have k1 := qat_some h hf
  obtain ⟨a1, a2, a3, a4, _⟩ := ok.fa id e hf
  have k2 := quse_any (QT.fac h hf) a1 a2 (by omega)
  clear h hf ok
  unfold ptr at *
  go_enter Tryd.func13, Tryd.ntmps13
  go_wp2_with (first | (go_at_call 33; refine k1.mono ?_; rintro e w' ⟨rfl, rfl⟩) | (go_at_call 34; refine k2.mono ?_; rintro e w1 ⟨rfl, hb⟩))
  go_ret
  exact ⟨rfl, hb⟩
set_option maxHeartbeats 400000 in
theorem quse_none {w : World} {q : QT} (h : Sep w q.hl) {id : Int} (hf : find q.E id = none) :
    Calls Tryd.prog 13 #[ptr q.t, .int .i64 id] w fun r w' => r = .returned (.int .i64 0) ∧ w = w' := by
  have k1 := qat_none h hf
  clear h hf
  unfold ptr at *
  go_enter Tryd.func13, Tryd.ntmps13
  go_wp2_with (go_at_call 33; refine k1.mono ?_; rintro e w' ⟨rfl, rfl⟩)
  go_ret
  exact ⟨rfl, rfl⟩
/-! Charge. -/
set_option maxHeartbeats 400000 in
theorem qcharge_none {w : World} {q : QT} (h : Sep w q.hl) {id : Int} (hf : find q.E id = none) (n : Int) :
    Calls Tryd.prog 29 #[ptr q.t, .int .i64 id, .int .i64 n] w fun r w' => r = .returned (.int .i64 6) ∧ w = w' := by
  have k1 := qat_none h hf
  clear h hf
  unfold ptr at *
  go_enter Tryd.func29, Tryd.ntmps29
  go_wp2_with (go_at_call 33; refine k1.mono ?_; rintro e w' ⟨rfl, rfl⟩)
  go_ret
  exact ⟨rfl, rfl⟩
set_option maxHeartbeats 1000000 in
theorem qcharge_quota {w : World} {q : QT} (h : Sep w q.hl) (ok : q.Ok) {id : Int} {e : En Fa} (hf : find q.E id = some e) (n : Int) (hn : 0 ≤ n) (hq : e.q.limit - (e.q.charged + e.q.given) < n) :
    Calls Tryd.prog 29 #[ptr q.t, .int .i64 id, .int .i64 n] w (Told w (.int .i64 5)) := by
  have k1 := qat_some h hf
  obtain ⟨a1, a2, a3, a4, _⟩ := ok.fa id e hf
  have k2 := qfits_any (QT.fac h hf) a1 a2 a3 a4 n
  have hd : decide (n ≤ e.q.limit - (e.q.charged + e.q.given)) = false := by simp; omega
  rw [hd] at k2
  clear h hf ok hd
  unfold ptr at *
  go_enter Tryd.func29, Tryd.ntmps29
  go_wp2_with (first | (go_at_call 33; refine k1.mono ?_; rintro e w' ⟨rfl, rfl⟩) | (go_at_call 46; refine k2.mono ?_; rintro e w1 ⟨rfl, hb⟩))
  go_ret
  exact ⟨rfl, hb⟩
def Charged_ (w : World) (q : QT) (id : Int) (f : Fa) (r : Ending) (w' : World) : Prop := r = .returned (.int .i64 0) ∧ Step q.hl ({ q with E := upd q.E id f } : QT).hl w w'
set_option maxHeartbeats 1000000 in
theorem qcharge_ok {w : World} {q : QT} (h : Sep w q.hl) (ok : q.Ok) {id : Int} {e : En Fa} (hf : find q.E id = some e) (n : Int) (hn : 0 ≤ n) (hq : n ≤ e.q.limit - (e.q.charged + e.q.given)) :
    Calls Tryd.prog 29 #[ptr q.t, .int .i64 id, .int .i64 n] w (Charged_ w q id { e.q with charged := e.q.charged + n }) := by
  have k1 := qat_some h hf
  obtain ⟨a1, a2, a3, a4, _⟩ := ok.fa id e hf
  have k2 := qfits_any (QT.fac h hf) a1 a2 a3 a4 n
  have hd : decide (n ≤ e.q.limit - (e.q.charged + e.q.given)) = true := by simp; omega
  rw [hd] at k2
  have HN : Hid (∀ w1, Below w.heap.size w w1 → w1.cell? ⟨e.b, 1, none⟩ = some (.int .i64 e.q.charged) ∧ w1.frozen? ⟨e.b, 1, none⟩ = false ∧ Charged_ w q id { e.q with charged := e.q.charged + n } (.returned (.int .i64 0)) (w1.setCell ⟨e.b, 1, none⟩ (.int .i64 (e.q.charged + n)))) := by
    intro w1 hb
    have hs := h.grown hb
    obtain ⟨_, c1, _, _, _, cf⟩ := QT.fac0 hs.sep hf
    exact ⟨c1, cf 1, rfl, hs.trans (QT.setF hs.sep ok.ids hf 1 _ { e.q with charged := e.q.charged + n } rfl)⟩
  clear h hf ok hd
  unfold ptr at *
  go_enter Tryd.func29, Tryd.ntmps29
  go_wp2_with (first | (go_at_call 33; refine k1.mono ?_; rintro e w' ⟨rfl, rfl⟩) | (go_at_call 46; refine k2.mono ?_; rintro e w1 ⟨rfl, hb⟩; obtain ⟨d1, d2, hfin⟩ := HN.out w1 hb; have HFin := hidden hfin; clear hfin hb))
  go_ret
  exact HFin.out
/-! Refund. -/
set_option maxHeartbeats 400000 in
theorem qrefund_none {w : World} {q : QT} (h : Sep w q.hl) {id : Int} (hf : find q.E id = none) (n : Int) :
    Calls Tryd.prog 31 #[ptr q.t, .int .i64 id, .int .i64 n] w fun r w' => r = .returned (.int .i64 6) ∧ w = w' := by
  have k1 := qat_none h hf
  clear h hf
  unfold ptr at *
  go_enter Tryd.func31, Tryd.ntmps31
  go_wp2_with (go_at_call 33; refine k1.mono ?_; rintro e w' ⟨rfl, rfl⟩)
  go_ret
  exact ⟨rfl, rfl⟩
set_option maxHeartbeats 400000 in
theorem qrefund_arg {w : World} {q : QT} (h : Sep w q.hl) {id : Int} {e : En Fa} (hf : find q.E id = some e) (n : Int) (hn : 0 ≤ n) (hq : e.q.charged < n) :
    Calls Tryd.prog 31 #[ptr q.t, .int .i64 id, .int .i64 n] w fun r w' => r = .returned (.int .i64 1) ∧ w = w' := by
  have k1 := qat_some h hf
  obtain ⟨_, c1, _⟩ := QT.fac0 h hf
  have hd : decide (e.q.charged < n) = true := by simpa using hq
  clear h hf
  generalize e.q.charged = x at *
  unfold ptr at *
  go_enter Tryd.func31, Tryd.ntmps31
  go_wp2_with (go_at_call 33; refine k1.mono ?_; rintro e w' ⟨rfl, rfl⟩)
  go_ret
  exact ⟨rfl, rfl⟩
set_option maxHeartbeats 400000 in
theorem qrefund_ok {w : World} {q : QT} (h : Sep w q.hl) (ok : q.Ok) {id : Int} {e : En Fa} (hf : find q.E id = some e) (n : Int) (hn : 0 ≤ n) (hq : n ≤ e.q.charged) :
    Calls Tryd.prog 31 #[ptr q.t, .int .i64 id, .int .i64 n] w (Charged_ w q id { e.q with charged := e.q.charged - n }) := by
  have k1 := qat_some h hf
  obtain ⟨a1, a2, a3, a4, _⟩ := ok.fa id e hf
  obtain ⟨_, c1, _, _, _, cf⟩ := QT.fac0 h hf
  have cf1 := cf 1
  have HR : Hid (Charged_ w q id { e.q with charged := e.q.charged - n } (.returned (.int .i64 0)) (w.setCell ⟨e.b, 1, none⟩ (.int .i64 (e.q.charged - n)))) :=
    ⟨rfl, QT.setF h ok.ids hf 1 _ { e.q with charged := e.q.charged - n } rfl⟩
  have hd : decide (e.q.charged < n) = false := by simp; omega
  clear h hf ok cf
  generalize hx : e.q.charged = x at *
  clear hx
  unfold ptr at *
  go_enter Tryd.func31, Tryd.ntmps31
  go_wp2_with (go_at_call 33; refine k1.mono ?_; rintro e w' ⟨rfl, rfl⟩)
  go_ret
  exact HR.out
end Go.Proofs.YtfefdleadocpmaaDoor

/- Bytes in a row: putting some, words of eight. Plain lists. No condition. -/
namespace Go.Proofs.YtfefdleadocpmaaDoor

def put_ (m : List Nat) (at_ : Nat) (bs : List Nat) : List Nat := m.take at_ ++ bs ++ m.drop (at_ + bs.length)
theorem put_len (m : List Nat) (at_ : Nat) (bs : List Nat) (h : at_ + bs.length ≤ m.length) : (put_ m at_ bs).length = m.length := by
  unfold put_; simp; omega
theorem put_nil (m : List Nat) (at_ : Nat) : put_ m at_ [] = m := by simp [put_]
theorem put_get (m : List Nat) (at_ : Nat) (bs : List Nat) (h : at_ + bs.length ≤ m.length) (i : Nat) : (put_ m at_ bs)[i]? = if i < at_ then m[i]? else if i < at_ + bs.length then bs[i - at_]? else m[i]? := by
  unfold put_
  by_cases h1 : i < at_
  · rw [if_pos h1, List.append_assoc, List.getElem?_append_left (by simp; omega), List.getElem?_take, if_pos h1]
  · rw [if_neg h1]
    by_cases h2 : i < at_ + bs.length
    · rw [if_pos h2, List.getElem?_append_left (by simp; omega), List.getElem?_append_right (by simp; omega)]
      congr 1; simp; omega
    · rw [if_neg h2, List.getElem?_append_right (by simp; omega), List.getElem?_drop]
      congr 1; simp; omega
theorem put_step (m : List Nat) (at_ : Nat) (bs : List Nat) (k : Nat) (hk : k < bs.length) (h : at_ + bs.length ≤ m.length) : (put_ m at_ (bs.take k)).set (at_ + k) (bs[k]?.getD 0) = put_ m at_ (bs.take (k + 1)) := by
  have l1 : (bs.take k).length = k := by simp; omega
  have l2 : (bs.take (k + 1)).length = k + 1 := by simp; omega
  apply List.ext_getElem?
  intro i
  rw [List.getElem?_set, put_get _ _ _ (by rw [l1]; omega), put_get _ _ _ (by rw [l2]; omega), put_len _ _ _ (by rw [l1]; omega), l1, l2]
  by_cases h1 : at_ + k = i
  · subst h1
    have h2 : ¬ at_ + k < at_ := by omega
    have h3 : at_ + k < at_ + (k + 1) := by omega
    have h4 : at_ + k < m.length := by omega
    simp only [if_true, h4, h2, if_false, h3, Nat.add_sub_cancel_left]
    rw [List.getElem?_take, if_pos (by omega), List.getElem?_eq_getElem hk]; rfl
  · rw [if_neg h1]
    by_cases h2 : i < at_
    · simp [h2]
    · simp only [h2, if_false]
      by_cases h3 : i < at_ + k
      · have h4 : i < at_ + (k + 1) := by omega
        simp only [h3, h4, if_true]
        rw [List.getElem?_take, List.getElem?_take, if_pos (by omega), if_pos (by omega)]
      · have h4 : ¬ i < at_ + (k + 1) := by omega
        simp only [h3, h4, if_false]
/-- The number of bytes, the least first. -/
def leN : List Nat → Nat
  | [] => 0
  | b :: r => b + 256 * leN r
theorem leN_snoc (l : List Nat) (b : Nat) : leN (l ++ [b]) = leN l + 256 ^ l.length * b := by
  induction l with
  | nil => simp [leN]
  | cons x r ih => simp only [List.cons_append, leN, ih, List.length_cons, Nat.pow_succ]; rw [Nat.mul_add, Nat.add_assoc, ← Nat.mul_assoc, Nat.mul_comm (256 ^ r.length) 256]
theorem leN_lt (l : List Nat) (h : ∀ b ∈ l, b < 256) : leN l < 256 ^ l.length := by
  induction l with
  | nil => simp [leN]
  | cons x r ih =>
    have h1 := h x (by simp)
    have h2 := ih (fun b hb => h b (by simp [hb]))
    simp only [leN, List.length_cons, Nat.pow_succ]; omega
def bytes8 (x : Nat) : List Nat := [x % 256, x / 256 % 256, x / 65536 % 256, x / 16777216 % 256, x / 4294967296 % 256, x / 1099511627776 % 256, x / 281474976710656 % 256, x / 72057594037927936 % 256]
theorem leN_bytes8 (x : Nat) (h : x < 18446744073709551616) : leN (bytes8 x) = x := by
  simp only [bytes8, leN]; omega
theorem or_byte (x b k : Nat) (hx : x < 2 ^ (8 * k)) : x ||| b * 2 ^ (8 * k) = x + 256 ^ k * b := by
  rw [Nat.or_comm, Nat.mul_comm b, ← Nat.two_pow_add_eq_or_of_lt hx, Nat.add_comm, show (256 : Nat) ^ k = 2 ^ (8 * k) from by rw [Nat.pow_mul]]
end Go.Proofs.YtfefdleadocpmaaDoor
