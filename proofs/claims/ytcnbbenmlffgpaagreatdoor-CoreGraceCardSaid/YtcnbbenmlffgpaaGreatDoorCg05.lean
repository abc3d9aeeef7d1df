/- CoreGrace returns true at every input: a doomed object is a zombie till just the tick that the period tells. No condition. Part of its proof. -/
import Derived.Test.YtcnbbenmlffgpaaGreatDoorCg04
import Derived.Test.YtcnbbenmlffgpaaGreatDoorCg03
import Derived.Test.YtcnbbenmlffgpaaGreatDoorCg01
import Derived.Test.YtcnbbenmlffgpaaGreatDoorCg02
set_option linter.unusedVariables false
/- The used places of a cache: where a place stands, what a take and a give do to the list. Plain lists. No condition. -/
namespace Go.Proofs.YtcnbbenmlffgpaaGreatDoor
open Go.RowKit

theorem trues_set {bits : List Bool} {i : Nat} (hi : i < bits.length) (h : bits[i]?.getD false = false) : ∃ A B, trues bits = A ++ B ∧ trues (bits.set i true) = A ++ i :: B := by
  have e : List.range bits.length = List.range i ++ i :: (List.range (bits.length - (i + 1))).map (· + (i + 1)) := by
    obtain ⟨d, hd⟩ : ∃ d, bits.length = i + (1 + d) := ⟨bits.length - (i + 1), by omega⟩
    rw [hd, show i + (1 + d) - (i + 1) = d by omega, List.range_add, List.range_add]
    simp [Function.comp_def, Nat.add_comm, Nat.add_left_comm]
  unfold trues
  rw [List.length_set, e, List.filter_append, List.filter_append]
  refine ⟨_, _, rfl, ?_⟩
  congr 1
  · apply List.filter_congr
    intro j hj
    rw [List.mem_range] at hj
    rw [bits_get_set _ _ hi, if_neg (by omega)]
  · rw [List.filter_cons_of_pos (by rw [bits_get_set _ _ hi]; simp), List.filter_cons_of_neg (by rw [h]; simp)]
    congr 1
    apply List.filter_congr
    intro j hj
    obtain ⟨t, _, rfl⟩ := List.mem_map.1 hj
    rw [bits_get_set _ _ hi, if_neg (by omega)]
theorem trues_clr {bits : List Bool} {i : Nat} (h : bits[i]?.getD false = true) : ∃ A B, trues bits = A ++ i :: B ∧ trues (bits.set i false) = A ++ B := by
  have hi : i < bits.length := by
    rcases Nat.lt_or_ge i bits.length with e | e
    · exact e
    · rw [List.getElem?_eq_none e] at h; cases h
  obtain ⟨A, B, e1, e2⟩ := trues_set (bits := bits.set i false) (i := i) (by simpa using hi) (by simp [hi])
  rw [List.set_set, show bits.set i true = bits from ?_] at e2
  · exact ⟨A, B, e2, e1⟩
  · apply List.ext_getElem?
    intro j
    rw [List.getElem?_set]
    split
    · rename_i e; subst e
      rw [List.getElem?_eq_getElem hi] at h ⊢
      simp only [Option.getD_some] at h
      simp [h, hi]
    · rfl
theorem fm_take_drop {α β : Type} (f : α → List β) (L : List α) (k : Nat) : L.flatMap f = (L.take k).flatMap f ++ (L.drop k).flatMap f := by
  rw [← List.flatMap_append, List.take_append_drop]
theorem fm_at {α β : Type} (f : α → List β) (L : List α) (k : Nat) (x : α) (h : L[k]? = some x) : L.flatMap f = (L.take k).flatMap f ++ (f x ++ (L.drop (k + 1)).flatMap f) := by
  rw [fm_take_drop f L k]
  have hk := List.getElem?_eq_some_iff.1 h
  rw [List.drop_eq_getElem_cons hk.1, List.flatMap_cons, hk.2]
theorem fm_set' {α β : Type} (f : α → List β) (L : List α) (k : Nat) (y : α) (hk : k < L.length) : (L.set k y).flatMap f = (L.take k).flatMap f ++ (f y ++ (L.drop (k + 1)).flatMap f) := by
  rw [fm_at f (L.set k y) k y (by simp [hk]), List.take_set_of_le (Nat.le_refl k), List.drop_set_of_lt (by omega)]
theorem fm_erase {α β : Type} (f : α → List β) (L : List α) (k : Nat) : (L.eraseIdx k).flatMap f = (L.take k).flatMap f ++ (L.drop (k + 1)).flatMap f := by
  rw [List.eraseIdx_eq_take_drop_succ, List.flatMap_append]
/-- A page's place goes into use. -/
theorem used_set {c : CA} {k i : Nat} {x : BM × Nat} (hx : c.pg[k]? = some x) (hi : i < x.1.bits.length) (h : x.1.bits[i]?.getD false = false) :
    ∃ A B, c.used = A ++ B ∧ (c.pageTo k x { x.1 with bits := x.1.bits.set i true }).used = A ++ addr c.size x.2 i :: B := by
  obtain ⟨A, B, e1, e2⟩ := trues_set hi h
  have hk := (List.getElem?_eq_some_iff.1 hx).1
  refine ⟨(c.pg.take k).flatMap (usedPg c.size) ++ A.map (addr c.size x.2), B.map (addr c.size x.2) ++ (c.pg.drop (k + 1)).flatMap (usedPg c.size), ?_, ?_⟩
  · unfold CA.used
    rw [fm_at _ _ _ _ hx]
    simp [usedPg, e1]
  · unfold CA.used CA.pageTo
    rw [fm_set' _ _ _ _ hk]
    simp [usedPg, e2]
theorem used_clr {c : CA} {k i : Nat} {x : BM × Nat} (hx : c.pg[k]? = some x) (h : x.1.bits[i]?.getD false = true) :
    ∃ A B, c.used = A ++ addr c.size x.2 i :: B ∧ (c.pageTo k x { x.1 with bits := x.1.bits.set i false }).used = A ++ B := by
  obtain ⟨A, B, e1, e2⟩ := trues_clr h
  have hk := (List.getElem?_eq_some_iff.1 hx).1
  refine ⟨(c.pg.take k).flatMap (usedPg c.size) ++ A.map (addr c.size x.2), B.map (addr c.size x.2) ++ (c.pg.drop (k + 1)).flatMap (usedPg c.size), ?_, ?_⟩
  · unfold CA.used
    rw [fm_at _ _ _ _ hx]
    simp [usedPg, e1]
  · unfold CA.used CA.pageTo
    rw [fm_set' _ _ _ _ hk]
    simp [usedPg, e2]
theorem trues_one (n : Nat) (h : 0 < n) : trues ((List.replicate n false).set 0 true) = [0] := by
  obtain ⟨A, B, e1, e2⟩ := trues_set (bits := List.replicate n false) (i := 0) (by simpa using h) (by simp [List.getElem?_replicate]; split <;> rfl)
  have e0 : trues (List.replicate n false) = [] := by
    unfold trues
    rw [List.filter_eq_nil_iff]
    intro j _
    rw [List.getElem?_replicate]; split <;> simp
  rw [e0] at e1
  obtain ⟨rfl, rfl⟩ := List.append_eq_nil_iff.1 e1.symm
  exact e2
/-- A page with its first place in use comes. -/
theorem used_ins {c : CA} (rv' : RV) (m : BM) (p n : Nat) (hn : 0 < n) (hm : m.bits = (List.replicate n false).set 0 true) : ∃ A B, c.used = A ++ B ∧ (c.insert rv' (m, p)).used = A ++ addr c.size p 0 :: B := by
  refine ⟨_, _, fm_take_drop (usedPg c.size) c.pg (below_ c.pg p), ?_⟩
  unfold CA.used CA.insert insPg
  rw [List.flatMap_append, List.flatMap_cons]
  congr 1
  simp only [usedPg]
  rw [hm, trues_one n hn]
  rfl
/-- A page's last place goes. -/
theorem used_drop {c : CA} {k i : Nat} {x : BM × Nat} (hx : c.pg[k]? = some x) (h : x.1.bits[i]?.getD false = true) (h0 : cntB (x.1.bits.set i false) = 0) :
    ∃ A B, c.used = A ++ addr c.size x.2 i :: B ∧ (c.dropPg k).used = A ++ B := by
  obtain ⟨A, B, e1, e2⟩ := trues_clr h
  have e3 := trues_len (x.1.bits.set i false)
  rw [h0, e2] at e3
  have e4 : A ++ B = [] := List.eq_nil_of_length_eq_zero e3
  obtain ⟨rfl, rfl⟩ := List.append_eq_nil_iff.1 e4
  refine ⟨(c.pg.take k).flatMap (usedPg c.size), (c.pg.drop (k + 1)).flatMap (usedPg c.size), ?_, ?_⟩
  · unfold CA.used
    rw [fm_at _ _ _ _ hx]
    simp [usedPg, e1]
  · unfold CA.used CA.dropPg
    rw [fm_erase]
/-! Where an address stands. -/
theorem place_lt {s i n : Nat} (hs : 0 < s) (hi : i < n) (hn : n = 960 / s) : i * s + s ≤ 960 := by
  subst hn
  have : (i + 1) * s ≤ 960 / s * s := Nat.mul_le_mul_right s hi
  have h2 := Nat.div_mul_le_self 960 s
  rw [Nat.add_mul, Nat.one_mul] at this
  omega
theorem addr_parts {s p i : Nat} (hs : 0 < s) (h : i * s + s ≤ 960) : addr s p i / 1024 = p ∧ addr s p i % 1024 = 64 + i * s ∧ (addr s p i % 1024 - 64) % s = 0 ∧ (addr s p i % 1024 - 64) / s = i := by
  have e : addr s p i = 64 + i * s + p * 1024 := by unfold addr; omega
  have h1 : addr s p i / 1024 = p := by rw [e]; omega
  have h2 : addr s p i % 1024 = 64 + i * s := by rw [e]; omega
  refine ⟨h1, h2, ?_, ?_⟩
  · rw [h2, Nat.add_sub_cancel_left, Nat.mul_mod_left]
  · rw [h2, Nat.add_sub_cancel_left, Nat.mul_div_cancel _ hs]
theorem spot_addr {c : CA} {a k i : Nat} (h : spotV c a = some (k, i)) : ∃ x, c.pg[k]? = some x ∧ x.1.bits[i]?.getD false = true ∧ a = addr c.size x.2 i := by
  unfold spotV at h
  split at h
  · cases h
  · rename_i x hx
    split at h
    · rename_i hc
      obtain ⟨h1, h2, h3, h4⟩ := hc
      cases h
      refine ⟨x, hx, h4, ?_⟩
      have := Nat.div_add_mod (a % 1024 - 64) c.size
      rw [h3, Nat.add_zero, Nat.mul_comm] at this
      unfold addr
      rw [this, h1]
      omega
    · cases h
theorem below_self {pg : List (BM × Nat)} (hs : pg.Pairwise (fun a b => a.2 < b.2)) (k : Nat) (x : BM × Nat) (hx : pg[k]? = some x) : below_ pg x.2 = k := by
  have h1 := below_at hs x.2 k x hx
  have hk := (List.getElem?_eq_some_iff.1 hx).1
  have hle := below_le pg x.2
  rcases Nat.lt_trichotomy (below_ pg x.2) k with h | h | h
  · have hy : pg[below_ pg x.2]? = some (pg[below_ pg x.2]'(by omega)) := List.getElem?_eq_getElem (by omega)
    have h2 := below_at hs x.2 _ _ hy
    have h3 := List.pairwise_iff_getElem.1 hs (below_ pg x.2) k (by omega) hk h
    have h4 : pg[k] = x := (List.getElem?_eq_some_iff.1 hx).2
    rw [h4] at h3
    have := h2.2 h3; omega
  · exact h
  · have := h1.1 h; omega
theorem addr_spot {c : CA} (ok : c.Ok) {k i : Nat} {x : BM × Nat} (hx : c.pg[k]? = some x) (h : x.1.bits[i]?.getD false = true) : spotV c (addr c.size x.2 i) = some (k, i) := by
  have hs0 := ok.s0
  have hi : i < x.1.bits.length := by
    rcases Nat.lt_or_ge i x.1.bits.length with e | e
    · exact e
    · rw [List.getElem?_eq_none e] at h; cases h
  have hm := ok.many x (List.mem_of_getElem? hx)
  have hp := place_lt (s := c.size) (by omega) hi hm
  obtain ⟨e1, e2, e3, e4⟩ := addr_parts (p := x.2) (by omega : 0 < c.size) hp
  unfold spotV
  rw [e1, below_self ok.sorted k x hx, hx]
  simp only [e3, e4, h]
  rw [if_pos ⟨trivial, by omega, trivial, trivial⟩]
theorem spot_mem {c : CA} (ok : c.Ok) (a : Nat) : (spotV c a).isSome = decide (a ∈ c.used) := by
  cases hs : spotV c a with
  | none =>
    symm
    simp only [Option.isSome_none, decide_eq_false_iff_not]
    intro hm
    obtain ⟨x, hx, i, hi, rfl⟩ := mem_used.1 hm
    obtain ⟨k, hk⟩ := List.mem_iff_getElem?.1 hx
    rw [addr_spot ok hk hi] at hs
    cases hs
  | some y =>
    obtain ⟨k, i⟩ := y
    obtain ⟨x, hx, hb, rfl⟩ := spot_addr hs
    symm
    simp only [Option.isSome_some, decide_eq_true_eq]
    exact mem_used.2 ⟨x, List.mem_of_getElem? hx, i, hb, rfl⟩
theorem used_lt {c : CA} (ok : c.Ok) {a : Nat} (ha : a ∈ c.used) : ∃ x ∈ c.pg, 1024 * x.2 + 64 ≤ a ∧ a + c.size ≤ 1024 * x.2 + 1024 := by
  obtain ⟨x, hx, i, hi, rfl⟩ := mem_used.1 ha
  have hs0 := ok.s0
  have hil : i < x.1.bits.length := by
    rcases Nat.lt_or_ge i x.1.bits.length with e | e
    · exact e
    · rw [List.getElem?_eq_none e] at hi; cases hi
  have hp := place_lt (s := c.size) (by omega) hil (ok.many x hx)
  exact ⟨x, hx, by unfold addr; omega, by unfold addr; omega⟩
end Go.Proofs.YtcnbbenmlffgpaaGreatDoor

/- Walk of a cache's Take where a page has a free place. Conditions: the blocks hold what CA.hl says. -/
namespace Go.Proofs.YtcnbbenmlffgpaaGreatDoor
open Go.RowKit

def TakeA (c : CA) (k i : Nat) (x : BM × Nat) (w : World) (r : Ending) (w' : World) : Prop := r = .returned (.tuple #[.int .i64 ((addr c.size x.2 i : Nat) : Int), .int .i64 0]) ∧ Step c.hl (c.pageTo k x { x.1 with bits := x.1.bits.set i true }).hl w w'
/-- A page's free place, if any. -/
def freeP (x : BM × Nat) : Option Nat := firstI x.1.bits false 0
set_option maxHeartbeats 4000000 in
set_option maxRecDepth 100000 in
theorem take_old {w : World} {c : CA} (h : Sep w c.hl) (ok : c.Ok) (k i : Nat) (x : BM × Nat) (hx : c.pg[k]? = some x) (hf : freeP x = some i) (hpre : ∀ j y, j < k → c.pg[j]? = some y → freeP y = none) :
    Calls Tryz.prog 101 #[.pointer (some ⟨c.c, 0, none⟩)] w (TakeA c k i x w) := by
  have hk := (List.getElem?_eq_some_iff.1 hx).1
  obtain ⟨hil, _, hiv, _⟩ := firstI_spec hf
  have hln := ok.len
  have hmany : ∀ y ∈ c.pg, y.1.bits.length ≤ 60 := fun y hy => by
    rw [ok.many y hy]
    have := ok.s0
    exact Nat.le_trans (Nat.div_le_div_left this (by omega)) (by omega)
  have hmx := hmany x (List.mem_of_getElem? hx)
  have hi60 : i < 60 := Nat.lt_of_lt_of_le hil (hmany x (List.mem_of_getElem? hx))
  obtain ⟨rb, cap, hrv⟩ : ∃ rb cap, c.rv = some (rb, cap) := by
    cases e : c.rv with
    | none => have := ok.rv; rw [e] at this; have : c.pg.length = 0 := this; omega
    | some p => exact ⟨p.1, p.2, rfl⟩
  have hc2 : w.cell? ⟨c.c, 2, none⟩ = some (.slice (some ⟨rb, 0, none⟩) c.pg.length cap) := by
    have := (CA.sepC h).cell 2 _ rfl
    rw [hrv] at this
    exact this
  have HRound : Hid (∀ j y w1, c.pg[j]? = some y → Below w.heap.size w w1 → w1.cell? ⟨rb, j * 2, none⟩ = some (.pointer (some ⟨y.1.b, 0, none⟩)) ∧ w1.cell? ⟨rb, j * 2 + 1, none⟩ = some (.int .i64 ((1024 * y.2 : Nat) : Int)) ∧
      Calls Tryz.prog 88 #[.pointer (some ⟨y.1.b, 0, none⟩), .bool false, .int .i64 0] (w1.alloc (.cells #[.pointer (some ⟨y.1.b, 0, none⟩), .int .i64 ((1024 * y.2 : Nat) : Int)] 231)) fun r w' => r = .returned (.int .i64 (optI (freeP y))) ∧ (w1.alloc (.cells #[.pointer (some ⟨y.1.b, 0, none⟩), .int .i64 ((1024 * y.2 : Nat) : Int)] 231)) = w') := fun j y w1 hy hb => by
    have s1 := (h.grown hb).sep
    have hsr := CA.sepR s1
    rw [hrv] at hsr
    obtain ⟨e1, e2⟩ := pcells_get _ _ _ hy
    refine ⟨row_cell hsr _ _ e1, row_cell hsr _ _ e2, ?_⟩
    have := hmany y (List.mem_of_getElem? hy)
    exact bmfirst_any (CA.sepB (s1.alloc _) j y hy) false 0 (by omega) (by omega)
  have HTake : Hid (∀ w1, Below w.heap.size w w1 → 
      Calls Tryz.prog 148 #[.pointer (some ⟨x.1.b, 0, none⟩), .bool true, .slice (some ⟨w1.heap.size + 1, 0, none⟩) 1 1] ((w1.alloc (.cells #[.pointer (some ⟨x.1.b, 0, none⟩), .int .i64 ((1024 * x.2 : Nat) : Int)] 231)).alloc (.cells #[.int .i64 (i : Int)] 3)) fun r w4 => r = .returned (.int .i64 1) ∧
        w4.cell? ⟨w1.heap.size, 0, none⟩ = some (.pointer (some ⟨x.1.b, 0, none⟩)) ∧ w4.cell? ⟨w1.heap.size, 1, none⟩ = some (.int .i64 ((1024 * x.2 : Nat) : Int)) ∧
        Calls Tryz.prog 150 #[.pointer (some ⟨c.c, 0, none⟩), .agg #[.pointer (some ⟨x.1.b, 0, none⟩), .int .i64 ((1024 * x.2 : Nat) : Int)], .int .i64 i] w4 fun r w5 => r = .returned (.int .i64 ((addr c.size x.2 i : Nat) : Int)) ∧ TakeA c k i x w (.returned (.tuple #[.int .i64 ((addr c.size x.2 i : Nat) : Int), .int .i64 0])) w5) := fun w1 hb => by
    have s1 := (h.grown hb).sep
    have s3 := (s1.alloc (.cells #[.pointer (some ⟨x.1.b, 0, none⟩), .int .i64 ((1024 * x.2 : Nat) : Int)] 231)).alloc (.cells #[.int .i64 (i : Int)] 3)
    have sb := CA.sepB s3 k x hx
    have hlt : ∀ b ∈ keys x.1.hl, b < w1.heap.size := fun b hbk => (CA.sepB s1 k x hx).lt hbk
    have hz : ((w1.alloc (.cells #[.pointer (some ⟨x.1.b, 0, none⟩), .int .i64 ((1024 * x.2 : Nat) : Int)] 231))).heap.size = w1.heap.size + 1 := by simp
    have hset := bmset_turn sb true i hil (by omega) (by rw [hiv]; simp) (w1.heap.size + 1) (by
      have := (Cells.new (w1.alloc (.cells #[.pointer (some ⟨x.1.b, 0, none⟩), .int .i64 ((1024 * x.2 : Nat) : Int)] 231)) 3 [.int .i64 (i : Int)]).cell 0 _ rfl
      rw [hz] at this
      exact this) (fun hm => by have := hlt _ hm; omega)
    refine hset.mono ?_
    rintro r w4 ⟨rfl, hst⟩
    have hc' := CA.turnB s3 k x hx { x.1 with bits := x.1.bits.set i true } rfl hst
    have hall := (h.grown hb).trans hc'.from_alloc.from_alloc
    have hnn : w1.heap.size ∉ keys x.1.hl := fun hm => by have := hlt _ hm; omega
    have hbk := hst.chg.block w1.heap.size (by simp; omega) hnn
    have hcells := ((Cells.new w1 231 [.pointer (some ⟨x.1.b, 0, none⟩), .int .i64 ((1024 * x.2 : Nat) : Int)]).alloc (.cells #[.int .i64 (i : Int)] 3))
    have d0 : w4.cell? ⟨w1.heap.size, 0, none⟩ = some (.pointer (some ⟨x.1.b, 0, none⟩)) := by simp only [World.cell?, hbk]; exact hcells.cell 0 _ rfl
    have d1 : w4.cell? ⟨w1.heap.size, 1, none⟩ = some (.int .i64 ((1024 * x.2 : Nat) : Int)) := by simp only [World.cell?, hbk]; exact hcells.cell 1 _ rfl
    have ok' := CA.ok_page ok k x hx { x.1 with bits := x.1.bits.set i true } (by simp)
    have hpl := place_any hall.sep ok' x.1.b x.2 i (ok.lt x (List.mem_of_getElem? hx)) (by omega)
    refine ⟨rfl, d0, d1, hpl.mono ?_⟩
    rintro r w5 ⟨rfl, hb5⟩
    exact ⟨rfl, rfl, hall.trans (hall.sep.grown hb5)⟩
  have HGet : Hid (∀ j, j < c.pg.length → ∃ y, c.pg[j]? = some y) := fun j hj => ⟨_, List.getElem?_eq_getElem hj⟩
  have HPre := hidden hpre
  have HX := hidden hx
  have HF := hidden hf
  clear h ok hx hf hpre hil hiv hmany hmx hrv
  generalize hpp : c.pg = pg at *
  generalize pg.length = np at *
  clear hpp
  obtain ⟨TA, hTA⟩ : ∃ TA : Ending → World → Prop, TA = TakeA c k i x w := ⟨_, rfl⟩
  rw [← hTA] at HTake ⊢
  clear hTA
  generalize addr c.size x.2 i = ad at *
  generalize c.c = cc at *
  go_enter Tryz.func101, Tryz.ntmps101
  go_wp2_with fail
  go_loopw [19] (fun jv wr => ∃ j : Nat, jv = .int .i64 j ∧ j ≤ k ∧ Below w.heap.size w wr) (fun jv _ => k + 1 - (intOf jv).toNat)
  case atStart => exact ⟨0, rfl, Nat.zero_le _, Below.refl _ _⟩
  case round =>
    obtain ⟨j, rfl, hj, hb⟩ := hrel
    obtain ⟨y, hy⟩ := HGet.out j (by omega)
    obtain ⟨c1, c2, hfst⟩ := HRound.out j y wr hy hb
    have hj0 : (0 : Int) ≤ j := by omega
    have hjn : (j : Int) < np := by omega
    have hjb : (j : Int) < 1048577 := by omega
    by_cases hlt : j < k
    · rw [HPre.out j y hlt hy] at hfst
      unfold optI at hfst
      have HFst := hidden hfst
      have HB := hidden (((hb.alloc (by exact hb.size) (.cells #[.pointer (some ⟨y.1.b, 0, none⟩), .int .i64 ((1024 * y.2 : Nat) : Int)] 231))))
      clear hfst hy
      generalize 1024 * y.2 = pv at *
      go_wp2_with (go_at_call 88; refine HFst.out.mono ?_; rintro e w' ⟨rfl, rfl⟩)
      go_roundw
      case rel => exact ⟨j + 1, by go_num, by omega, HB.out⟩
      case measure => simp [intOf]; omega
    · obtain rfl : j = k := by omega
      rw [HX.out] at hy
      cases hy
      rw [HF.out] at hfst
      unfold optI at hfst
      have HFst := hidden hfst
      have HT := hidden (HTake.out wr hb)
      have hi0 : (0 : Int) ≤ i := by omega
      have hib : (i : Int) < 60 := by omega
      have hge : decide ((0 : Int) ≤ (i : Int)) = true := by simp
      clear hfst
      generalize 1024 * x.2 = pv at *
      go_wp2_with (go_at_call 88; refine HFst.out.mono ?_; rintro e w' ⟨rfl, rfl⟩)
      refine HT.out.mono ?_
      rintro r w4 ⟨rfl, d0, d1, hpl⟩
      have HP := hidden hpl
      clear hpl
      go_wp2_with fail
      refine HP.out.mono ?_
      rintro r w5 ⟨rfl, hta⟩
      have HTA := hidden hta
      clear hta
      go_wp2_with fail
      exact HTA.out
end Go.Proofs.YtcnbbenmlffgpaaGreatDoor

/- The buddies' free blocks as a function of the used pages: plain numbers. No condition. -/
namespace Go.Proofs.YtcnbbenmlffgpaaGreatDoor

/-- Is the block of order k and number i clear of used pages? -/
def clr (u : Nat → Bool) (k i : Nat) : Bool := (List.range (2 ^ k)).all fun j => !u (i * 2 ^ k + j)
theorem clr_iff (u : Nat → Bool) (k i : Nat) : clr u k i = true ↔ ∀ p, p / 2 ^ k = i → u p = false := by
  unfold clr
  rw [List.all_eq_true]
  have hk : 0 < 2 ^ k := Nat.two_pow_pos k
  constructor
  · intro h p hp
    have := h (p % 2 ^ k) (List.mem_range.2 (Nat.mod_lt _ hk))
    have e : i * 2 ^ k + p % 2 ^ k = p := by
      rw [← hp, Nat.mul_comm]; exact Nat.div_add_mod p (2 ^ k)
    rw [e] at this; simpa using this
  · intro h j hj
    have hj' := List.mem_range.1 hj
    have : u (i * 2 ^ k + j) = false := h _ (by rw [Nat.add_comm, Nat.add_mul_div_right _ _ hk, Nat.div_eq_of_lt hj', Nat.zero_add])
    simp [this]
theorem clr_zero (u : Nat → Bool) (p : Nat) : clr u 0 p = !u p := by simp [clr]
theorem div_succ (p k : Nat) : p / 2 ^ (k + 1) = p / 2 ^ k / 2 := by rw [Nat.pow_succ, Nat.div_div_eq_div_mul]
/-- A block is clear just if both halves are. -/
theorem clr_half (u : Nat → Bool) (k i : Nat) : clr u (k + 1) i = (clr u k (2 * i) && clr u k (2 * i + 1)) := by
  rw [Bool.eq_iff_iff, Bool.and_eq_true, clr_iff, clr_iff, clr_iff]
  constructor
  · intro h
    exact ⟨fun p hp => h p (by rw [div_succ, hp]; omega), fun p hp => h p (by rw [div_succ, hp]; omega)⟩
  · rintro ⟨h1, h2⟩ p hp
    rw [div_succ] at hp
    have : p / 2 ^ k = 2 * i ∨ p / 2 ^ k = 2 * i + 1 := by omega
    rcases this with h | h
    · exact h1 p h
    · exact h2 p h
/-- Is the block of order k and number i free, as one? top: the order of the whole. -/
def fre (u : Nat → Bool) (top k i : Nat) : Bool := clr u k i && (k == top || !clr u (k + 1) (i / 2))
def setU (u : Nat → Bool) (p : Nat) (b : Bool) : Nat → Bool := fun x => if x = p then b else u x
theorem clr_set_true (u : Nat → Bool) (p k i : Nat) : clr (setU u p true) k i = (clr u k i && !(p / 2 ^ k == i)) := by
  rw [Bool.eq_iff_iff, Bool.and_eq_true, clr_iff, clr_iff]
  simp only [Bool.not_eq_true', beq_eq_false_iff_ne, setU]
  constructor
  · intro h
    refine ⟨fun q hq => ?_, fun e => ?_⟩
    · have := h q hq
      split at this
      · cases this
      · exact this
    · have := h p e; simp at this
  · rintro ⟨h1, h2⟩ q hq
    rw [if_neg (fun e : q = p => h2 (by rw [← e]; exact hq))]; exact h1 q hq
theorem clr_set_false (u : Nat → Bool) (p k i : Nat) (h : p / 2 ^ k ≠ i) : clr (setU u p false) k i = clr u k i := by
  rw [Bool.eq_iff_iff, clr_iff, clr_iff]
  constructor
  · intro a q hq
    have := a q hq
    simp only [setU] at this
    split at this
    · rename_i e; subst e; exact absurd hq h
    · exact this
  · intro a q hq
    simp only [setU]
    rw [if_neg (fun e : q = p => h (by rw [← e]; exact hq))]; exact a q hq
theorem clr_up {u : Nat → Bool} {k i : Nat} (h : clr u (k + 1) (i / 2) = true) : clr u k i = true := by
  rw [clr_half, Bool.and_eq_true] at h
  have : i = 2 * (i / 2) ∨ i = 2 * (i / 2) + 1 := by omega
  rcases this with e | e
  · rw [e]; exact h.1
  · rw [e]; exact h.2
theorem clr_down {u : Nat → Bool} {k : Nat} (e : Nat) {i : Nat} (h : clr u (k + e) (i / 2 ^ e) = true) : clr u k i = true := by
  rw [clr_iff] at h ⊢
  intro p hp
  refine h p ?_
  rw [Nat.pow_add, ← Nat.div_div_eq_div_mul, hp]

/-- The other half of a block's parent. -/
def sib (i : Nat) : Nat := if i % 2 = 0 then i + 1 else i - 1
theorem sib_half (i : Nat) : sib i / 2 = i / 2 ∧ sib i ≠ i := by unfold sib; split <;> omega
theorem sib_of {x a : Nat} (h : x / 2 = a / 2) (hne : x ≠ a) : x = sib a := by unfold sib; split <;> omega

/-- What the taking of a page from the free block (k, i) does to the free blocks. -/
theorem fre_take (u : Nat → Bool) (top k p : Nat) (hk : k ≤ top) (h : fre u top k (p / 2 ^ k) = true) (j x : Nat) (hj : j ≤ top) :
    fre (setU u p true) top j x = if j < k then (fre u top j x || (x == sib (p / 2 ^ j))) else if j = k then (fre u top j x && !(x == p / 2 ^ k)) else fre u top j x := by
  unfold fre at h
  rw [Bool.and_eq_true] at h
  obtain ⟨hc, hp⟩ := h
  have above : ∀ m y, k < m → m ≤ top → clr u m y = true → p / 2 ^ m ≠ y := by
    intro m y hm hmt hcm e
    have hne : (k == top) = false := by simp; omega
    rw [hne] at hp
    simp only [Bool.false_or, Bool.not_eq_true'] at hp
    have : clr u (k + 1) (p / 2 ^ k / 2) = true := by
      refine clr_down (m - (k + 1)) ?_
      rw [show k + 1 + (m - (k + 1)) = m from by omega, ← div_succ, Nat.div_div_eq_div_mul, ← Nat.pow_add, show k + 1 + (m - (k + 1)) = m from by omega, e]
      exact hcm
    rw [this] at hp; cases hp
  have same : ∀ m y, k < m → m ≤ top → clr (setU u p true) m y = clr u m y := by
    intro m y hm hmt
    rw [clr_set_true]
    cases hcm : clr u m y with
    | false => rfl
    | true => simp [above m y hm hmt hcm]
  by_cases h1 : j < k
  · rw [if_pos h1]
    have hjt : (j == top) = false := by simp; omega
    have hdiv : p / 2 ^ j / 2 ^ (k - j) = p / 2 ^ k := by rw [Nat.div_div_eq_div_mul, ← Nat.pow_add, show j + (k - j) = k from by omega]
    unfold fre
    rw [clr_set_true, clr_set_true, div_succ, hjt]
    simp only [Bool.false_or]
    generalize hg : p / 2 ^ j = a at *
    obtain ⟨s1, s2⟩ := sib_half a
    by_cases hin : x / 2 ^ (k - j) = p / 2 ^ k
    · have c1 : clr u j x = true := clr_down (k - j) (by rw [hin, show j + (k - j) = k from by omega]; exact hc)
      have c2 : clr u (j + 1) (x / 2) = true := by
        refine clr_down (k - (j + 1)) ?_
        have e3 : x / 2 / 2 ^ (k - (j + 1)) = x / 2 ^ (k - j) := by
          rw [show k - j = (k - (j + 1)) + 1 from by omega, Nat.pow_succ', Nat.div_div_eq_div_mul]
        rw [show j + 1 + (k - (j + 1)) = k from by omega, e3, hin]; exact hc
      rw [c1, c2]
      simp only [Bool.true_and, Bool.not_true, Bool.and_false, Bool.false_or, Bool.not_not]
      rw [Bool.eq_iff_iff]
      simp only [Bool.and_eq_true, Bool.not_eq_true', beq_eq_false_iff_ne, beq_iff_eq]
      constructor
      · rintro ⟨e1, e2⟩; exact sib_of e2.symm (fun e => e1 e.symm)
      · rintro rfl; exact ⟨fun e => s2 e.symm, s1.symm⟩
    · have hx : x / 2 ≠ a / 2 := by
        intro e; apply hin
        rw [← hdiv, show k - j = (k - j - 1) + 1 from by omega, Nat.pow_succ', ← Nat.div_div_eq_div_mul, e, Nat.div_div_eq_div_mul]
      have e1 : (a == x) = false := by simp; omega
      have e2 : (a / 2 == x / 2) = false := by simp; omega
      have e3 : (x == sib a) = false := by simp; rintro rfl; exact hx s1
      rw [e1, e2, e3]; simp
  · rw [if_neg h1]
    by_cases h2 : j = k
    · subst h2
      rw [if_pos rfl]
      unfold fre
      rw [clr_set_true, show (p / 2 ^ j == x) = (x == p / 2 ^ j) from BEq.comm]
      by_cases ht : j = top
      · subst ht; simp
      · rw [same (j + 1) _ (by omega) (by omega)]
        cases clr u j x <;> cases (x == p / 2 ^ j) <;> simp
    · rw [if_neg h2]
      unfold fre
      rw [same j x (by omega) hj]
      by_cases ht : j = top
      · subst ht; simp
      · rw [same (j + 1) _ (by omega) (by omega)]
/-- A page that isn't used lies in a free block. -/
theorem fre_cover (u : Nat → Bool) (top p : Nat) (h : u p = false) : ∃ k, k ≤ top ∧ fre u top k (p / 2 ^ k) = true := by
  have key : ∀ n, n ≤ top → clr u n (p / 2 ^ n) = true ∨ ∃ k, k < n ∧ fre u top k (p / 2 ^ k) = true := by
    intro n
    induction n with
    | zero => intro _; left; rw [clr_zero]; simp [h]
    | succ n ih =>
      intro hn
      rcases ih (by omega) with hc | ⟨k, hk, hf⟩
      · cases hc2 : clr u (n + 1) (p / 2 ^ (n + 1)) with
        | true => exact .inl rfl
        | false =>
          right
          refine ⟨n, by omega, ?_⟩
          unfold fre
          rw [div_succ] at hc2
          rw [hc, hc2]; simp
      · exact .inr ⟨k, by omega, hf⟩
  rcases key top (Nat.le_refl _) with hc | ⟨k, hk, hf⟩
  · exact ⟨top, Nat.le_refl _, by unfold fre; rw [hc]; simp⟩
  · exact ⟨k, by omega, hf⟩
theorem fre_clear {u : Nat → Bool} {top k i p : Nat} (h : fre u top k i = true) (hp : p / 2 ^ k = i) : u p = false := by
  unfold fre at h
  rw [Bool.and_eq_true] at h
  exact (clr_iff u k i).1 h.1 p hp
/-- Two free blocks that share a page are one. -/
theorem fre_apart {u : Nat → Bool} {top k i l j p : Nat} (hk : k ≤ top) (hl : l ≤ top) (h : fre u top k i = true) (h' : fre u top l j = true) (hp : p / 2 ^ k = i) (hp' : p / 2 ^ l = j) : k = l ∧ i = j := by
  have main : ∀ {k l : Nat}, l ≤ top → fre u top k (p / 2 ^ k) = true → fre u top l (p / 2 ^ l) = true → ¬ k < l := by
    intro k l hl h h' hlt
    unfold fre at h h'
    rw [Bool.and_eq_true] at h h'
    have hne : (k == top) = false := by simp; omega
    rw [hne] at h
    simp only [Bool.false_or, Bool.not_eq_true'] at h
    have : clr u (k + 1) (p / 2 ^ k / 2) = true := by
      refine clr_down (l - (k + 1)) ?_
      rw [show k + 1 + (l - (k + 1)) = l from by omega, ← div_succ, Nat.div_div_eq_div_mul, ← Nat.pow_add, show k + 1 + (l - (k + 1)) = l from by omega]
      exact h'.1
    rw [this] at h; cases h.2
  subst hp; subst hp'
  have : k = l := Nat.le_antisymm (by have := main hk h' h; omega) (by have := main hl h h'; omega)
  subst this
  exact ⟨rfl, rfl⟩
theorem setU_back {u : Nat → Bool} {p : Nat} (h : u p = true) : setU (setU u p false) p true = u := by
  funext x; unfold setU; split
  · rename_i e; rw [e, h]
  · rfl
/-- What the giving back of page p does, where the blocks that hold p are clear up to order k, and no further. -/
theorem fre_give (u : Nat → Bool) (top p k : Nat) (hk : k ≤ top) (hu : u p = true) (hc : clr (setU u p false) k (p / 2 ^ k) = true) (hn : k < top → clr u k (sib (p / 2 ^ k)) = false) (j x : Nat) (hj : j ≤ top) :
    fre (setU u p false) top j x = if j < k then (fre u top j x && !(x == sib (p / 2 ^ j))) else if j = k then (fre u top j x || (x == p / 2 ^ k)) else fre u top j x := by
  have hf : fre (setU u p false) top k (p / 2 ^ k) = true := by
    unfold fre
    rw [hc, Bool.true_and, Bool.or_eq_true]
    by_cases ht : k = top
    · left; simp [ht]
    · right
      have h1 := hn (by omega)
      obtain ⟨s1, s2⟩ := sib_half (p / 2 ^ k)
      rw [clr_half, Bool.not_eq_true', Bool.and_eq_false_iff]
      rw [← clr_set_false u p k (sib (p / 2 ^ k)) (fun e => s2 e.symm)] at h1
      have : sib (p / 2 ^ k) = 2 * (p / 2 ^ k / 2) ∨ sib (p / 2 ^ k) = 2 * (p / 2 ^ k / 2) + 1 := by omega
      rcases this with e | e
      · left; rw [← e]; exact h1
      · right; rw [← e]; exact h1
  have main := fre_take (setU u p false) top k p hk hf j x hj
  rw [setU_back hu] at main
  by_cases h1 : j < k
  · rw [if_pos h1] at main ⊢
    rw [main]
    by_cases hx : x = sib (p / 2 ^ j)
    · obtain ⟨s1, s2⟩ := sib_half (p / 2 ^ j)
      have : fre (setU u p false) top j x = false := by
        cases hfx : fre (setU u p false) top j x with
        | false => rfl
        | true =>
          have e1 : x * 2 ^ j / 2 ^ j = x := Nat.mul_div_cancel _ (Nat.two_pow_pos j)
          have e2 : x * 2 ^ j / 2 ^ k = p / 2 ^ k := by
            rw [show k = j + (k - j) from by omega, Nat.pow_add, ← Nat.div_div_eq_div_mul, e1, ← Nat.div_div_eq_div_mul, show k - j = (k - j - 1) + 1 from by omega, Nat.pow_succ', ← Nat.div_div_eq_div_mul, ← Nat.div_div_eq_div_mul, hx, s1]
          have := fre_apart hj hk hfx hf e1 e2
          omega
      rw [this]; simp [hx]
    · have e9 : (x == sib (p / 2 ^ j)) = false := by simpa using hx
      rw [e9]; simp
  · rw [if_neg h1] at main ⊢
    by_cases h2 : j = k
    · subst h2
      rw [if_pos rfl] at main ⊢
      rw [main]
      by_cases hx : x = p / 2 ^ j
      · subst hx; rw [hf]; simp
      · have e9 : (x == p / 2 ^ j) = false := by simpa using hx
        rw [e9]; simp
    · rw [if_neg h2] at main ⊢
      exact main.symm
/-- Nothing is used: there is one free block, the whole. -/
theorem fre_none (u : Nat → Bool) (top : Nat) (h : ∀ p, p < 2 ^ top → u p = false) (k i : Nat) (hk : k ≤ top) (hi : i < 2 ^ (top - k)) : fre u top k i = decide (k = top) := by
  have hc : ∀ m y, m ≤ top → y < 2 ^ (top - m) → clr u m y = true := by
    intro m y hm hy
    rw [clr_iff]
    intro p hp
    refine h p ?_
    have h1 : p < (y + 1) * 2 ^ m := by rw [← hp]; rw [Nat.mul_comm]; exact Nat.lt_mul_div_succ p (Nat.two_pow_pos m)
    have h2 : (y + 1) * 2 ^ m ≤ 2 ^ (top - m) * 2 ^ m := Nat.mul_le_mul_right _ hy
    rw [← Nat.pow_add, show top - m + m = top from by omega] at h2
    omega
  unfold fre
  rw [hc k i hk hi]
  by_cases ht : k = top
  · subst ht; simp
  · have hk2 : i / 2 < 2 ^ (top - (k + 1)) := by
      rw [show top - k = top - (k + 1) + 1 from by omega, Nat.pow_succ] at hi
      omega
    rw [hc (k + 1) (i / 2) (by omega) hk2]
    simp [ht]
end Go.Proofs.YtcnbbenmlffgpaaGreatDoor

/- The buddy allocator in memory: its bitmaps, its map of used pages. Conditions: the blocks hold what BD.hl says. -/
namespace Go.Proofs.YtcnbbenmlffgpaaGreatDoor
open Go.RowKit

structure BD where
  b : Nat
  mb : Nat
  top : Nat
  bms : List BM
  ps : List Nat
def BD.cells (d : BD) : List Value := .int .i64 d.top :: (d.bms.map (fun m => ptr m.b) ++ List.replicate (21 - d.bms.length) (.pointer none) ++ [.map (some d.mb)])
def upk (ps : List Nat) : List (Int × Value) := ps.map fun p => (((1024 * p : Nat) : Int), .int .i64 0)
def BD.hl (d : BD) : HL := (d.b, isC 158 d.cells) :: (d.mb, isMI (upk d.ps)) :: d.bms.flatMap BM.hl
/-- The bitmap of order k has the bits that G says. -/
structure BD.Is (d : BD) (G : Nat → Nat → Bool) : Prop where
  len : d.bms.length = d.top + 1
  top : d.top ≤ 20
  bits : ∀ k m, d.bms[k]? = some m → m.bits = (List.range (2 ^ (d.top - k))).map (G k)
def uOf (ps : List Nat) : Nat → Bool := fun p => decide (p ∈ ps)
/-- The pages ps are used, the others are free. -/
structure BD.At (d : BD) : Prop where
  is : d.Is (fre (uOf d.ps) d.top)
  nd : d.ps.Nodup
  lt : ∀ p ∈ d.ps, p < 2 ^ d.top
def upG (G : Nat → Nat → Bool) (k i : Nat) (on : Bool) : Nat → Nat → Bool := fun l j => if l = k ∧ j = i then on else G l j

theorem look_upk (ps : List Nat) (p : Nat) : look (upk ps) ((1024 * p : Nat) : Int) = if p ∈ ps then some (.int .i64 0) else none := by
  induction ps with
  | nil => rfl
  | cons x r ih =>
    have ih' : look (r.map fun p => (((1024 * p : Nat) : Int), Value.int .i64 0)) ((1024 * p : Nat) : Int) = _ := ih
    by_cases h : p = x
    · subst h; simp [upk, look]
    · have h2 : ¬ ((1024 * p : Nat) : Int) = ((1024 * x : Nat) : Int) := by omega
      simp only [upk, List.map_cons, look, h2, if_false]
      rw [ih']; simp [h]
theorem look_upk_no (ps : List Nat) (x : Int) (h : ∀ p ∈ ps, x ≠ ((1024 * p : Nat) : Int)) : look (upk ps) x = none := by
  induction ps with
  | nil => rfl
  | cons y r ih =>
    have h2 := h y (by simp)
    simp only [upk, List.map_cons, look, h2, if_false]
    exact ih fun p hp => h p (by simp [hp])
theorem put_upk (ps : List Nat) (p : Nat) (h : p ∉ ps) : put (upk ps) ((1024 * p : Nat) : Int) (.int .i64 0) = upk (ps ++ [p]) := by
  induction ps with
  | nil => rfl
  | cons x r ih =>
    have h1 : ¬ p = x := fun e => h (by simp [e])
    have h2 : ¬ ((1024 * p : Nat) : Int) = ((1024 * x : Nat) : Int) := by omega
    have ih' := ih (fun hr => h (by simp [hr]))
    simp only [upk, List.map_cons, put, h2, if_false, List.cons_append] at ih' ⊢
    rw [ih']
theorem del_upk (ps : List Nat) (p : Nat) : del (upk ps) ((1024 * p : Nat) : Int) = upk (ps.erase p) := by
  induction ps with
  | nil => rfl
  | cons x r ih =>
    by_cases h : p = x
    · subst h; simp [upk, del]
    · have h2 : ¬ ((1024 * p : Nat) : Int) = ((1024 * x : Nat) : Int) := by omega
      have h3 : (x == p) = false := by simp; exact fun e => h e.symm
      have e1 : (x :: r).erase p = x :: r.erase p := by rw [List.erase_cons, h3]; rfl
      rw [e1]
      simp only [upk, List.map_cons, del, h2, if_false] at ih ⊢
      rw [ih]
theorem uOf_snoc (ps : List Nat) (p : Nat) : uOf (ps ++ [p]) = setU (uOf ps) p true := by
  funext x; unfold uOf setU
  by_cases h : x = p <;> simp [h]
theorem uOf_erase {ps : List Nat} (h : ps.Nodup) (p : Nat) : uOf (ps.erase p) = setU (uOf ps) p false := by
  funext x; unfold uOf setU
  simp only [h.mem_erase_iff]
  by_cases h : x = p <;> simp [h]

theorem range_set (G : Nat → Bool) (n i : Nat) (on : Bool) : ((List.range n).map G).set i on = (List.range n).map fun j => if j = i then on else G j := by
  apply List.ext_getElem?
  intro j
  rw [List.getElem?_set, List.getElem?_map, List.getElem?_map, List.length_map, List.length_range]
  by_cases h : i = j
  · subst h
    by_cases h2 : i < n
    · simp [h2]
    · simp [h2]
  · rw [if_neg h]
    by_cases h2 : j < n
    · simp [h2, show ¬ j = i from fun e => h e.symm]
    · rw [List.getElem?_eq_none (by simp; omega)]; rfl

section
variable {w : World} {d : BD} {G : Nat → Nat → Bool}
theorem BD.sepC (h : Sep w d.hl) : Cells w d.b 158 d.cells := h.cells (by simp [BD.hl])
theorem BD.c0 (h : Sep w d.hl) : w.cell? ⟨d.b, 0, none⟩ = some (.int .i64 d.top) := (BD.sepC h).cell 0 _ rfl
theorem BD.cf (h : Sep w d.hl) (k : Nat) (m : BM) (hm : d.bms[k]? = some m) : w.cell? ⟨d.b, 1 + k, none⟩ = some (ptr m.b) := by
  have hk : k < d.bms.length := (List.getElem?_eq_some_iff.1 hm).1
  refine (BD.sepC h).cell (1 + k) _ ?_
  unfold BD.cells
  rw [Nat.add_comm, List.getElem?_cons_succ, List.append_assoc, List.getElem?_append_left (by simpa using hk), List.getElem?_map, hm]; rfl
theorem BD.cm (h : Sep w d.hl) (hl : d.bms.length ≤ 21) : w.cell? ⟨d.b, 22, none⟩ = some (.map (some d.mb)) := by
  refine (BD.sepC h).cell 22 _ ?_
  unfold BD.cells
  have e : (d.bms.map (fun m => ptr m.b) ++ List.replicate (21 - d.bms.length) (Value.pointer none)).length = 21 := by simp; omega
  rw [List.getElem?_cons_succ, List.getElem?_append_right (by omega), e]
  rfl
theorem BD.map (h : Sep w d.hl) : MapInt w d.mb (upk d.ps) := h.map (by simp [BD.hl, isMI])
theorem BD.bm (h : Sep w d.hl) (k : Nat) (m : BM) (hm : d.bms[k]? = some m) : Sep w m.hl := by
  refine h.sub ?_
  unfold BD.hl
  rw [fm_split _ _ _ _ hm]
  refine List.Sublist.cons _ (List.Sublist.cons _ ?_)
  exact (List.sublist_append_right _ _).trans (List.sublist_append_left _ _)
theorem BD.setBm (h : Sep w d.hl) (k : Nat) (m m' : BM) (hm : d.bms[k]? = some m) (hb : m'.b = m.b) {w' : World} (hs : Step m.hl m'.hl w w') : Step d.hl ({ d with bms := d.bms.set k m' } : BD).hl w w' := by
  have hk : k < d.bms.length := (List.getElem?_eq_some_iff.1 hm).1
  have hx : d.bms[k] = m := (List.getElem?_eq_some_iff.1 hm).2
  have ec : ({ d with bms := d.bms.set k m' } : BD).cells = d.cells := by
    have : (d.bms.set k m').map (fun m => ptr m.b) = d.bms.map fun m => ptr m.b := by
      apply List.ext_getElem?
      intro j
      rw [List.getElem?_map, List.getElem?_map, List.getElem?_set]
      by_cases hj : k = j
      · subst hj; simp [hk, hb, hx]
      · rw [if_neg hj]
    unfold BD.cells
    simp only [this, List.length_set]
  have e1 : d.hl = ((d.b, isC 158 d.cells) :: (d.mb, isMI (upk d.ps)) :: (d.bms.take k).flatMap BM.hl) ++ m.hl ++ (d.bms.drop (k + 1)).flatMap BM.hl := by
    unfold BD.hl; rw [fm_split _ _ _ _ hm]; simp [List.append_assoc]
  have e2 : ({ d with bms := d.bms.set k m' } : BD).hl = ((d.b, isC 158 d.cells) :: (d.mb, isMI (upk d.ps)) :: (d.bms.take k).flatMap BM.hl) ++ m'.hl ++ (d.bms.drop (k + 1)).flatMap BM.hl := by
    unfold BD.hl; rw [ec, fm_set _ _ _ _ hk]; simp [List.append_assoc]
  rw [e1] at h
  rw [e1, e2]
  exact Step.frame _ _ h hs
end
theorem BD.Is.get {d : BD} {G : Nat → Nat → Bool} (h : d.Is G) (k : Nat) (hk : k ≤ d.top) : ∃ m, d.bms[k]? = some m ∧ m.bits = (List.range (2 ^ (d.top - k))).map (G k) := by
  have : k < d.bms.length := by rw [h.len]; omega
  exact ⟨_, List.getElem?_eq_getElem this, h.bits k _ (List.getElem?_eq_getElem this)⟩
theorem pow_le20 {t k : Nat} (h : t ≤ 20) : 2 ^ (t - k) ≤ 1048576 := Nat.le_trans (Nat.pow_le_pow_right (by omega) (by omega : t - k ≤ 20)) (by decide)
/-- The first one that is so, of order k. -/
def fstG (G : Nat → Nat → Bool) (top k s : Nat) : Option Nat := firstI ((List.range (2 ^ (top - k))).map (G k)) true s
theorem bd_first {w : World} {d : BD} {G : Nat → Nat → Bool} (h : Sep w d.hl) (hi : d.Is G) (k : Nat) (hk : k ≤ d.top) (s : Nat) (hs : s ≤ 1048576) : ∃ b, w.cell? ⟨d.b, 1 + k, none⟩ = some (.pointer (some ⟨b, 0, none⟩)) ∧
    Calls Tryz.prog 88 #[.pointer (some ⟨b, 0, none⟩), .bool true, .int .i64 s] w fun r w' => r = .returned (.int .i64 (optI (fstG G d.top k s))) ∧ w = w' := by
  obtain ⟨m, hm, hb⟩ := hi.get k hk
  refine ⟨m.b, BD.cf h k m hm, ?_⟩
  have := bmfirst_any (BD.bm h k m hm) true s hs (by rw [hb]; simpa using pow_le20 hi.top)
  rw [hb] at this
  exact this
theorem map_set_same {α β : Type} (f : α → β) (L : List α) (k : Nat) (x y : α) (h : L[k]? = some x) (e : f y = f x) : (L.set k y).map f = L.map f := by
  apply List.ext_getElem?
  intro j
  rw [List.getElem?_map, List.getElem?_map, List.getElem?_set]
  by_cases hj : k = j
  · subst hj
    have hk : k < L.length := (List.getElem?_eq_some_iff.1 h).1
    rw [if_pos rfl, if_pos hk, h]
    simp [e]
  · rw [if_neg hj]
/-- How a state follows another. -/
structure BD.To (d d' : BD) (w w' : World) : Prop where
  b : d'.b = d.b
  mb : d'.mb = d.mb
  top : d'.top = d.top
  ps : d'.ps = d.ps
  step : Step d.hl d'.hl w w'
  ptrs : d'.bms.map BM.b = d.bms.map BM.b
theorem BD.To.refl {d : BD} {w : World} (h : Sep w d.hl) : d.To d w w := ⟨rfl, rfl, rfl, rfl, Step.refl h, rfl⟩
theorem BD.To.trans {d d1 d2 : BD} {w w1 w2 : World} (h : d.To d1 w w1) (k : d1.To d2 w1 w2) : d.To d2 w w2 := ⟨k.b.trans h.b, k.mb.trans h.mb, k.top.trans h.top, k.ps.trans h.ps, h.step.trans k.step, k.ptrs.trans h.ptrs⟩
def SetG (d : BD) (w : World) (n : Int) (G : Nat → Nat → Bool) (r : Ending) (w' : World) : Prop := r = .returned (.int .i64 n) ∧ ∃ d', d.To d' w w' ∧ d'.Is G
/-- Setting one bit that isn't so. -/
theorem bd_set {w : World} {d : BD} {G : Nat → Nat → Bool} (h : Sep w d.hl) (hi : d.Is G) (k i : Nat) (on : Bool) (hk : k ≤ d.top) (hik : i < 2 ^ (d.top - k)) (hne : G k i ≠ on) : ∃ b, w.cell? ⟨d.b, 1 + k, none⟩ = some (.pointer (some ⟨b, 0, none⟩)) ∧
    Calls Tryz.prog 148 #[.pointer (some ⟨b, 0, none⟩), .bool on, .slice (some ⟨w.heap.size, 0, none⟩) 1 1] (w.alloc (.cells #[.int .i64 i] 3)) (SetG d w 1 (upG G k i on)) := by
  obtain ⟨m, hm, hb⟩ := hi.get k hk
  refine ⟨m.b, BD.cf h k m hm, ?_⟩
  have hlen : m.bits.length = 2 ^ (d.top - k) := by rw [hb]; simp
  have hget : m.bits[i]?.getD false = G k i := by rw [hb]; simp [hik]
  have hs := BD.bm h k m hm
  refine (bmset_turn (hs.alloc (.cells #[.int .i64 i] 3)) on i (by rw [hlen]; exact hik) (by rw [hlen]; exact pow_le20 hi.top) (by rw [hget]; exact hne) w.heap.size ((Cells.new w 3 [.int .i64 i]).cell 0 _ rfl) (fun hb => by have := hs.lt hb; omega)).mono ?_
  rintro r w' ⟨rfl, hst⟩
  refine ⟨rfl, { d with bms := d.bms.set k { m with bits := m.bits.set i on } }, ⟨rfl, rfl, rfl, rfl, BD.setBm h k m { m with bits := m.bits.set i on } hm rfl hst.from_alloc, map_set_same BM.b _ _ _ _ hm rfl⟩, ⟨by simpa using hi.len, hi.top, ?_⟩⟩
  intro l m' hm'
  rw [List.getElem?_set] at hm'
  by_cases hl : k = l
  · subst hl
    have hkl : k < d.bms.length := by rw [hi.len]; omega
    simp only [if_true, hkl] at hm'
    cases hm'
    show m.bits.set i on = _
    rw [hb, range_set]
    apply List.map_congr_left
    intro j _
    unfold upG; simp
  · rw [if_neg hl] at hm'
    rw [hi.bits l m' hm']
    apply List.map_congr_left
    intro j _
    unfold upG
    rw [if_neg]; rintro ⟨e, _⟩; exact hl e.symm
theorem BD.To.ptr {d d' : BD} {w w' : World} (h : d.To d' w w') {k : Nat} {b : Nat} (hm : (d.bms.map BM.b)[k]? = some b) : w'.cell? ⟨d.b, 1 + k, none⟩ = some (.pointer (some ⟨b, 0, none⟩)) := by
  rw [← h.ptrs, List.getElem?_map] at hm
  cases hx : d'.bms[k]? with
  | none => rw [hx] at hm; cases hm
  | some m =>
    rw [hx] at hm
    have : m.b = b := Option.some.inj hm
    have hc := BD.cf h.step.sep k m hx
    rw [h.b, this] at hc; exact hc
/-- Setting one that is so already. -/
theorem bd_same {w : World} {d : BD} {G : Nat → Nat → Bool} (h : Sep w d.hl) (hi : d.Is G) (k i : Nat) (on : Bool) (hk : k ≤ d.top) (hik : i < 2 ^ (d.top - k)) (hne : G k i = on) : ∃ b, w.cell? ⟨d.b, 1 + k, none⟩ = some (.pointer (some ⟨b, 0, none⟩)) ∧
    Calls Tryz.prog 148 #[.pointer (some ⟨b, 0, none⟩), .bool on, .slice (some ⟨w.heap.size, 0, none⟩) 1 1] (w.alloc (.cells #[.int .i64 i] 3)) (SetG d w 0 G) := by
  obtain ⟨m, hm, hb⟩ := hi.get k hk
  refine ⟨m.b, BD.cf h k m hm, ?_⟩
  have hlen : m.bits.length = 2 ^ (d.top - k) := by rw [hb]; simp
  have hget : m.bits[i]?.getD false = G k i := by rw [hb]; simp [hik]
  refine (bmset_same ((BD.bm h k m hm).alloc (.cells #[.int .i64 i] 3)) on i (by rw [hlen]; exact hik) (by rw [hlen]; exact pow_le20 hi.top) (by rw [hget]; exact hne) w.heap.size ((Cells.new w 3 [.int .i64 i]).cell 0 _ rfl)).mono ?_
  rintro r w' ⟨rfl, rfl⟩
  exact ⟨rfl, d, ⟨rfl, rfl, rfl, rfl, (Step.refl (h.alloc _)).from_alloc, rfl⟩, hi⟩
end Go.Proofs.YtcnbbenmlffgpaaGreatDoor

/- Walk of the allocator's Take, of one page. Conditions: the blocks hold what BD.hl says, the free blocks are those that the used pages leave. -/
namespace Go.Proofs.YtcnbbenmlffgpaaGreatDoor
open Go.RowKit

set_option maxHeartbeats 1000000 in
theorem btake_none {w : World} {d : BD} {G : Nat → Nat → Bool} (h : Sep w d.hl) (hi : d.Is G) (hn : ∀ k, k ≤ d.top → fstG G d.top k 0 = none) :
    Calls Tryz.prog 112 #[.pointer (some ⟨d.b, 0, none⟩), .int .i64 0] w fun r w' => r = .returned (.tuple #[.int .i64 0, .int .i64 4]) ∧ w = w' := by
  have c0 := BD.c0 h
  have HF := hidden (show ∀ k, k ≤ d.top → ∃ b, w.cell? ⟨d.b, 1 + k, none⟩ = some (.pointer (some ⟨b, 0, none⟩)) ∧ Calls Tryz.prog 88 #[.pointer (some ⟨b, 0, none⟩), .bool true, .int .i64 0] w fun r w' => r = .returned (.int .i64 (-1)) ∧ w = w' from fun k hk => by
    obtain ⟨b, h1, h2⟩ := bd_first h hi k hk 0 (by omega)
    rw [hn k hk] at h2
    exact ⟨b, h1, h2⟩)
  have ht := hi.top
  clear h hi hn
  generalize d.top = top at *
  go_enter Tryz.func112, Tryz.ntmps112
  go_wp2_with fail
  go_loop [6, 7] (fun kv iv => ∃ k : Nat, kv = .int .i64 k ∧ iv = .int .i64 (-1) ∧ k ≤ top + 1) (fun kv _ => top + 1 - (intOf kv).toNat)
  case atStart => exact ⟨0, rfl, rfl, by omega⟩
  case round =>
    obtain ⟨k, rfl, rfl, hk⟩ := hrel
    by_cases hlt : k ≤ top
    · obtain ⟨b, hc, hcall⟩ := HF.out k hlt
      go_wp2_with (go_at_call 88; refine hcall.mono ?_; rintro e w' ⟨rfl, rfl⟩)
      go_round
      case rel => exact ⟨k + 1, by go_num, rfl, by omega⟩
      case measure => simp [intOf]; omega
    · go_wp2_with fail
      go_ret2
      exact ⟨rfl, rfl⟩

/-- What the bits are while a block is parted: down to order j. -/
def spl (G : Nat → Nat → Bool) (k0 i0 j : Nat) : Nat → Nat → Bool := fun l x => if l < j then G l x else if l < k0 then (G l x || (x == i0 * 2 ^ (k0 - l) + 1)) else if l = k0 then (G l x && !(x == i0)) else G l x
theorem spl_top (G : Nat → Nat → Bool) (k0 i0 : Nat) : upG G k0 i0 false = spl G k0 i0 k0 := by
  funext l x
  unfold upG spl
  by_cases h : l = k0
  · subst h
    by_cases h2 : x = i0 <;> simp [h2]
  · by_cases h2 : l < k0
    · simp [h, h2]
    · simp [h, h2]
theorem spl_step (G : Nat → Nat → Bool) (k0 i0 j : Nat) (hj : j < k0) : upG (spl G k0 i0 (j + 1)) j (i0 * 2 ^ (k0 - j) + 1) true = spl G k0 i0 j := by
  funext l x
  unfold upG spl
  by_cases h : l = j
  · subst h
    have h1 : ¬ l < l := by omega
    have h2 : l < l + 1 := by omega
    by_cases hx : x = i0 * 2 ^ (k0 - l) + 1
    · simp [hj, h1, hx]
    · have e : (x == i0 * 2 ^ (k0 - l) + 1) = false := by simpa using hx
      simp [hj, h1, h2, hx, e]
  · have e : (l < j + 1) = (l < j) := by apply propext; omega
    simp [h, e]
theorem spl_end (ps : List Nat) (top k0 i0 : Nat) (hk : k0 ≤ top) (hf : fre (uOf ps) top k0 i0 = true) (l x : Nat) (hl : l ≤ top) : spl (fre (uOf ps) top) k0 i0 0 l x = fre (uOf (ps ++ [i0 * 2 ^ k0])) top l x := by
  have hp : i0 * 2 ^ k0 / 2 ^ k0 = i0 := Nat.mul_div_cancel _ (Nat.two_pow_pos k0)
  rw [uOf_snoc, fre_take _ top k0 (i0 * 2 ^ k0) hk (by rw [hp]; exact hf) l x hl, hp]
  unfold spl
  rw [if_neg (by omega)]
  by_cases h1 : l < k0
  · rw [if_pos h1, if_pos h1]
    have e : i0 * 2 ^ k0 / 2 ^ l = i0 * 2 ^ (k0 - l) := by
      rw [show (2 : Nat) ^ k0 = 2 ^ (k0 - l) * 2 ^ l from by rw [← Nat.pow_add]; congr 1; omega, ← Nat.mul_assoc]
      exact Nat.mul_div_cancel _ (Nat.two_pow_pos l)
    have e2 : sib (i0 * 2 ^ (k0 - l)) = i0 * 2 ^ (k0 - l) + 1 := by
      unfold sib
      rw [if_pos]
      rw [show k0 - l = (k0 - l - 1) + 1 from by omega, Nat.pow_succ, ← Nat.mul_assoc]; omega
    rw [e, e2]
  · rw [if_neg h1, if_neg h1]
theorem half_free {ps : List Nat} {top k0 i0 : Nat} (hk : k0 ≤ top) (hf : fre (uOf ps) top k0 i0 = true) (j : Nat) (hj : j < k0) : fre (uOf ps) top j (i0 * 2 ^ (k0 - j) + 1) = false := by
  cases h : fre (uOf ps) top j (i0 * 2 ^ (k0 - j) + 1) with
  | false => rfl
  | true =>
    have e1 : (i0 * 2 ^ (k0 - j) + 1) * 2 ^ j / 2 ^ j = i0 * 2 ^ (k0 - j) + 1 := Nat.mul_div_cancel _ (Nat.two_pow_pos j)
    have e2 : (i0 * 2 ^ (k0 - j) + 1) * 2 ^ j / 2 ^ k0 = i0 := by
      rw [show (2 : Nat) ^ k0 = 2 ^ j * 2 ^ (k0 - j) from by rw [← Nat.pow_add]; congr 1; omega, ← Nat.div_div_eq_div_mul, e1, Nat.add_comm, Nat.add_mul_div_right _ _ (Nat.two_pow_pos _), Nat.div_eq_of_lt (Nat.one_lt_two_pow (by omega)), Nat.zero_add]
    have := fre_apart (by omega) hk h hf e1 e2
    omega
def TakeP (d : BD) (p : Nat) (w : World) (r : Ending) (w' : World) : Prop := r = .returned (.tuple #[.int .i64 ((1024 * p : Nat) : Int), .int .i64 0]) ∧
  ∃ d' : BD, d'.b = d.b ∧ d'.top = d.top ∧ d'.ps = d.ps ++ [p] ∧ d'.At ∧ Step d.hl d'.hl w w'
theorem BD.putMap {w w' : World} {d : BD} (h : Sep w d.hl) (ps' : List Nat) (hm : MapInt w' d.mb (upk ps')) (hg : w.grownBy w' (some d.mb)) : Step d.hl ({ d with ps := ps' } : BD).hl w w' := by
  obtain ⟨es, clock, ho, hr⟩ := hm
  exact Sep.turn (A := [(d.b, isC 158 d.cells)]) (B := d.bms.flatMap BM.hl) h hg ⟨_, ho, es, clock, rfl, hr⟩
set_option maxHeartbeats 4000000 in
set_option maxRecDepth 100000 in
theorem btake_some {w : World} {d : BD} (h : Sep w d.hl) (ha : d.At) (k0 i0 : Nat) (hk0 : k0 ≤ d.top) (hf : fstG (fre (uOf d.ps) d.top) d.top k0 0 = some i0) (hp : ∀ k, k < k0 → fstG (fre (uOf d.ps) d.top) d.top k 0 = none) :
    Calls Tryz.prog 112 #[.pointer (some ⟨d.b, 0, none⟩), .int .i64 0] w (TakeP d (i0 * 2 ^ k0) w) := by
  obtain ⟨s1, s2, s3, s4⟩ := firstI_spec hf
  have hi0 : i0 < 2 ^ (d.top - k0) := by simpa using s1
  have hfree : fre (uOf d.ps) d.top k0 i0 = true := by simpa [hi0] using s3
  have ht := ha.is.top
  have hpt : i0 * 2 ^ k0 < 2 ^ d.top := by
    have : i0 * 2 ^ k0 < 2 ^ (d.top - k0) * 2 ^ k0 := Nat.mul_lt_mul_of_pos_right hi0 (Nat.two_pow_pos _)
    rwa [← Nat.pow_add, show d.top - k0 + k0 = d.top from by omega] at this
  have hpn : i0 * 2 ^ k0 ∉ d.ps := by
    have := fre_clear hfree (p := i0 * 2 ^ k0) (Nat.mul_div_cancel _ (Nat.two_pow_pos k0))
    simpa [uOf] using this
  have hib : ∀ j, j ≤ k0 → i0 * 2 ^ (k0 - j) + 1 ≤ 1048576 ∧ i0 * 2 ^ (k0 - j) < 2 ^ (d.top - j) := by
    intro j hj
    have h1 : i0 * 2 ^ (k0 - j) < 2 ^ (d.top - k0) * 2 ^ (k0 - j) := Nat.mul_lt_mul_of_pos_right hi0 (Nat.two_pow_pos _)
    rw [← Nat.pow_add, show d.top - k0 + (k0 - j) = d.top - j from by omega] at h1
    have := pow_le20 (k := j) ht
    omega
  have c0 := BD.c0 h
  have hi := ha.is
  have HF := hidden (show ∀ k, k < k0 → ∃ b, w.cell? ⟨d.b, 1 + k, none⟩ = some (.pointer (some ⟨b, 0, none⟩)) ∧ Calls Tryz.prog 88 #[.pointer (some ⟨b, 0, none⟩), .bool true, .int .i64 0] w fun r w' => r = .returned (.int .i64 (-1)) ∧ w = w' from fun k hk => by
    obtain ⟨b, h1, h2⟩ := bd_first h hi k (by omega) 0 (by omega)
    rw [hp k hk] at h2
    exact ⟨b, h1, h2⟩)
  have HF0 : Hid (∃ b, w.cell? ⟨d.b, 1 + k0, none⟩ = some (.pointer (some ⟨b, 0, none⟩)) ∧ (Calls Tryz.prog 88 #[.pointer (some ⟨b, 0, none⟩), .bool true, .int .i64 0] w fun r w' => r = .returned (.int .i64 i0) ∧ w = w') ∧
      Calls Tryz.prog 148 #[.pointer (some ⟨b, 0, none⟩), .bool false, .slice (some ⟨w.heap.size, 0, none⟩) 1 1] (w.alloc (.cells #[.int .i64 i0] 3)) (SetG d w 1 (spl (fre (uOf d.ps) d.top) k0 i0 k0))) := by
    obtain ⟨b, h1, h2⟩ := bd_first h hi k0 hk0 0 (by omega)
    rw [hf] at h2
    obtain ⟨b', h3, h4⟩ := bd_set h hi k0 i0 false hk0 hi0 (by rw [hfree]; decide)
    rw [h1] at h3
    cases h3
    rw [spl_top] at h4
    exact ⟨b, h1, h2, h4⟩
  have HStep := hidden (show ∀ j wr d1, j < k0 → d.To d1 w wr → d1.Is (spl (fre (uOf d.ps) d.top) k0 i0 (j + 1)) → ∃ b, wr.cell? ⟨d.b, 1 + j, none⟩ = some (.pointer (some ⟨b, 0, none⟩)) ∧
      Calls Tryz.prog 148 #[.pointer (some ⟨b, 0, none⟩), .bool true, .slice (some ⟨wr.heap.size, 0, none⟩) 1 1] (wr.alloc (.cells #[.int .i64 ((i0 * 2 ^ (k0 - j) + 1 : Nat) : Int)] 3)) fun r w' => r = .returned (.int .i64 1) ∧ ∃ d2, d.To d2 w w' ∧ d2.Is (spl (fre (uOf d.ps) d.top) k0 i0 j) from fun j wr d1 hj hto his => by
    obtain ⟨b1, b2⟩ := hib j (by omega)
    have hodd : i0 * 2 ^ (k0 - j) + 1 < 2 ^ (d.top - j) := by
      have e1 : i0 * 2 ^ (k0 - j) = 2 * (i0 * 2 ^ (k0 - j - 1)) := by
        rw [show k0 - j = (k0 - j - 1) + 1 from by omega, Nat.pow_succ, Nat.add_sub_cancel]
        simp only [Nat.mul_comm, Nat.mul_left_comm]
      have e2 : 2 ^ (d.top - j) = 2 * 2 ^ (d.top - j - 1) := by
        rw [← Nat.pow_succ']; congr 1; omega
      omega
    have hne : spl (fre (uOf d.ps) d.top) k0 i0 (j + 1) j (i0 * 2 ^ (k0 - j) + 1) ≠ true := by
      unfold spl
      rw [if_pos (by omega), half_free hk0 hfree j hj]; decide
    obtain ⟨b, h3, h4⟩ := bd_set hto.step.sep his j (i0 * 2 ^ (k0 - j) + 1) true (by rw [hto.top]; omega) (by rw [hto.top]; exact hodd) hne
    rw [hto.b] at h3
    refine ⟨b, h3, h4.mono ?_⟩
    rintro r w' ⟨rfl, d2, hto2, his2⟩
    rw [spl_step _ _ _ _ hj] at his2
    exact ⟨rfl, d2, hto.trans hto2, his2⟩)
  have HEnd := hidden (show ∀ wr d1, d.To d1 w wr → d1.Is (spl (fre (uOf d.ps) d.top) k0 i0 0) → wr.cell? ⟨d.b, 22, none⟩ = some (.map (some d.mb)) ∧ MapInt wr d.mb (upk d.ps) ∧ ∀ w2, MapInt w2 d.mb (put (upk d.ps) ((1024 * (i0 * 2 ^ k0) : Nat) : Int) (.int .i64 0)) → wr.grownBy w2 (some d.mb) → TakeP d (i0 * 2 ^ k0) w (.returned (.tuple #[.int .i64 ((1024 * (i0 * 2 ^ k0) : Nat) : Int), .int .i64 0])) w2 from fun wr d1 hto his => by
    have hs := hto.step.sep
    have hc := BD.cm hs (by rw [his.len, hto.top]; omega)
    have hmp := BD.map hs
    rw [hto.b, hto.mb] at hc
    rw [hto.mb, hto.ps] at hmp
    refine ⟨hc, hmp, fun w2 hm2 hg2 => ⟨rfl, { d1 with ps := d.ps ++ [i0 * 2 ^ k0] }, hto.b, hto.top, rfl, ⟨⟨his.len, his.top, ?_⟩, ?_, ?_⟩, ?_⟩⟩
    · intro k m hm
      rw [his.bits k m hm]
      have hkt : k ≤ d1.top := by
        have h1 : k < d1.bms.length := (List.getElem?_eq_some_iff.1 hm).1
        have h2 : d1.bms.length = d1.top + 1 := his.len
        omega
      apply List.map_congr_left
      intro x _
      show spl (fre (uOf d.ps) d.top) k0 i0 0 k x = fre (uOf (d.ps ++ [i0 * 2 ^ k0])) d1.top k x
      rw [hto.top]
      exact spl_end _ _ _ _ hk0 hfree k x (by rw [← hto.top]; exact hkt)
    · rw [List.nodup_append]
      refine ⟨ha.nd, by simp, ?_⟩
      intro a ha' b hb e
      simp at hb; subst hb; subst e
      exact hpn ha'
    · intro p hp'
      show p < 2 ^ d1.top
      rw [hto.top]
      rcases List.mem_append.1 hp' with h1 | h1
      · exact ha.lt p h1
      · simp at h1; subst h1; exact hpt
    · rw [put_upk _ _ hpn] at hm2
      have hm3 : MapInt w2 d1.mb (upk (d.ps ++ [i0 * 2 ^ k0])) := by rw [hto.mb]; exact hm2
      rw [← hto.mb] at hg2
      exact hto.step.trans (BD.putMap hs _ hm3 hg2))
  have HTop := hidden (show ∀ wr d1, d.To d1 w wr → wr.cell? ⟨d.b, 0, none⟩ = some (.int .i64 d.top) from fun wr d1 hto => by
    have := BD.c0 hto.step.sep
    rw [hto.b, hto.top] at this; exact this)
  have HIB := hidden hib
  clear h ha hi hf hp s1 s2 s3 s4 hfree hpn hib
  generalize hG : spl (fre (uOf d.ps) d.top) k0 i0 = S at *
  clear hG
  generalize d.top = top at *
  go_enter Tryz.func112, Tryz.ntmps112
  go_wp2_with fail
  go_loop [6, 7] (fun kv iv => ∃ k : Nat, kv = .int .i64 k ∧ iv = .int .i64 (-1) ∧ k ≤ k0) (fun kv _ => k0 + 1 - (intOf kv).toNat)
  case atStart => exact ⟨0, rfl, rfl, by omega⟩
  case round =>
    obtain ⟨k, rfl, rfl, hk⟩ := hrel
    have hkt : k ≤ top := by omega
    by_cases hlt : k < k0
    · obtain ⟨b, hc, hcall⟩ := HF.out k hlt
      go_wp2_with (go_at_call 88; refine hcall.mono ?_; rintro e w' ⟨rfl, rfl⟩)
      go_round
      case rel => exact ⟨k + 1, by go_num, rfl, by omega⟩
      case measure => simp [intOf]; omega
    · obtain rfl : k = k0 := by omega
      obtain ⟨b, hc, hcall, hset⟩ := HF0.out
      obtain ⟨hb1, hb2⟩ := HIB.out k (Nat.le_refl _)
      rw [Nat.sub_self, Nat.pow_zero, Nat.mul_one] at hb1
      clear hb2
      go_wp2_with fail
      refine hcall.mono ?_
      rintro e w' ⟨rfl, rfl⟩
      go_wp2_with fail
      refine hset.mono ?_
      rintro e w1 ⟨rfl, d1, hto, his⟩
      have HTo := hidden hto
      have HIs := hidden his
      clear hto his hset hcall hc
      go_wp2_with fail
      go_loopw [6, 7] (fun jv iv wr => ∃ (j : Nat) (d2 : BD), jv = .int .i64 j ∧ iv = .int .i64 ((i0 * 2 ^ (k - j) : Nat) : Int) ∧ j ≤ k ∧ d.To d2 w wr ∧ d2.Is (S j)) (fun jv _ _ => (intOf jv).toNat)
      case atStart => exact ⟨k, d1, rfl, by simp, Nat.le_refl _, HTo.out, HIs.out⟩
      case round =>
        obtain ⟨j, d2, rfl, rfl, hj, hto, his⟩ := hrel
        have hct := HTop.out _ _ hto
        by_cases hj0 : j = 0
        · subst hj0
          obtain ⟨hcm, hmp, hfin⟩ := HEnd.out _ _ hto his
          have HFin := hidden hfin
          clear hfin
          have hv : ((1024 * (i0 * 2 ^ k) : Nat) : Int) = ((i0 * 2 ^ (k - 0) : Nat) : Int) * 1024 := by rw [Nat.sub_zero]; omega
          have hb : i0 * 2 ^ (k - 0) < 1048576 := by
            have := (HIB.out 0 (by omega)).1; omega
          rw [hv] at HFin
          generalize i0 * 2 ^ (k - 0) = p at *
          clear hv
          go_wp2_with (refine wpList_mapUpdate_int _ rfl _ _ _ 156 3 3 rfl Tryz.underlying156 Tryz.underlying3 d.mb (upk d.ps) hmp _ _ rfl rfl rfl ?_; intro w2 hm2 hg2)
          go_ret2
          exact HFin.out _ hm2 hg2
        · obtain ⟨l, rfl⟩ : ∃ l, j = l + 1 := ⟨j - 1, by omega⟩
          obtain ⟨b2, hc2, hset2⟩ := HStep.out l wr d2 (by omega) hto his
          have hI : i0 * 2 ^ (k - l) = i0 * 2 ^ (k - (l + 1)) * 2 := by
            rw [show k - l = k - (l + 1) + 1 from by omega, Nat.pow_succ, Nat.mul_assoc]
          have hb := (HIB.out l (by omega)).1
          have hrw : ((i0 * 2 ^ (k - l) + 1 : Nat) : Int) = ((i0 * 2 ^ (k - (l + 1)) : Nat) : Int) * 2 + 1 := by rw [hI]; omega
          have hrw2 := hidden (show ((i0 * 2 ^ (k - l) : Nat) : Int) = ((i0 * 2 ^ (k - (l + 1)) : Nat) : Int) * 2 from by rw [hI]; omega)
          rw [hrw] at hset2
          rw [hI] at hb
          clear hrw hI hto his
          generalize i0 * 2 ^ (k - (l + 1)) = p at *
          have hl1 : ((l + 1 : Nat) : Int) = (l : Int) + 1 := by omega
          go_wp2_with fail
          refine hset2.mono ?_
          rintro e w2 ⟨rfl, d3, hto3, his3⟩
          go_wp2_with fail
          go_roundw
          case rel => exact ⟨l, d3, by go_num, by rw [hrw2.out], by omega, hto3, his3⟩
          case measure => simp [intOf]
end Go.Proofs.YtcnbbenmlffgpaaGreatDoor
