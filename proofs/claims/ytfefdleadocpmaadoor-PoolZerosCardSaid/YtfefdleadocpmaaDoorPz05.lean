/- PoolZeros returns true at every input, with the three listed tables tied to the program's text. No condition. Part of its proof. -/
import Derived.Test.YtfefdleadocpmaaDoorPz01
import Derived.Test.YtfefdleadocpmaaDoorPz02
import Derived.Test.YtfefdleadocpmaaDoorPz04
import Derived.Deep.RegionHeld3
import Derived.Deep.RegionWith
/- The buddies' free blocks as a function of the used pages: plain numbers. No condition. -/
namespace Go.Proofs.YtfefdleadocpmaaDoor

/-- Is the block of order k and number i clear of used pages? -/
def clr (u : Nat → Bool) (k i : Nat) : Bool := (List.range (2 ^ k)).all fun j => !u (i * 2 ^ k + j)
theorem clr_iff (u : Nat → Bool) (k i : Nat) : clr u k i = true ↔ ∀ p, p / 2 ^ k = i → u p = false := by
  unfold clr
  rw [List.all_eq_true]
  have hk : 0 < 2 ^ k := Nat.two_pow_pos k
  constructor
  · intro h p hp
    have := h (p % 2 ^ k) (List.mem_range.2 (Nat.mod_lt _ hk))
    have e : i * 2 ^ k + p % 2 ^ k = p := by
      rw [← hp, Nat.mul_comm]; exact Nat.div_add_mod p (2 ^ k)
    rw [e] at this; simpa using this
  · intro h j hj
    have hj' := List.mem_range.1 hj
    have : u (i * 2 ^ k + j) = false := h _ (by rw [Nat.add_comm, Nat.add_mul_div_right _ _ hk, Nat.div_eq_of_lt hj', Nat.zero_add])
    simp [this]
theorem clr_zero (u : Nat → Bool) (p : Nat) : clr u 0 p = !u p := by simp [clr]
theorem div_succ (p k : Nat) : p / 2 ^ (k + 1) = p / 2 ^ k / 2 := by rw [Nat.pow_succ, Nat.div_div_eq_div_mul]
/-- A block is clear just if both halves are. -/
theorem clr_half (u : Nat → Bool) (k i : Nat) : clr u (k + 1) i = (clr u k (2 * i) && clr u k (2 * i + 1)) := by
  rw [Bool.eq_iff_iff, Bool.and_eq_true, clr_iff, clr_iff, clr_iff]
  constructor
  · intro h
    exact ⟨fun p hp => h p (by rw [div_succ, hp]; omega), fun p hp => h p (by rw [div_succ, hp]; omega)⟩
  · rintro ⟨h1, h2⟩ p hp
    rw [div_succ] at hp
    have : p / 2 ^ k = 2 * i ∨ p / 2 ^ k = 2 * i + 1 := by omega
    rcases this with h | h
    · exact h1 p h
    · exact h2 p h
/-- Is the block of order k and number i free, as one? top: the order of the whole. -/
def fre (u : Nat → Bool) (top k i : Nat) : Bool := clr u k i && (k == top || !clr u (k + 1) (i / 2))
def setU (u : Nat → Bool) (p : Nat) (b : Bool) : Nat → Bool := fun x => if x = p then b else u x
theorem clr_set_true (u : Nat → Bool) (p k i : Nat) : clr (setU u p true) k i = (clr u k i && !(p / 2 ^ k == i)) := by
  rw [Bool.eq_iff_iff, Bool.and_eq_true, clr_iff, clr_iff]
  simp only [Bool.not_eq_true', beq_eq_false_iff_ne, setU]
  constructor
  · intro h
    refine ⟨fun q hq => ?_, fun e => ?_⟩
    · have := h q hq
      split at this
      · cases this
      · exact this
    · have := h p e; simp at this
  · rintro ⟨h1, h2⟩ q hq
    rw [if_neg (fun e : q = p => h2 (by rw [← e]; exact hq))]; exact h1 q hq
theorem clr_set_false (u : Nat → Bool) (p k i : Nat) (h : p / 2 ^ k ≠ i) : clr (setU u p false) k i = clr u k i := by
  rw [Bool.eq_iff_iff, clr_iff, clr_iff]
  constructor
  · intro a q hq
    have := a q hq
    simp only [setU] at this
    split at this
    · rename_i e; subst e; exact absurd hq h
    · exact this
  · intro a q hq
    simp only [setU]
    rw [if_neg (fun e : q = p => h (by rw [← e]; exact hq))]; exact a q hq
theorem clr_up {u : Nat → Bool} {k i : Nat} (h : clr u (k + 1) (i / 2) = true) : clr u k i = true := by
  rw [clr_half, Bool.and_eq_true] at h
  have : i = 2 * (i / 2) ∨ i = 2 * (i / 2) + 1 := by omega
  rcases this with e | e
  · rw [e]; exact h.1
  · rw [e]; exact h.2
theorem clr_down {u : Nat → Bool} {k : Nat} (e : Nat) {i : Nat} (h : clr u (k + e) (i / 2 ^ e) = true) : clr u k i = true := by
  rw [clr_iff] at h ⊢
  intro p hp
  refine h p ?_
  rw [Nat.pow_add, ← Nat.div_div_eq_div_mul, hp]

/-- The other half of a block's parent. -/
def sib (i : Nat) : Nat := if i % 2 = 0 then i + 1 else i - 1
theorem sib_half (i : Nat) : sib i / 2 = i / 2 ∧ sib i ≠ i := by unfold sib; split <;> omega
theorem sib_of {x a : Nat} (h : x / 2 = a / 2) (hne : x ≠ a) : x = sib a := by unfold sib; split <;> omega

/-- What the taking of a page from the free block (k, i) does to the free blocks. -/
theorem fre_take (u : Nat → Bool) (top k p : Nat) (hk : k ≤ top) (h : fre u top k (p / 2 ^ k) = true) (j x : Nat) (hj : j ≤ top) :
    fre (setU u p true) top j x = if j < k then (fre u top j x || (x == sib (p / 2 ^ j))) else if j = k then (fre u top j x && !(x == p / 2 ^ k)) else fre u top j x := by
  unfold fre at h
  rw [Bool.and_eq_true] at h
  obtain ⟨hc, hp⟩ := h
  have above : ∀ m y, k < m → m ≤ top → clr u m y = true → p / 2 ^ m ≠ y := by
    intro m y hm hmt hcm e
    have hne : (k == top) = false := by simp; omega
    rw [hne] at hp
    simp only [Bool.false_or, Bool.not_eq_true'] at hp
    have : clr u (k + 1) (p / 2 ^ k / 2) = true := by
      refine clr_down (m - (k + 1)) ?_
      rw [show k + 1 + (m - (k + 1)) = m from by omega, ← div_succ, Nat.div_div_eq_div_mul, ← Nat.pow_add, show k + 1 + (m - (k + 1)) = m from by omega, e]
      exact hcm
    rw [this] at hp; cases hp
  have same : ∀ m y, k < m → m ≤ top → clr (setU u p true) m y = clr u m y := by
    intro m y hm hmt
    rw [clr_set_true]
    cases hcm : clr u m y with
    | false => rfl
    | true => simp [above m y hm hmt hcm]
  by_cases h1 : j < k
  · rw [if_pos h1]
    have hjt : (j == top) = false := by simp; omega
    have hdiv : p / 2 ^ j / 2 ^ (k - j) = p / 2 ^ k := by rw [Nat.div_div_eq_div_mul, ← Nat.pow_add, show j + (k - j) = k from by omega]
    unfold fre
    rw [clr_set_true, clr_set_true, div_succ, hjt]
    simp only [Bool.false_or]
    generalize hg : p / 2 ^ j = a at *
    obtain ⟨s1, s2⟩ := sib_half a
    by_cases hin : x / 2 ^ (k - j) = p / 2 ^ k
    · have c1 : clr u j x = true := clr_down (k - j) (by rw [hin, show j + (k - j) = k from by omega]; exact hc)
      have c2 : clr u (j + 1) (x / 2) = true := by
        refine clr_down (k - (j + 1)) ?_
        have e3 : x / 2 / 2 ^ (k - (j + 1)) = x / 2 ^ (k - j) := by
          rw [show k - j = (k - (j + 1)) + 1 from by omega, Nat.pow_succ', Nat.div_div_eq_div_mul]
        rw [show j + 1 + (k - (j + 1)) = k from by omega, e3, hin]; exact hc
      rw [c1, c2]
      simp only [Bool.true_and, Bool.not_true, Bool.and_false, Bool.false_or, Bool.not_not]
      rw [Bool.eq_iff_iff]
      simp only [Bool.and_eq_true, Bool.not_eq_true', beq_eq_false_iff_ne, beq_iff_eq]
      constructor
      · rintro ⟨e1, e2⟩; exact sib_of e2.symm (fun e => e1 e.symm)
      · rintro rfl; exact ⟨fun e => s2 e.symm, s1.symm⟩
    · have hx : x / 2 ≠ a / 2 := by
        intro e; apply hin
        rw [← hdiv, show k - j = (k - j - 1) + 1 from by omega, Nat.pow_succ', ← Nat.div_div_eq_div_mul, e, Nat.div_div_eq_div_mul]
      have e1 : (a == x) = false := by simp; omega
      have e2 : (a / 2 == x / 2) = false := by simp; omega
      have e3 : (x == sib a) = false := by simp; rintro rfl; exact hx s1
      rw [e1, e2, e3]; simp
  · rw [if_neg h1]
    by_cases h2 : j = k
    · subst h2
      rw [if_pos rfl]
      unfold fre
      rw [clr_set_true, show (p / 2 ^ j == x) = (x == p / 2 ^ j) from BEq.comm]
      by_cases ht : j = top
      · subst ht; simp
      · rw [same (j + 1) _ (by omega) (by omega)]
        cases clr u j x <;> cases (x == p / 2 ^ j) <;> simp
    · rw [if_neg h2]
      unfold fre
      rw [same j x (by omega) hj]
      by_cases ht : j = top
      · subst ht; simp
      · rw [same (j + 1) _ (by omega) (by omega)]
/-- A page that isn't used lies in a free block. -/
theorem fre_cover (u : Nat → Bool) (top p : Nat) (h : u p = false) : ∃ k, k ≤ top ∧ fre u top k (p / 2 ^ k) = true := by
  have key : ∀ n, n ≤ top → clr u n (p / 2 ^ n) = true ∨ ∃ k, k < n ∧ fre u top k (p / 2 ^ k) = true := by
    intro n
    induction n with
    | zero => intro _; left; rw [clr_zero]; simp [h]
    | succ n ih =>
      intro hn
      rcases ih (by omega) with hc | ⟨k, hk, hf⟩
      · cases hc2 : clr u (n + 1) (p / 2 ^ (n + 1)) with
        | true => exact .inl rfl
        | false =>
          right
          refine ⟨n, by omega, ?_⟩
          unfold fre
          rw [div_succ] at hc2
          rw [hc, hc2]; simp
      · exact .inr ⟨k, by omega, hf⟩
  rcases key top (Nat.le_refl _) with hc | ⟨k, hk, hf⟩
  · exact ⟨top, Nat.le_refl _, by unfold fre; rw [hc]; simp⟩
  · exact ⟨k, by omega, hf⟩
theorem fre_clear {u : Nat → Bool} {top k i p : Nat} (h : fre u top k i = true) (hp : p / 2 ^ k = i) : u p = false := by
  unfold fre at h
  rw [Bool.and_eq_true] at h
  exact (clr_iff u k i).1 h.1 p hp
/-- Two free blocks that share a page are one. -/
theorem fre_apart {u : Nat → Bool} {top k i l j p : Nat} (hk : k ≤ top) (hl : l ≤ top) (h : fre u top k i = true) (h' : fre u top l j = true) (hp : p / 2 ^ k = i) (hp' : p / 2 ^ l = j) : k = l ∧ i = j := by
  have main : ∀ {k l : Nat}, l ≤ top → fre u top k (p / 2 ^ k) = true → fre u top l (p / 2 ^ l) = true → ¬ k < l := by
    intro k l hl h h' hlt
    unfold fre at h h'
    rw [Bool.and_eq_true] at h h'
    have hne : (k == top) = false := by simp; omega
    rw [hne] at h
    simp only [Bool.false_or, Bool.not_eq_true'] at h
    have : clr u (k + 1) (p / 2 ^ k / 2) = true := by
      refine clr_down (l - (k + 1)) ?_
      rw [show k + 1 + (l - (k + 1)) = l from by omega, ← div_succ, Nat.div_div_eq_div_mul, ← Nat.pow_add, show k + 1 + (l - (k + 1)) = l from by omega]
      exact h'.1
    rw [this] at h; cases h.2
  subst hp; subst hp'
  have : k = l := Nat.le_antisymm (by have := main hk h' h; omega) (by have := main hl h h'; omega)
  subst this
  exact ⟨rfl, rfl⟩
theorem setU_back {u : Nat → Bool} {p : Nat} (h : u p = true) : setU (setU u p false) p true = u := by
  funext x; unfold setU; split
  · rename_i e; rw [e, h]
  · rfl
/-- What the giving back of page p does, where the blocks that hold p are clear up to order k, and no further. -/
theorem fre_give (u : Nat → Bool) (top p k : Nat) (hk : k ≤ top) (hu : u p = true) (hc : clr (setU u p false) k (p / 2 ^ k) = true) (hn : k < top → clr u k (sib (p / 2 ^ k)) = false) (j x : Nat) (hj : j ≤ top) :
    fre (setU u p false) top j x = if j < k then (fre u top j x && !(x == sib (p / 2 ^ j))) else if j = k then (fre u top j x || (x == p / 2 ^ k)) else fre u top j x := by
  have hf : fre (setU u p false) top k (p / 2 ^ k) = true := by
    unfold fre
    rw [hc, Bool.true_and, Bool.or_eq_true]
    by_cases ht : k = top
    · left; simp [ht]
    · right
      have h1 := hn (by omega)
      obtain ⟨s1, s2⟩ := sib_half (p / 2 ^ k)
      rw [clr_half, Bool.not_eq_true', Bool.and_eq_false_iff]
      rw [← clr_set_false u p k (sib (p / 2 ^ k)) (fun e => s2 e.symm)] at h1
      have : sib (p / 2 ^ k) = 2 * (p / 2 ^ k / 2) ∨ sib (p / 2 ^ k) = 2 * (p / 2 ^ k / 2) + 1 := by omega
      rcases this with e | e
      · left; rw [← e]; exact h1
      · right; rw [← e]; exact h1
  have main := fre_take (setU u p false) top k p hk hf j x hj
  rw [setU_back hu] at main
  by_cases h1 : j < k
  · rw [if_pos h1] at main ⊢
    rw [main]
    by_cases hx : x = sib (p / 2 ^ j)
    · obtain ⟨s1, s2⟩ := sib_half (p / 2 ^ j)
      have : fre (setU u p false) top j x = false := by
        cases hfx : fre (setU u p false) top j x with
        | false => rfl
        | true =>
          have e1 : x * 2 ^ j / 2 ^ j = x := Nat.mul_div_cancel _ (Nat.two_pow_pos j)
          have e2 : x * 2 ^ j / 2 ^ k = p / 2 ^ k := by
            rw [show k = j + (k - j) from by omega, Nat.pow_add, ← Nat.div_div_eq_div_mul, e1, ← Nat.div_div_eq_div_mul, show k - j = (k - j - 1) + 1 from by omega, Nat.pow_succ', ← Nat.div_div_eq_div_mul, ← Nat.div_div_eq_div_mul, hx, s1]
          have := fre_apart hj hk hfx hf e1 e2
          omega
      rw [this]; simp [hx]
    · have e9 : (x == sib (p / 2 ^ j)) = false := by simpa using hx
      rw [e9]; simp
  · rw [if_neg h1] at main ⊢
    by_cases h2 : j = k
    · subst h2
      rw [if_pos rfl] at main ⊢
      rw [main]
      by_cases hx : x = p / 2 ^ j
      · subst hx; rw [hf]; simp
      · have e9 : (x == p / 2 ^ j) = false := by simpa using hx
        rw [e9]; simp
    · rw [if_neg h2] at main ⊢
      exact main.symm
/-- Nothing is used: there is one free block, the whole. -/
theorem fre_none (u : Nat → Bool) (top : Nat) (h : ∀ p, p < 2 ^ top → u p = false) (k i : Nat) (hk : k ≤ top) (hi : i < 2 ^ (top - k)) : fre u top k i = decide (k = top) := by
  have hc : ∀ m y, m ≤ top → y < 2 ^ (top - m) → clr u m y = true := by
    intro m y hm hy
    rw [clr_iff]
    intro p hp
    refine h p ?_
    have h1 : p < (y + 1) * 2 ^ m := by rw [← hp]; rw [Nat.mul_comm]; exact Nat.lt_mul_div_succ p (Nat.two_pow_pos m)
    have h2 : (y + 1) * 2 ^ m ≤ 2 ^ (top - m) * 2 ^ m := Nat.mul_le_mul_right _ hy
    rw [← Nat.pow_add, show top - m + m = top from by omega] at h2
    omega
  unfold fre
  rw [hc k i hk hi]
  by_cases ht : k = top
  · subst ht; simp
  · have hk2 : i / 2 < 2 ^ (top - (k + 1)) := by
      rw [show top - k = top - (k + 1) + 1 from by omega, Nat.pow_succ] at hi
      omega
    rw [hc (k + 1) (i / 2) (by omega) hk2]
    simp [ht]
end Go.Proofs.YtfefdleadocpmaaDoor

/- The buddy allocator in memory: its bitmaps, its map of used pages. Conditions: the blocks hold what BD.hl says. -/
namespace Go.Proofs.YtfefdleadocpmaaDoor
open Go.RowKit

structure BD where
  b : Nat
  mb : Nat
  top : Nat
  bms : List BM
  ps : List Nat
def BD.cells (d : BD) : List Value := .int .i64 d.top :: (d.bms.map (fun m => ptr m.b) ++ List.replicate (21 - d.bms.length) (.pointer none) ++ [.map (some d.mb)])
def upk (ps : List Nat) : List (Int × Value) := ps.map fun p => (((1024 * p : Nat) : Int), .int .i64 0)
def BD.hl (d : BD) : HL := (d.b, isC 80 d.cells) :: (d.mb, isMI (upk d.ps)) :: d.bms.flatMap BM.hl
/-- The bitmap of order k has the bits that G says. -/
structure BD.Is (d : BD) (G : Nat → Nat → Bool) : Prop where
  len : d.bms.length = d.top + 1
  top : d.top ≤ 20
  bits : ∀ k m, d.bms[k]? = some m → m.bits = (List.range (2 ^ (d.top - k))).map (G k)
def uOf (ps : List Nat) : Nat → Bool := fun p => decide (p ∈ ps)
/-- The pages ps are used, the others are free. -/
structure BD.At (d : BD) : Prop where
  is : d.Is (fre (uOf d.ps) d.top)
  nd : d.ps.Nodup
  lt : ∀ p ∈ d.ps, p < 2 ^ d.top
def upG (G : Nat → Nat → Bool) (k i : Nat) (on : Bool) : Nat → Nat → Bool := fun l j => if l = k ∧ j = i then on else G l j

theorem look_upk (ps : List Nat) (p : Nat) : look (upk ps) ((1024 * p : Nat) : Int) = if p ∈ ps then some (.int .i64 0) else none := by
  induction ps with
  | nil => rfl
  | cons x r ih =>
    have ih' : look (r.map fun p => (((1024 * p : Nat) : Int), Value.int .i64 0)) ((1024 * p : Nat) : Int) = _ := ih
    by_cases h : p = x
    · subst h; simp [upk, look]
    · have h2 : ¬ ((1024 * p : Nat) : Int) = ((1024 * x : Nat) : Int) := by omega
      simp only [upk, List.map_cons, look, h2, if_false]
      rw [ih']; simp [h]
theorem look_upk_no (ps : List Nat) (x : Int) (h : ∀ p ∈ ps, x ≠ ((1024 * p : Nat) : Int)) : look (upk ps) x = none := by
  induction ps with
  | nil => rfl
  | cons y r ih =>
    have h2 := h y (by simp)
    simp only [upk, List.map_cons, look, h2, if_false]
    exact ih fun p hp => h p (by simp [hp])
theorem put_upk (ps : List Nat) (p : Nat) (h : p ∉ ps) : put (upk ps) ((1024 * p : Nat) : Int) (.int .i64 0) = upk (ps ++ [p]) := by
  induction ps with
  | nil => rfl
  | cons x r ih =>
    have h1 : ¬ p = x := fun e => h (by simp [e])
    have h2 : ¬ ((1024 * p : Nat) : Int) = ((1024 * x : Nat) : Int) := by omega
    have ih' := ih (fun hr => h (by simp [hr]))
    simp only [upk, List.map_cons, put, h2, if_false, List.cons_append] at ih' ⊢
    rw [ih']
theorem del_upk (ps : List Nat) (p : Nat) : del (upk ps) ((1024 * p : Nat) : Int) = upk (ps.erase p) := by
  induction ps with
  | nil => rfl
  | cons x r ih =>
    by_cases h : p = x
    · subst h; simp [upk, del]
    · have h2 : ¬ ((1024 * p : Nat) : Int) = ((1024 * x : Nat) : Int) := by omega
      have h3 : (x == p) = false := by simp; exact fun e => h e.symm
      have e1 : (x :: r).erase p = x :: r.erase p := by rw [List.erase_cons, h3]; rfl
      rw [e1]
      simp only [upk, List.map_cons, del, h2, if_false] at ih ⊢
      rw [ih]
theorem uOf_snoc (ps : List Nat) (p : Nat) : uOf (ps ++ [p]) = setU (uOf ps) p true := by
  funext x; unfold uOf setU
  by_cases h : x = p <;> simp [h]
theorem uOf_erase {ps : List Nat} (h : ps.Nodup) (p : Nat) : uOf (ps.erase p) = setU (uOf ps) p false := by
  funext x; unfold uOf setU
  simp only [h.mem_erase_iff]
  by_cases h : x = p <;> simp [h]

theorem range_set (G : Nat → Bool) (n i : Nat) (on : Bool) : ((List.range n).map G).set i on = (List.range n).map fun j => if j = i then on else G j := by
  apply List.ext_getElem?
  intro j
  rw [List.getElem?_set, List.getElem?_map, List.getElem?_map, List.length_map, List.length_range]
  by_cases h : i = j
  · subst h
    by_cases h2 : i < n
    · simp [h2]
    · simp [h2]
  · rw [if_neg h]
    by_cases h2 : j < n
    · simp [h2, show ¬ j = i from fun e => h e.symm]
    · rw [List.getElem?_eq_none (by simp; omega)]; rfl

section
variable {w : World} {d : BD} {G : Nat → Nat → Bool}
theorem BD.sepC (h : Sep w d.hl) : Cells w d.b 80 d.cells := h.cells (by simp [BD.hl])
theorem BD.c0 (h : Sep w d.hl) : w.cell? ⟨d.b, 0, none⟩ = some (.int .i64 d.top) := (BD.sepC h).cell 0 _ rfl
theorem BD.cf (h : Sep w d.hl) (k : Nat) (m : BM) (hm : d.bms[k]? = some m) : w.cell? ⟨d.b, 1 + k, none⟩ = some (ptr m.b) := by
  have hk : k < d.bms.length := (List.getElem?_eq_some_iff.1 hm).1
  refine (BD.sepC h).cell (1 + k) _ ?_
  unfold BD.cells
  rw [Nat.add_comm, List.getElem?_cons_succ, List.append_assoc, List.getElem?_append_left (by simpa using hk), List.getElem?_map, hm]; rfl
theorem BD.cm (h : Sep w d.hl) (hl : d.bms.length ≤ 21) : w.cell? ⟨d.b, 22, none⟩ = some (.map (some d.mb)) := by
  refine (BD.sepC h).cell 22 _ ?_
  unfold BD.cells
  have e : (d.bms.map (fun m => ptr m.b) ++ List.replicate (21 - d.bms.length) (Value.pointer none)).length = 21 := by simp; omega
  rw [List.getElem?_cons_succ, List.getElem?_append_right (by omega), e]
  rfl
theorem BD.map (h : Sep w d.hl) : MapInt w d.mb (upk d.ps) := h.map (by simp [BD.hl, isMI])
theorem BD.bm (h : Sep w d.hl) (k : Nat) (m : BM) (hm : d.bms[k]? = some m) : Sep w m.hl := by
  refine h.sub ?_
  unfold BD.hl
  rw [fm_split _ _ _ _ hm]
  refine List.Sublist.cons _ (List.Sublist.cons _ ?_)
  exact (List.sublist_append_right _ _).trans (List.sublist_append_left _ _)
theorem BD.setBm (h : Sep w d.hl) (k : Nat) (m m' : BM) (hm : d.bms[k]? = some m) (hb : m'.b = m.b) {w' : World} (hs : Step m.hl m'.hl w w') : Step d.hl ({ d with bms := d.bms.set k m' } : BD).hl w w' := by
  have hk : k < d.bms.length := (List.getElem?_eq_some_iff.1 hm).1
  have hx : d.bms[k] = m := (List.getElem?_eq_some_iff.1 hm).2
  have ec : ({ d with bms := d.bms.set k m' } : BD).cells = d.cells := by
    have : (d.bms.set k m').map (fun m => ptr m.b) = d.bms.map fun m => ptr m.b := by
      apply List.ext_getElem?
      intro j
      rw [List.getElem?_map, List.getElem?_map, List.getElem?_set]
      by_cases hj : k = j
      · subst hj; simp [hk, hb, hx]
      · rw [if_neg hj]
    unfold BD.cells
    simp only [this, List.length_set]
  have e1 : d.hl = ((d.b, isC 80 d.cells) :: (d.mb, isMI (upk d.ps)) :: (d.bms.take k).flatMap BM.hl) ++ m.hl ++ (d.bms.drop (k + 1)).flatMap BM.hl := by
    unfold BD.hl; rw [fm_split _ _ _ _ hm]; simp [List.append_assoc]
  have e2 : ({ d with bms := d.bms.set k m' } : BD).hl = ((d.b, isC 80 d.cells) :: (d.mb, isMI (upk d.ps)) :: (d.bms.take k).flatMap BM.hl) ++ m'.hl ++ (d.bms.drop (k + 1)).flatMap BM.hl := by
    unfold BD.hl; rw [ec, fm_set _ _ _ _ hk]; simp [List.append_assoc]
  rw [e1] at h
  rw [e1, e2]
  exact Step.frame _ _ h hs
end
theorem BD.Is.get {d : BD} {G : Nat → Nat → Bool} (h : d.Is G) (k : Nat) (hk : k ≤ d.top) : ∃ m, d.bms[k]? = some m ∧ m.bits = (List.range (2 ^ (d.top - k))).map (G k) := by
  have : k < d.bms.length := by rw [h.len]; omega
  exact ⟨_, List.getElem?_eq_getElem this, h.bits k _ (List.getElem?_eq_getElem this)⟩
theorem pow_le20 {t k : Nat} (h : t ≤ 20) : 2 ^ (t - k) ≤ 1048576 := Nat.le_trans (Nat.pow_le_pow_right (by omega) (by omega : t - k ≤ 20)) (by decide)
/-- The first one that is so, of order k. -/
def fstG (G : Nat → Nat → Bool) (top k s : Nat) : Option Nat := firstI ((List.range (2 ^ (top - k))).map (G k)) true s
theorem bd_first {w : World} {d : BD} {G : Nat → Nat → Bool} (h : Sep w d.hl) (hi : d.Is G) (k : Nat) (hk : k ≤ d.top) (s : Nat) (hs : s ≤ 1048576) : ∃ b, w.cell? ⟨d.b, 1 + k, none⟩ = some (.pointer (some ⟨b, 0, none⟩)) ∧
    Calls Tryd.prog 35 #[.pointer (some ⟨b, 0, none⟩), .bool true, .int .i64 s] w fun r w' => r = .returned (.int .i64 (optI (fstG G d.top k s))) ∧ w = w' := by
  obtain ⟨m, hm, hb⟩ := hi.get k hk
  refine ⟨m.b, BD.cf h k m hm, ?_⟩
  have := bmfirst_any (BD.bm h k m hm) true s hs (by rw [hb]; simpa using pow_le20 hi.top)
  rw [hb] at this
  exact this
theorem map_set_same {α β : Type} (f : α → β) (L : List α) (k : Nat) (x y : α) (h : L[k]? = some x) (e : f y = f x) : (L.set k y).map f = L.map f := by
  apply List.ext_getElem?
  intro j
  rw [List.getElem?_map, List.getElem?_map, List.getElem?_set]
  by_cases hj : k = j
  · subst hj
    have hk : k < L.length := (List.getElem?_eq_some_iff.1 h).1
    rw [if_pos rfl, if_pos hk, h]
    simp [e]
  · rw [if_neg hj]
/-- How a state follows another. -/
structure BD.To (d d' : BD) (w w' : World) : Prop where
  b : d'.b = d.b
  mb : d'.mb = d.mb
  top : d'.top = d.top
  ps : d'.ps = d.ps
  step : Step d.hl d'.hl w w'
  ptrs : d'.bms.map BM.b = d.bms.map BM.b
theorem BD.To.refl {d : BD} {w : World} (h : Sep w d.hl) : d.To d w w := ⟨rfl, rfl, rfl, rfl, Step.refl h, rfl⟩
theorem BD.To.trans {d d1 d2 : BD} {w w1 w2 : World} (h : d.To d1 w w1) (k : d1.To d2 w1 w2) : d.To d2 w w2 := ⟨k.b.trans h.b, k.mb.trans h.mb, k.top.trans h.top, k.ps.trans h.ps, h.step.trans k.step, k.ptrs.trans h.ptrs⟩
def SetG (d : BD) (w : World) (n : Int) (G : Nat → Nat → Bool) (r : Ending) (w' : World) : Prop := r = .returned (.int .i64 n) ∧ ∃ d', d.To d' w w' ∧ d'.Is G
/-- Setting one bit that isn't so. -/
theorem bd_set {w : World} {d : BD} {G : Nat → Nat → Bool} (h : Sep w d.hl) (hi : d.Is G) (k i : Nat) (on : Bool) (hk : k ≤ d.top) (hik : i < 2 ^ (d.top - k)) (hne : G k i ≠ on) : ∃ b, w.cell? ⟨d.b, 1 + k, none⟩ = some (.pointer (some ⟨b, 0, none⟩)) ∧
    Calls Tryd.prog 44 #[.pointer (some ⟨b, 0, none⟩), .bool on, .slice (some ⟨w.heap.size, 0, none⟩) 1 1] (w.alloc (.cells #[.int .i64 i] 3)) (SetG d w 1 (upG G k i on)) := by
  obtain ⟨m, hm, hb⟩ := hi.get k hk
  refine ⟨m.b, BD.cf h k m hm, ?_⟩
  have hlen : m.bits.length = 2 ^ (d.top - k) := by rw [hb]; simp
  have hget : m.bits[i]?.getD false = G k i := by rw [hb]; simp [hik]
  have hs := BD.bm h k m hm
  refine (bmset_turn (hs.alloc (.cells #[.int .i64 i] 3)) on i (by rw [hlen]; exact hik) (by rw [hlen]; exact pow_le20 hi.top) (by rw [hget]; exact hne) w.heap.size ((Cells.new w 3 [.int .i64 i]).cell 0 _ rfl) (fun hb => by have := hs.lt hb; omega)).mono ?_
  rintro r w' ⟨rfl, hst⟩
  refine ⟨rfl, { d with bms := d.bms.set k { m with bits := m.bits.set i on } }, ⟨rfl, rfl, rfl, rfl, BD.setBm h k m { m with bits := m.bits.set i on } hm rfl hst.from_alloc, map_set_same BM.b _ _ _ _ hm rfl⟩, ⟨by simpa using hi.len, hi.top, ?_⟩⟩
  intro l m' hm'
  rw [List.getElem?_set] at hm'
  by_cases hl : k = l
  · subst hl
    have hkl : k < d.bms.length := by rw [hi.len]; omega
    simp only [if_true, hkl] at hm'
    cases hm'
    show m.bits.set i on = _
    rw [hb, range_set]
    apply List.map_congr_left
    intro j _
    unfold upG; simp
  · rw [if_neg hl] at hm'
    rw [hi.bits l m' hm']
    apply List.map_congr_left
    intro j _
    unfold upG
    rw [if_neg]; rintro ⟨e, _⟩; exact hl e.symm
theorem BD.To.ptr {d d' : BD} {w w' : World} (h : d.To d' w w') {k : Nat} {b : Nat} (hm : (d.bms.map BM.b)[k]? = some b) : w'.cell? ⟨d.b, 1 + k, none⟩ = some (.pointer (some ⟨b, 0, none⟩)) := by
  rw [← h.ptrs, List.getElem?_map] at hm
  cases hx : d'.bms[k]? with
  | none => rw [hx] at hm; cases hm
  | some m =>
    rw [hx] at hm
    have : m.b = b := Option.some.inj hm
    have hc := BD.cf h.step.sep k m hx
    rw [h.b, this] at hc; exact hc
/-- Setting one that is so already. -/
theorem bd_same {w : World} {d : BD} {G : Nat → Nat → Bool} (h : Sep w d.hl) (hi : d.Is G) (k i : Nat) (on : Bool) (hk : k ≤ d.top) (hik : i < 2 ^ (d.top - k)) (hne : G k i = on) : ∃ b, w.cell? ⟨d.b, 1 + k, none⟩ = some (.pointer (some ⟨b, 0, none⟩)) ∧
    Calls Tryd.prog 44 #[.pointer (some ⟨b, 0, none⟩), .bool on, .slice (some ⟨w.heap.size, 0, none⟩) 1 1] (w.alloc (.cells #[.int .i64 i] 3)) (SetG d w 0 G) := by
  obtain ⟨m, hm, hb⟩ := hi.get k hk
  refine ⟨m.b, BD.cf h k m hm, ?_⟩
  have hlen : m.bits.length = 2 ^ (d.top - k) := by rw [hb]; simp
  have hget : m.bits[i]?.getD false = G k i := by rw [hb]; simp [hik]
  refine (bmset_same ((BD.bm h k m hm).alloc (.cells #[.int .i64 i] 3)) on i (by rw [hlen]; exact hik) (by rw [hlen]; exact pow_le20 hi.top) (by rw [hget]; exact hne) w.heap.size ((Cells.new w 3 [.int .i64 i]).cell 0 _ rfl)).mono ?_
  rintro r w' ⟨rfl, rfl⟩
  exact ⟨rfl, d, ⟨rfl, rfl, rfl, rfl, (Step.refl (h.alloc _)).from_alloc, rfl⟩, hi⟩
end Go.Proofs.YtfefdleadocpmaaDoor

/- Walk of the allocator's Take, of one page. Conditions: the blocks hold what BD.hl says, the free blocks are those that the used pages leave. -/
namespace Go.Proofs.YtfefdleadocpmaaDoor
open Go.RowKit

set_option maxHeartbeats 1000000 in
theorem btake_none {w : World} {d : BD} {G : Nat → Nat → Bool} (h : Sep w d.hl) (hi : d.Is G) (hn : ∀ k, k ≤ d.top → fstG G d.top k 0 = none) :
    Calls Tryd.prog 48 #[.pointer (some ⟨d.b, 0, none⟩), .int .i64 0] w fun r w' => r = .returned (.tuple #[.int .i64 0, .int .i64 4]) ∧ w = w' := by
  have c0 := BD.c0 h
  have HF := hidden (show ∀ k, k ≤ d.top → ∃ b, w.cell? ⟨d.b, 1 + k, none⟩ = some (.pointer (some ⟨b, 0, none⟩)) ∧ Calls Tryd.prog 35 #[.pointer (some ⟨b, 0, none⟩), .bool true, .int .i64 0] w fun r w' => r = .returned (.int .i64 (-1)) ∧ w = w' from fun k hk => by
    obtain ⟨b, h1, h2⟩ := bd_first h hi k hk 0 (by omega)
    rw [hn k hk] at h2
    exact ⟨b, h1, h2⟩)
  have ht := hi.top
  clear h hi hn
  generalize d.top = top at *
  go_enter Tryd.func48, Tryd.ntmps48
  go_wp2_with fail
  go_loop [6, 7] (fun kv iv => ∃ k : Nat, kv = .int .i64 k ∧ iv = .int .i64 (-1) ∧ k ≤ top + 1) (fun kv _ => top + 1 - (intOf kv).toNat)
  case atStart => exact ⟨0, rfl, rfl, by omega⟩
  case round =>
    obtain ⟨k, rfl, rfl, hk⟩ := hrel
    by_cases hlt : k ≤ top
    · obtain ⟨b, hc, hcall⟩ := HF.out k hlt
      go_wp2_with (go_at_call 35; refine hcall.mono ?_; rintro e w' ⟨rfl, rfl⟩)
      go_round
      case rel => exact ⟨k + 1, by go_num, rfl, by omega⟩
      case measure => simp [intOf]; omega
    · go_wp2_with fail
      go_ret2
      exact ⟨rfl, rfl⟩

/-- What the bits are while a block is parted: down to order j. -/
def spl (G : Nat → Nat → Bool) (k0 i0 j : Nat) : Nat → Nat → Bool := fun l x => if l < j then G l x else if l < k0 then (G l x || (x == i0 * 2 ^ (k0 - l) + 1)) else if l = k0 then (G l x && !(x == i0)) else G l x
theorem spl_top (G : Nat → Nat → Bool) (k0 i0 : Nat) : upG G k0 i0 false = spl G k0 i0 k0 := by
  funext l x
  unfold upG spl
  by_cases h : l = k0
  · subst h
    by_cases h2 : x = i0 <;> simp [h2]
  · by_cases h2 : l < k0
    · simp [h, h2]
    · simp [h, h2]
theorem spl_step (G : Nat → Nat → Bool) (k0 i0 j : Nat) (hj : j < k0) : upG (spl G k0 i0 (j + 1)) j (i0 * 2 ^ (k0 - j) + 1) true = spl G k0 i0 j := by
  funext l x
  unfold upG spl
  by_cases h : l = j
  · subst h
    have h1 : ¬ l < l := by omega
    have h2 : l < l + 1 := by omega
    by_cases hx : x = i0 * 2 ^ (k0 - l) + 1
    · simp [hj, h1, hx]
    · have e : (x == i0 * 2 ^ (k0 - l) + 1) = false := by simpa using hx
      simp [hj, h1, h2, hx, e]
  · have e : (l < j + 1) = (l < j) := by apply propext; omega
    simp [h, e]
theorem spl_end (ps : List Nat) (top k0 i0 : Nat) (hk : k0 ≤ top) (hf : fre (uOf ps) top k0 i0 = true) (l x : Nat) (hl : l ≤ top) : spl (fre (uOf ps) top) k0 i0 0 l x = fre (uOf (ps ++ [i0 * 2 ^ k0])) top l x := by
  have hp : i0 * 2 ^ k0 / 2 ^ k0 = i0 := Nat.mul_div_cancel _ (Nat.two_pow_pos k0)
  rw [uOf_snoc, fre_take _ top k0 (i0 * 2 ^ k0) hk (by rw [hp]; exact hf) l x hl, hp]
  unfold spl
  rw [if_neg (by omega)]
  by_cases h1 : l < k0
  · rw [if_pos h1, if_pos h1]
    have e : i0 * 2 ^ k0 / 2 ^ l = i0 * 2 ^ (k0 - l) := by
      rw [show (2 : Nat) ^ k0 = 2 ^ (k0 - l) * 2 ^ l from by rw [← Nat.pow_add]; congr 1; omega, ← Nat.mul_assoc]
      exact Nat.mul_div_cancel _ (Nat.two_pow_pos l)
    have e2 : sib (i0 * 2 ^ (k0 - l)) = i0 * 2 ^ (k0 - l) + 1 := by
      unfold sib
      rw [if_pos]
      rw [show k0 - l = (k0 - l - 1) + 1 from by omega, Nat.pow_succ, ← Nat.mul_assoc]; omega
    rw [e, e2]
  · rw [if_neg h1, if_neg h1]
theorem half_free {ps : List Nat} {top k0 i0 : Nat} (hk : k0 ≤ top) (hf : fre (uOf ps) top k0 i0 = true) (j : Nat) (hj : j < k0) : fre (uOf ps) top j (i0 * 2 ^ (k0 - j) + 1) = false := by
  cases h : fre (uOf ps) top j (i0 * 2 ^ (k0 - j) + 1) with
  | false => rfl
  | true =>
    have e1 : (i0 * 2 ^ (k0 - j) + 1) * 2 ^ j / 2 ^ j = i0 * 2 ^ (k0 - j) + 1 := Nat.mul_div_cancel _ (Nat.two_pow_pos j)
    have e2 : (i0 * 2 ^ (k0 - j) + 1) * 2 ^ j / 2 ^ k0 = i0 := by
      rw [show (2 : Nat) ^ k0 = 2 ^ j * 2 ^ (k0 - j) from by rw [← Nat.pow_add]; congr 1; omega, ← Nat.div_div_eq_div_mul, e1, Nat.add_comm, Nat.add_mul_div_right _ _ (Nat.two_pow_pos _), Nat.div_eq_of_lt (Nat.one_lt_two_pow (by omega)), Nat.zero_add]
    have := fre_apart (by omega) hk h hf e1 e2
    omega
def TakeP (d : BD) (p : Nat) (w : World) (r : Ending) (w' : World) : Prop := r = .returned (.tuple #[.int .i64 ((1024 * p : Nat) : Int), .int .i64 0]) ∧
  ∃ d' : BD, d'.b = d.b ∧ d'.top = d.top ∧ d'.ps = d.ps ++ [p] ∧ d'.At ∧ Step d.hl d'.hl w w'
theorem BD.putMap {w w' : World} {d : BD} (h : Sep w d.hl) (ps' : List Nat) (hm : MapInt w' d.mb (upk ps')) (hg : w.grownBy w' (some d.mb)) : Step d.hl ({ d with ps := ps' } : BD).hl w w' := by
  obtain ⟨es, clock, ho, hr⟩ := hm
  exact Sep.turn (A := [(d.b, isC 80 d.cells)]) (B := d.bms.flatMap BM.hl) h hg ⟨_, ho, es, clock, rfl, hr⟩
set_option maxHeartbeats 4000000 in
set_option maxRecDepth 100000 in
theorem btake_some {w : World} {d : BD} (h : Sep w d.hl) (ha : d.At) (k0 i0 : Nat) (hk0 : k0 ≤ d.top) (hf : fstG (fre (uOf d.ps) d.top) d.top k0 0 = some i0) (hp : ∀ k, k < k0 → fstG (fre (uOf d.ps) d.top) d.top k 0 = none) :
    Calls Tryd.prog 48 #[.pointer (some ⟨d.b, 0, none⟩), .int .i64 0] w (TakeP d (i0 * 2 ^ k0) w) := by
  obtain ⟨s1, s2, s3, s4⟩ := firstI_spec hf
  have hi0 : i0 < 2 ^ (d.top - k0) := by simpa using s1
  have hfree : fre (uOf d.ps) d.top k0 i0 = true := by simpa [hi0] using s3
  have ht := ha.is.top
  have hpt : i0 * 2 ^ k0 < 2 ^ d.top := by
    have : i0 * 2 ^ k0 < 2 ^ (d.top - k0) * 2 ^ k0 := Nat.mul_lt_mul_of_pos_right hi0 (Nat.two_pow_pos _)
    rwa [← Nat.pow_add, show d.top - k0 + k0 = d.top from by omega] at this
  have hpn : i0 * 2 ^ k0 ∉ d.ps := by
    have := fre_clear hfree (p := i0 * 2 ^ k0) (Nat.mul_div_cancel _ (Nat.two_pow_pos k0))
    simpa [uOf] using this
  have hib : ∀ j, j ≤ k0 → i0 * 2 ^ (k0 - j) + 1 ≤ 1048576 ∧ i0 * 2 ^ (k0 - j) < 2 ^ (d.top - j) := by
    intro j hj
    have h1 : i0 * 2 ^ (k0 - j) < 2 ^ (d.top - k0) * 2 ^ (k0 - j) := Nat.mul_lt_mul_of_pos_right hi0 (Nat.two_pow_pos _)
    rw [← Nat.pow_add, show d.top - k0 + (k0 - j) = d.top - j from by omega] at h1
    have := pow_le20 (k := j) ht
    omega
  have c0 := BD.c0 h
  have hi := ha.is
  have HF := hidden (show ∀ k, k < k0 → ∃ b, w.cell? ⟨d.b, 1 + k, none⟩ = some (.pointer (some ⟨b, 0, none⟩)) ∧ Calls Tryd.prog 35 #[.pointer (some ⟨b, 0, none⟩), .bool true, .int .i64 0] w fun r w' => r = .returned (.int .i64 (-1)) ∧ w = w' from fun k hk => by
    obtain ⟨b, h1, h2⟩ := bd_first h hi k (by omega) 0 (by omega)
    rw [hp k hk] at h2
    exact ⟨b, h1, h2⟩)
  have HF0 : Hid (∃ b, w.cell? ⟨d.b, 1 + k0, none⟩ = some (.pointer (some ⟨b, 0, none⟩)) ∧ (Calls Tryd.prog 35 #[.pointer (some ⟨b, 0, none⟩), .bool true, .int .i64 0] w fun r w' => r = .returned (.int .i64 i0) ∧ w = w') ∧
      Calls Tryd.prog 44 #[.pointer (some ⟨b, 0, none⟩), .bool false, .slice (some ⟨w.heap.size, 0, none⟩) 1 1] (w.alloc (.cells #[.int .i64 i0] 3)) (SetG d w 1 (spl (fre (uOf d.ps) d.top) k0 i0 k0))) := by
    obtain ⟨b, h1, h2⟩ := bd_first h hi k0 hk0 0 (by omega)
    rw [hf] at h2
    obtain ⟨b', h3, h4⟩ := bd_set h hi k0 i0 false hk0 hi0 (by rw [hfree]; decide)
    rw [h1] at h3
    cases h3
    rw [spl_top] at h4
    exact ⟨b, h1, h2, h4⟩
  have HStep := hidden (show ∀ j wr d1, j < k0 → d.To d1 w wr → d1.Is (spl (fre (uOf d.ps) d.top) k0 i0 (j + 1)) → ∃ b, wr.cell? ⟨d.b, 1 + j, none⟩ = some (.pointer (some ⟨b, 0, none⟩)) ∧
      Calls Tryd.prog 44 #[.pointer (some ⟨b, 0, none⟩), .bool true, .slice (some ⟨wr.heap.size, 0, none⟩) 1 1] (wr.alloc (.cells #[.int .i64 ((i0 * 2 ^ (k0 - j) + 1 : Nat) : Int)] 3)) fun r w' => r = .returned (.int .i64 1) ∧ ∃ d2, d.To d2 w w' ∧ d2.Is (spl (fre (uOf d.ps) d.top) k0 i0 j) from fun j wr d1 hj hto his => by
    obtain ⟨b1, b2⟩ := hib j (by omega)
    have hodd : i0 * 2 ^ (k0 - j) + 1 < 2 ^ (d.top - j) := by
      have e1 : i0 * 2 ^ (k0 - j) = 2 * (i0 * 2 ^ (k0 - j - 1)) := by
        rw [show k0 - j = (k0 - j - 1) + 1 from by omega, Nat.pow_succ, Nat.add_sub_cancel]
        simp only [Nat.mul_comm, Nat.mul_left_comm]
      have e2 : 2 ^ (d.top - j) = 2 * 2 ^ (d.top - j - 1) := by
        rw [← Nat.pow_succ']; congr 1; omega
      omega
    have hne : spl (fre (uOf d.ps) d.top) k0 i0 (j + 1) j (i0 * 2 ^ (k0 - j) + 1) ≠ true := by
      unfold spl
      rw [if_pos (by omega), half_free hk0 hfree j hj]; decide
    obtain ⟨b, h3, h4⟩ := bd_set hto.step.sep his j (i0 * 2 ^ (k0 - j) + 1) true (by rw [hto.top]; omega) (by rw [hto.top]; exact hodd) hne
    rw [hto.b] at h3
    refine ⟨b, h3, h4.mono ?_⟩
    rintro r w' ⟨rfl, d2, hto2, his2⟩
    rw [spl_step _ _ _ _ hj] at his2
    exact ⟨rfl, d2, hto.trans hto2, his2⟩)
  have HEnd := hidden (show ∀ wr d1, d.To d1 w wr → d1.Is (spl (fre (uOf d.ps) d.top) k0 i0 0) → wr.cell? ⟨d.b, 22, none⟩ = some (.map (some d.mb)) ∧ MapInt wr d.mb (upk d.ps) ∧ ∀ w2, MapInt w2 d.mb (put (upk d.ps) ((1024 * (i0 * 2 ^ k0) : Nat) : Int) (.int .i64 0)) → wr.grownBy w2 (some d.mb) → TakeP d (i0 * 2 ^ k0) w (.returned (.tuple #[.int .i64 ((1024 * (i0 * 2 ^ k0) : Nat) : Int), .int .i64 0])) w2 from fun wr d1 hto his => by
    have hs := hto.step.sep
    have hc := BD.cm hs (by rw [his.len, hto.top]; omega)
    have hmp := BD.map hs
    rw [hto.b, hto.mb] at hc
    rw [hto.mb, hto.ps] at hmp
    refine ⟨hc, hmp, fun w2 hm2 hg2 => ⟨rfl, { d1 with ps := d.ps ++ [i0 * 2 ^ k0] }, hto.b, hto.top, rfl, ⟨⟨his.len, his.top, ?_⟩, ?_, ?_⟩, ?_⟩⟩
    · intro k m hm
      rw [his.bits k m hm]
      have hkt : k ≤ d1.top := by
        have h1 : k < d1.bms.length := (List.getElem?_eq_some_iff.1 hm).1
        have h2 : d1.bms.length = d1.top + 1 := his.len
        omega
      apply List.map_congr_left
      intro x _
      show spl (fre (uOf d.ps) d.top) k0 i0 0 k x = fre (uOf (d.ps ++ [i0 * 2 ^ k0])) d1.top k x
      rw [hto.top]
      exact spl_end _ _ _ _ hk0 hfree k x (by rw [← hto.top]; exact hkt)
    · rw [List.nodup_append]
      refine ⟨ha.nd, by simp, ?_⟩
      intro a ha' b hb e
      simp at hb; subst hb; subst e
      exact hpn ha'
    · intro p hp'
      show p < 2 ^ d1.top
      rw [hto.top]
      rcases List.mem_append.1 hp' with h1 | h1
      · exact ha.lt p h1
      · simp at h1; subst h1; exact hpt
    · rw [put_upk _ _ hpn] at hm2
      have hm3 : MapInt w2 d1.mb (upk (d.ps ++ [i0 * 2 ^ k0])) := by rw [hto.mb]; exact hm2
      rw [← hto.mb] at hg2
      exact hto.step.trans (BD.putMap hs _ hm3 hg2))
  have HTop := hidden (show ∀ wr d1, d.To d1 w wr → wr.cell? ⟨d.b, 0, none⟩ = some (.int .i64 d.top) from fun wr d1 hto => by
    have := BD.c0 hto.step.sep
    rw [hto.b, hto.top] at this; exact this)
  have HIB := hidden hib
  clear h ha hi hf hp s1 s2 s3 s4 hfree hpn hib
  generalize hG : spl (fre (uOf d.ps) d.top) k0 i0 = S at *
  clear hG
  generalize d.top = top at *
  go_enter Tryd.func48, Tryd.ntmps48
  go_wp2_with fail
  go_loop [6, 7] (fun kv iv => ∃ k : Nat, kv = .int .i64 k ∧ iv = .int .i64 (-1) ∧ k ≤ k0) (fun kv _ => k0 + 1 - (intOf kv).toNat)
  case atStart => exact ⟨0, rfl, rfl, by omega⟩
  case round =>
    obtain ⟨k, rfl, rfl, hk⟩ := hrel
    have hkt : k ≤ top := by omega
    by_cases hlt : k < k0
    · obtain ⟨b, hc, hcall⟩ := HF.out k hlt
      go_wp2_with (go_at_call 35; refine hcall.mono ?_; rintro e w' ⟨rfl, rfl⟩)
      go_round
      case rel => exact ⟨k + 1, by go_num, rfl, by omega⟩
      case measure => simp [intOf]; omega
    · obtain rfl : k = k0 := by omega
      obtain ⟨b, hc, hcall, hset⟩ := HF0.out
      obtain ⟨hb1, hb2⟩ := HIB.out k (Nat.le_refl _)
      rw [Nat.sub_self, Nat.pow_zero, Nat.mul_one] at hb1
      clear hb2
      go_wp2_with fail
      refine hcall.mono ?_
      rintro e w' ⟨rfl, rfl⟩
      go_wp2_with fail
      refine hset.mono ?_
      rintro e w1 ⟨rfl, d1, hto, his⟩
      have HTo := hidden hto
      have HIs := hidden his
      clear hto his hset hcall hc
      go_wp2_with fail
      go_loopw [6, 7] (fun jv iv wr => ∃ (j : Nat) (d2 : BD), jv = .int .i64 j ∧ iv = .int .i64 ((i0 * 2 ^ (k - j) : Nat) : Int) ∧ j ≤ k ∧ d.To d2 w wr ∧ d2.Is (S j)) (fun jv _ _ => (intOf jv).toNat)
      case atStart => exact ⟨k, d1, rfl, by simp, Nat.le_refl _, HTo.out, HIs.out⟩
      case round =>
        obtain ⟨j, d2, rfl, rfl, hj, hto, his⟩ := hrel
        have hct := HTop.out _ _ hto
        by_cases hj0 : j = 0
        · subst hj0
          obtain ⟨hcm, hmp, hfin⟩ := HEnd.out _ _ hto his
          have HFin := hidden hfin
          clear hfin
          have hv : ((1024 * (i0 * 2 ^ k) : Nat) : Int) = ((i0 * 2 ^ (k - 0) : Nat) : Int) * 1024 := by rw [Nat.sub_zero]; omega
          have hb : i0 * 2 ^ (k - 0) < 1048576 := by
            have := (HIB.out 0 (by omega)).1; omega
          rw [hv] at HFin
          generalize i0 * 2 ^ (k - 0) = p at *
          clear hv
          go_wp2_with (refine wpList_mapUpdate_int _ rfl _ _ _ 78 3 3 rfl Tryd.underlying78 Tryd.underlying3 d.mb (upk d.ps) hmp _ _ rfl rfl rfl ?_; intro w2 hm2 hg2)
          go_ret2
          exact HFin.out _ hm2 hg2
        · obtain ⟨l, rfl⟩ : ∃ l, j = l + 1 := ⟨j - 1, by omega⟩
          obtain ⟨b2, hc2, hset2⟩ := HStep.out l wr d2 (by omega) hto his
          have hI : i0 * 2 ^ (k - l) = i0 * 2 ^ (k - (l + 1)) * 2 := by
            rw [show k - l = k - (l + 1) + 1 from by omega, Nat.pow_succ, Nat.mul_assoc]
          have hb := (HIB.out l (by omega)).1
          have hrw : ((i0 * 2 ^ (k - l) + 1 : Nat) : Int) = ((i0 * 2 ^ (k - (l + 1)) : Nat) : Int) * 2 + 1 := by rw [hI]; omega
          have hrw2 := hidden (show ((i0 * 2 ^ (k - l) : Nat) : Int) = ((i0 * 2 ^ (k - (l + 1)) : Nat) : Int) * 2 from by rw [hI]; omega)
          rw [hrw] at hset2
          rw [hI] at hb
          clear hrw hI hto his
          generalize i0 * 2 ^ (k - (l + 1)) = p at *
          have hl1 : ((l + 1 : Nat) : Int) = (l : Int) + 1 := by omega
          go_wp2_with fail
          refine hset2.mono ?_
          rintro e w2 ⟨rfl, d3, hto3, his3⟩
          go_wp2_with fail
          go_roundw
          case rel => exact ⟨l, d3, by go_num, by rw [hrw2.out], by omega, hto3, his3⟩
          case measure => simp [intOf]
end Go.Proofs.YtfefdleadocpmaaDoor

/- A walk of a cache's Take where a page comes: what is behind the search. Conditions: the blocks hold what CA.hl and BD.hl say. -/
namespace Go.Proofs.YtfefdleadocpmaaDoor
open Go.RowKit

def TakeN (c : CA) (d : BD) (p : Nat) (w : World) (r : Ending) (w' : World) : Prop := r = .returned (.tuple #[.int .i64 ((addr c.size p 0 : Nat) : Int), .int .i64 0]) ∧
  ∃ (d' : BD) (m : BM) (rv' : RV), d'.b = d.b ∧ d'.top = d.top ∧ d'.ps = d.ps ++ [p] ∧ d'.At ∧ m.bits = (List.replicate (960 / c.size) false).set 0 true ∧ (c.insert rv' (m, p)).Ok ∧ Step (c.hl ++ d.hl) ((c.insert rv' (m, p)).hl ++ d'.hl) w w'
/-- Behind the search for the page's place: the insert, the store, the place. -/
theorem new_tail {w w5 : World} {c : CA} {d d' : BD} {m : BM} (p g : Nat) (ok : c.Ok) (hn : ∀ x ∈ c.pg, x.2 ≠ p) (hp : p < 1048576) (hln : c.pg.length < 1048576) (hm : m.bits = (List.replicate (960 / c.size) false).set 0 true) (b1 : d'.b = d.b) (b2 : d'.top = d.top) (b3 : d'.ps = d.ps ++ [p]) (b4 : d'.At)
    (hst : Step (c.hl ++ d.hl) (c.hl ++ (m.hl ++ d'.hl)) w w5) (hg : g < w5.heap.size) (hgk : g ∉ keys (c.hl ++ (m.hl ++ d'.hl))) :
    Calls Tryd.prog 51 #[lvOf c.rv c.pg.length, .int .i64 (below_ c.pg p), .slice (some ⟨w5.heap.size, 0, none⟩) 1 1] (w5.drew.alloc (.cells #[ptr m.b, .int .i64 ((1024 * p : Nat) : Int)] 105)) fun r w6 => ∃ (g6 cap6 : Nat) (v6 : Value), v6 = .slice (some ⟨g6, 0, none⟩) (c.pg.length + 1) cap6 ∧ r = .returned v6 ∧
      w6.heap[g]? = w5.heap[g]? ∧ w6.cell? ⟨c.c, 2, none⟩ = some (lvOf c.rv c.pg.length) ∧ w6.frozen? ⟨c.c, 2, none⟩ = false ∧
      Calls Tryd.prog 47 #[.pointer (some ⟨c.c, 0, none⟩), .agg #[ptr m.b, .int .i64 ((1024 * p : Nat) : Int)], .int .i64 0] (w6.setCell ⟨c.c, 2, none⟩ v6) fun r w7 => r = .returned (.int .i64 ((addr c.size p 0 : Nat) : Int)) ∧ TakeN c d p w (.returned (.tuple #[.int .i64 ((addr c.size p 0 : Nat) : Int), .int .i64 0])) w7 := by
  have s5 := hst.sep
  have s6 := (s5.drew.alloc (.cells #[ptr m.b, .int .i64 ((1024 * p : Nat) : Int)] 105))
  have hxl : (pcells c.pg).length = c.pg.length * 2 := pcells_len _
  have ox : ∀ v ∈ pcells c.pg, v.oneCell' = true := by
    intro v hv
    unfold pcells at hv
    obtain ⟨y, _, hy⟩ := List.mem_flatMap.1 hv
    simp at hy
    rcases hy with rfl | rfl <;> rfl
  have e0 : c.hl ++ (m.hl ++ d'.hl) = [(c.c, isC 100 [ptr c.bb, .int .i64 c.size, lvOf c.rv c.pg.length])] ++ rowH c.rv 105 2 (pcells c.pg) ++ (pgH c.pg ++ (m.hl ++ d'.hl)) := by unfold CA.hl; simp
  have s6' := s6
  rw [e0] at s6'
  have hv : Cells (w5.drew.alloc (.cells #[ptr m.b, .int .i64 ((1024 * p : Nat) : Int)] 105)) w5.heap.size 105 [ptr m.b, .int .i64 ((1024 * p : Nat) : Int)] := Cells.new w5.drew 105 [ptr m.b, .int .i64 ((1024 * p : Nat) : Int)]
  have hvb : w5.heap.size ∉ keys (c.hl ++ (m.hl ++ d'.hl)) := fun hm => by have := s5.lt hm; omega
  refine (ins_any s6' ok.rv hxl (below_le c.pg p) (by omega) hv (by rw [← e0]; exact hvb) ox rfl rfl).mono ?_
  rintro r w6 ⟨rv', rfl, hok', hst6⟩
  have hbk : w6.heap[g]? = w5.heap[g]? := by
    have h1 := hst6.chg.block g (by simp; omega) (by rw [← e0]; exact hgk)
    rw [h1]
    exact heap_alloc_old w5.drew _ hg
  have hcs := (hst6.sep).cells (b := c.c) (T := 100) (cs := [ptr c.bb, .int .i64 c.size, lvOf c.rv c.pg.length]) (by simp)
  have hins : Step (c.hl ++ (m.hl ++ d'.hl)) ((c.insert rv' (m, p)).hl ++ d'.hl) w5 (w6.setCell ⟨c.c, 2, none⟩ (lvOf rv' (c.pg.length + 1))) :=
    (CA.insStep (c := c) (K := d'.hl) (m, p) rv' s6 hst6).from_alloc.from_drew
  have okN := CA.ok_ins ok rv' (m, p) hn hok' hln hp (by rw [hm]; simp)
  have hall := hst.trans hins
  obtain ⟨g6, cap6, e6⟩ : ∃ g6 cap6 : Nat, rv' = some (g6, cap6) := by
    cases rv' with
    | none => have : c.pg.length + 1 = 0 := hok'; omega
    | some p => exact ⟨p.1, p.2, rfl⟩
  refine ⟨g6, cap6, _, by rw [e6]; rfl, rfl, hbk, hcs.cell 2 _ rfl, hcs.free 2, ?_⟩
  have hpl := place_any hall.sep.left okN m.b p 0 hp (by omega)
  refine hpl.mono ?_
  rintro r w7 ⟨rfl, hb7⟩
  exact ⟨rfl, rfl, d', m, rv', b1, b2, b3, b4, hm, okN, hall.trans (hall.sep.grown hb7)⟩
end Go.Proofs.YtfefdleadocpmaaDoor
