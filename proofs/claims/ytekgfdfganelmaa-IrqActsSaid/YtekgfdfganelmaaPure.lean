/- Plain lists: what the entries of the controller's map say at each number. No condition. -/
import Derived.Test.YtekgfdfganelmaaIrqI
namespace Go.Proofs.Ytekgfdfganelmaa
open Go.RowKit

/-- The entries say F: at each number its irq, or none. -/
def At (E : List Ent) (F : Int → Option Irq) : Prop := ∀ id, (find E id).map Ent.q = F id
def set1 (F : Int → Option Irq) (id : Int) (q : Option Irq) : Int → Option Irq := fun x => if x = id then q else F x

theorem At.no {E : List Ent} {F : Int → Option Irq} (h : At E F) {id : Int} (hf : F id = none) : find E id = none := by
  have := h id; rw [hf] at this; simpa using this
theorem At.yes {E : List Ent} {F : Int → Option Irq} (h : At E F) {id : Int} {q : Irq} (hf : F id = some q) : ∃ e, find E id = some e ∧ e.q = q := by
  have := h id; rw [hf] at this; simpa using this
theorem find_append (E : List Ent) (x : Ent) (id : Int) : find (E ++ [x]) id = match find E id with | some e => some e | none => if id = x.id then some x else none := by
  induction E with
  | nil => simp [find]
  | cons e r ih => by_cases h : id = e.id <;> simp [find, h, ih]
theorem At.app {E : List Ent} {F : Int → Option Irq} (h : At E F) {id : Int} (hf : F id = none) (b : Nat) (q : Irq) : At (E ++ [⟨id, b, q⟩]) (set1 F id (some q)) := by
  intro x
  rw [find_append]
  have hx := h x
  by_cases e : x = id
  · subst e
    rw [h.no hf]; simp [set1]
  · simp only [set1, e, if_false]
    rw [← hx]
    cases find E x <;> simp [e]
theorem find_upd (E : List Ent) (id : Int) (q : Irq) (x : Int) : (find (upd E id q) x).map Ent.q = if x = id then (find E x).map (fun _ => q) else (find E x).map Ent.q := by
  induction E with
  | nil => simp [upd, find]
  | cons e r ih =>
    have ih' : (find (List.map (fun e => if e.id = id then { e with q := q } else e) r) x).map Ent.q = _ := ih
    by_cases h1 : e.id = id <;> by_cases h2 : x = e.id
    · subst h2; subst h1; simp [upd, find]
    · have h3 : ¬ x = id := fun h => h2 (h.trans h1.symm)
      simp only [upd, List.map_cons, h1, if_true, find, h2, if_false]
      have h4 : ¬ x = id := h3
      simp only [h4, if_false] at ih' ⊢
      simpa [find, h1, h4] using ih'
    · subst h2; simp [upd, find, h1]
    · simp only [upd, List.map_cons, h1, if_false, find, h2]
      exact ih'
theorem At.up {E : List Ent} {F : Int → Option Irq} (h : At E F) {id : Int} {e : Ent} (hf : find E id = some e) (q : Irq) : At (upd E id q) (set1 F id (some q)) := by
  intro x
  rw [find_upd]
  by_cases ex : x = id
  · subst ex; simp [set1, hf]
  · simp only [ex, if_false, set1]; exact h x
theorem find_rem {E : List Ent} (hids : E.Pairwise (fun a b => a.id ≠ b.id)) (id x : Int) : find (rem E id) x = if x = id then none else find E x := by
  induction E with
  | nil => simp [rem, find]
  | cons e r ih =>
    obtain ⟨h1, h2⟩ := List.pairwise_cons.1 hids
    by_cases hk : id = e.id
    · subst hk
      simp only [rem, if_true]
      by_cases hx : x = e.id
      · subst hx
        simp only [if_true]
        cases hf : find r e.id with
        | none => rfl
        | some y => exact absurd (find_mem hf).2.symm (h1 y (find_mem hf).1)
      · simp [find, hx]
    · simp only [rem, hk, if_false, find]
      by_cases hx : x = e.id
      · have : ¬ x = id := fun h => hk (h.symm.trans hx)
        simp [hx, this]
        intro h; exact absurd h.symm hk
      · simp only [hx, if_false]; exact ih h2
theorem At.rm {E : List Ent} {F : Int → Option Irq} (h : At E F) (hids : E.Pairwise (fun a b => a.id ≠ b.id)) (id : Int) : At (rem E id) (set1 F id none) := by
  intro x
  rw [find_rem hids]
  by_cases ex : x = id
  · simp [ex, set1]
  · simp only [ex, if_false, set1]; exact h x
theorem At.is {E : List Ent} {F : Int → Option Irq} (h : At E F) (t x : Int) : isr E t x = match F x with | some q => q.rdy && q.thread == t | none => false := by
  unfold isr
  have := h x
  cases hf : find E x with
  | none => rw [hf] at this; rw [← this]; rfl
  | some e => rw [hf] at this; rw [← this]; rfl
theorem At.empty : At [] (fun _ => none) := fun _ => rfl
theorem mask_one (on : Bool) (E : List Ent) (id : Int) {e : Ent} (hf : find E id = some e) : mall on [id] E 0 = (upd E id { e.q with masked := on }, if e.q.masked = on then 0 else 1) := by
  simp [mall, mstep, hf]
theorem At.ext {E : List Ent} {F F' : Int → Option Irq} (h : At E F) (e : ∀ x, F x = F' x) : At E F' := fun x => (h x).trans (e x)

/-- The numbers from a on below b. -/
def rg (a b : Nat) : List Int := (List.range' a (b - a)).map Int.ofNat
theorem rg_snoc (b : Nat) : rg 0 (b + 1) = rg 0 b ++ [(b : Int)] := by
  simp [rg, List.range'_concat]
theorem rg_cons {a b : Nat} (h : a < b) : rg a b = (a : Int) :: rg (a + 1) b := by
  unfold rg
  have : b - a = (b - (a + 1)) + 1 := by omega
  rw [this, List.range'_succ]
  rfl
theorem rg_nil {a b : Nat} (h : b ≤ a) : rg a b = [] := by
  unfold rg
  have : b - a = 0 := by omega
  simp [this]
theorem mem_rg {a b : Nat} {x : Int} : x ∈ rg a b ↔ (a : Int) ≤ x ∧ x < b := by
  unfold rg
  rw [List.mem_map]
  constructor
  · rintro ⟨y, hy, rfl⟩
    rw [List.mem_range'_1] at hy
    simp; omega
  · rintro ⟨h1, h2⟩
    refine ⟨x.toNat, ?_, ?_⟩
    · rw [List.mem_range'_1]; omega
    · simp; omega
theorem rg_len (a b : Nat) : (rg a b).length = b - a := by simp [rg]
theorem flt_rg {a b : Nat} (h : a < b) : flt (rg a b) a = rg (a + 1) b := by
  rw [rg_cons h]
  unfold flt
  rw [List.filter_cons_of_neg (by simp), List.filter_eq_self]
  intro x hx
  have := mem_rg.1 hx
  simp; omega
end Go.Proofs.Ytekgfdfganelmaa
