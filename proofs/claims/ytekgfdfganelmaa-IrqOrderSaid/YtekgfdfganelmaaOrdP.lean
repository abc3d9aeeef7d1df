/- Plain lists for IrqOrder. No condition. -/
import Derived.Test.YtekgfdfganelmaaPure
namespace Go.Proofs.Ytekgfdfganelmaa
open Go.RowKit

/-- The irqs 0 to n, each on its own line, each to the thread of its parity; lost as told; pending where they stand in R. -/
def F3 (n : Nat) (Lf : Int → Int) (R : List Int) : Int → Option Irq := fun x => if 0 ≤ x ∧ x < n then some ⟨x, false, x % 2, Lf x, decide (x ∈ R)⟩ else none
theorem F3_in {n : Nat} {Lf : Int → Int} {R : List Int} {x : Int} (h : 0 ≤ x ∧ x < n) : F3 n Lf R x = some ⟨x, false, x % 2, Lf x, decide (x ∈ R)⟩ := if_pos h
theorem rdy3 {x l : Int} (b : Bool) (h0 : 0 ≤ x) : Irq.rdy ⟨x, false, x % 2, l, b⟩ = b := by
  have : (x % 2 != -1) = true := by simp; omega
  simp [Irq.rdy, this]
theorem rl_F3 {E : List Ent} {Lf : Int → Int} {R : List Int} (hA : At E (F3 16 Lf R)) (hR : ∀ x ∈ R, 0 ≤ x ∧ x < 16) (t : Int) (m : Nat) (L : List Int) (rv : Value) :
    rl ⟨m, E, L, R, rv⟩ t = R.filter (fun x => x % 2 == t) := by
  unfold rl
  refine List.filter_congr fun x hx => ?_
  have h := hR x hx
  rw [hA.is, F3_in (n := 16) h]
  simp [rdy3 _ h.1, hx]
/-- Taking the first of one parity out. -/
theorem flt_head {R S : List Int} {x t : Int} (hnd : R.Nodup) (h : R.filter (fun x => x % 2 == t) = x :: S) : (flt R x).filter (fun x => x % 2 == t) = S := by
  have h1 : (flt R x).filter (fun x => x % 2 == t) = (R.filter (fun x => x % 2 == t)).filter (fun y => y != x) := by
    unfold flt; rw [List.filter_filter, List.filter_filter]
    refine List.filter_congr fun y _ => ?_
    rw [Bool.and_comm]
  rw [h1, h, List.filter_cons_of_neg (by simp), List.filter_eq_self]
  intro y hy
  have hn : (x :: S).Nodup := by rw [← h]; exact hnd.sublist List.filter_sublist
  have := (List.nodup_cons.1 hn).1
  simp
  rintro rfl
  exact this hy
theorem flt_nodup {R : List Int} (x : Int) (h : R.Nodup) : (flt R x).Nodup := h.sublist List.filter_sublist
theorem mem_flt {R : List Int} {x y : Int} : y ∈ flt R x ↔ y ∈ R ∧ y ≠ x := by unfold flt; simp
theorem nodup_len {R : List Int} (hnd : R.Nodup) (hR : ∀ x ∈ R, 0 ≤ x ∧ x < 16) : R.length ≤ 16 := by
  have h1 : R ⊆ rg 0 16 := fun x hx => mem_rg.2 (by have := hR x hx; omega)
  have := hnd.length_le_of_subset h1
  rw [rg_len] at this; exact this
end Go.Proofs.Ytekgfdfganelmaa
