/- PoolZeros returns true at every input, with the three listed tables tied to the program's text. No condition. Part of its proof. -/
import Derived.Test.YtfefdleadocpmaaDoorPz12
import Derived.ProofKit
import Derived.Deep.Slices
import Derived.OpenShut
import Derived.Test.YtfefdleadocpmaaDoorPz01
import Derived.Lib.LaidTab
import Derived.LaidMore
import Derived.MakeChecks
import Derived.Stop.LaidErr
import Derived.Test.YtfefdleadocpmaaDoorRows
import Derived.WalkKit
import Derived.ShutString
import Derived.Below
import Derived.Stop.Joined
/- What is read of a slice of acts that came in: four numbers each. No condition. -/
namespace Go.Proofs.YtfefdleadocpmaaDoor
open Go.ChangeShapes Go.WideShapes Go.ChangeAt Go.RowKit Go.Deep

theorem addr_plain' {w : World} {x : Addr} {v : Value} (h : w.cell? x = some v) : x = ⟨x.block, x.off, none⟩ := by
  obtain ⟨b, o, s⟩ := x
  cases s with
  | none => rfl
  | some s =>
    exfalso
    unfold World.cell? at h
    split at h <;> simp at h
theorem add_plain' (b o j : Nat) : (⟨b, o, none⟩ : Addr).add j = ⟨b, o + j, none⟩ := by
  unfold Addr.add
  split
  · rename_i h; simp [h]
  · rfl
theorem cellsAct : Tryd.prog.cellsOf 28 = 4 := by kernel_rfl
theorem cellsInt : Tryd.prog.cellsOf 3 = 1 := by kernel_rfl
set_option maxRecDepth 100000 in
theorem open_act4 {H : Type} {enc : TypeId × Value → H} {w : World} {n : Nat} {cs : List Value} {y : DataW H × List MemPlace}
    (h : DataW.trod enc Tryd.prog w 0 (fun _ => true) true n 28 cs = some y) : ∃ x : A4, cs = [.int .i64 x.k, .int .i64 x.f, .int .i64 x.c, .int .i64 x.n] ∧ x.n ≤ 9223372036854775807 := by
  obtain ⟨xs, n', _, _, hlen, hxl, hf⟩ := DataW.trod_struct Tryd.underlying28 h
  rw [cellsAct] at hlen
  match cs, hlen with
  | [v0, v1, v2, v3], _ =>
    match xs, hxl with
    | [y0, y1, y2, y3], _ =>
      have g0 : DataW.trod enc Tryd.prog w 0 (fun _ => true) true n' 3 (List.take (Tryd.prog.cellsOf 3) (List.drop 0 [v0, v1, v2, v3])) = some y0 := hf 0 _ rfl
      have g1 : DataW.trod enc Tryd.prog w 0 (fun _ => true) true n' 3 (List.take (Tryd.prog.cellsOf 3) (List.drop 1 [v0, v1, v2, v3])) = some y1 := hf 1 _ rfl
      have g2 : DataW.trod enc Tryd.prog w 0 (fun _ => true) true n' 3 (List.take (Tryd.prog.cellsOf 3) (List.drop 2 [v0, v1, v2, v3])) = some y2 := hf 2 _ rfl
      have g3 : DataW.trod enc Tryd.prog w 0 (fun _ => true) true n' 3 (List.take (Tryd.prog.cellsOf 3) (List.drop 3 [v0, v1, v2, v3])) = some y3 := hf 3 _ rfl
      rw [cellsInt] at g0 g1 g2 g3
      simp only [List.drop_zero, List.take_succ_cons, List.take_zero, List.drop_succ_cons] at g0 g1 g2 g3
      obtain ⟨a, e0, _, _⟩ := DataW.trod_int Tryd.underlying3 g0
      obtain ⟨b, e1, _, _⟩ := DataW.trod_int Tryd.underlying3 g1
      obtain ⟨c, e2, _, _⟩ := DataW.trod_int Tryd.underlying3 g2
      obtain ⟨d, e3, _, hw3⟩ := DataW.trod_int Tryd.underlying3 g3
      have hb := (bounds_i64 (n := d) (by simp_all)).2
      simp only [List.cons.injEq, and_true] at e0 e1 e2 e3
      subst e0; subst e1; subst e2; subst e3
      exact ⟨⟨a, b, c, d⟩, rfl, hb⟩
theorem open_acts4 {H : Type} {enc : TypeId × Value → H} {w : World} {fuel : Nat} {a0 : Option Addr} {len cap : Nat} {x : DataW H × List MemPlace}
    (h : DataW.trod enc Tryd.prog w 0 (fun _ => true) true fuel 23 [.slice a0 len cap] = some x) : ∃ A, IsA4 w a0 len A := by
  rcases open_slice Tryd.underlying23 h with ⟨hcs, _⟩ | ⟨a, len', cap', m, n, D, Pl, hcs, _, hl, _, hmm, _, hi⟩
  · simp only [List.cons.injEq, Value.slice.injEq, and_true] at hcs
    obtain ⟨rfl, rfl, rfl⟩ := hcs
    exact ⟨fun _ => ⟨0, 0, 0, 0⟩, fun j hj => absurd hj (Nat.not_lt_zero _)⟩
  · simp only [List.cons.injEq, Value.slice.injEq, and_true] at hcs
    obtain ⟨rfl, rfl, rfl⟩ := hcs
    have hm : len ≤ m := by rw [hmm]; simp; exact hl
    have each : ∀ j, j < len → ∃ x : A4, w.cell? (a.add (j * 4)) = some (.int .i64 x.k) ∧ w.cell? ((a.add (j * 4)).add 1) = some (.int .i64 x.f) ∧ w.cell? ((a.add (j * 4)).add 2) = some (.int .i64 x.c) ∧ w.cell? ((a.add (j * 4)).add 3) = some (.int .i64 x.n) ∧ x.n ≤ 9223372036854775807 := by
      intro j hj
      obtain ⟨cs', hc, ht⟩ := hi j (by omega)
      rw [cellsAct] at hc
      obtain ⟨x, rfl, hx⟩ := open_act4 ht
      obtain ⟨_, _, hat⟩ := World.cells?_some hc
      refine ⟨x, ?_, hat 1 (by omega), hat 2 (by omega), hat 3 (by omega), hx⟩
      have := hat 0 (by omega)
      simpa [Addr.add] using this
    by_cases h0 : len = 0
    · exact ⟨fun _ => ⟨0, 0, 0, 0⟩, fun j hj => by omega⟩
    · obtain ⟨x0, c0, _⟩ := each 0 (by omega)
      have hp := addr_plain' (x := a) (by simpa [Addr.add] using c0)
      refine ⟨fun j => if hj : j < len then (each j hj).choose else ⟨0, 0, 0, 0⟩, fun j hj => ?_⟩
      obtain ⟨h1, h2, h3, h4, h5⟩ := (each j hj).choose_spec
      simp only [hj, dif_pos]
      generalize (each j hj).choose = y at h1 h2 h3 h4 h5
      rw [hp, add_plain'] at h1 h2 h3 h4
      rw [add_plain'] at h2 h3 h4
      exact ⟨a.block, a.off, congrArg some hp, World.block_lt_of_cell? w ⟨a.block, a.off + j * 4, none⟩ h1, h1, h2, h3, h4, h5⟩
end Go.Proofs.YtfefdleadocpmaaDoor

/- What is read of a slice of bytes that came in. No condition. -/
namespace Go.Proofs.YtfefdleadocpmaaDoor
open Go.ChangeShapes Go.WideShapes Go.ChangeAt Go.RowKit Go.Deep

theorem cellsU8 : Tryd.prog.cellsOf 5 = 1 := by kernel_rfl
theorem open_u8s {H : Type} {enc : TypeId × Value → H} {w : World} {fuel : Nat} {a0 : Option Addr} {len cap : Nat} {x : DataW H × List MemPlace}
    (h : DataW.trod enc Tryd.prog w 0 (fun _ => true) true fuel 43 [.slice a0 len cap] = some x) : ∃ A, IsU8 w a0 len A := by
  rcases open_slice Tryd.underlying43 h with ⟨hcs, _⟩ | ⟨a, len', cap', m, n, D, Pl, hcs, _, hl, _, hmm, _, hi⟩
  · simp only [List.cons.injEq, Value.slice.injEq, and_true] at hcs
    obtain ⟨rfl, rfl, rfl⟩ := hcs
    exact ⟨fun _ => 0, fun j hj => absurd hj (Nat.not_lt_zero _)⟩
  · simp only [List.cons.injEq, Value.slice.injEq, and_true] at hcs
    obtain ⟨rfl, rfl, rfl⟩ := hcs
    have hm : len ≤ m := by rw [hmm]; simp; exact hl
    have each : ∀ j, j < len → ∃ x : Nat, w.cell? (a.add j) = some (.int .u8 (x : Int)) ∧ x < 256 := by
      intro j hj
      obtain ⟨cs', hc, ht⟩ := hi j (by omega)
      rw [cellsU8, Nat.mul_one] at hc
      obtain ⟨_, hcl, hat⟩ := World.cells?_some hc
      obtain ⟨v, e0, _, hw⟩ := DataW.trod_int Tryd.underlying5 ht
      have hb := bounds_u8 (n := v) (by simp_all)
      obtain ⟨y, rfl⟩ := Int.eq_ofNat_of_zero_le hb.1
      refine ⟨y, ?_, by omega⟩
      have := hat 0 (by omega)
      simp only [e0] at this
      simpa [Addr.add] using this
    by_cases h0 : len = 0
    · exact ⟨fun _ => 0, fun j hj => by omega⟩
    · obtain ⟨x0, c0, _⟩ := each 0 (by omega)
      have hp := addr_plain' (x := a) (by simpa [Addr.add] using c0)
      refine ⟨fun j => if hj : j < len then (each j hj).choose else 0, fun j hj => ?_⟩
      obtain ⟨h1, h2⟩ := (each j hj).choose_spec
      simp only [hj, dif_pos]
      generalize (each j hj).choose = y at h1 h2
      rw [hp, add_plain'] at h1
      exact ⟨a.block, a.off, congrArg some hp, World.block_lt_of_cell? w ⟨a.block, a.off + j, none⟩ h1, h1, h2⟩
end Go.Proofs.YtfefdleadocpmaaDoor

/- What the row's listed variables say of memory: the tables lie. No condition. -/
namespace Go.Proofs.YtfefdleadocpmaaDoor
open Go.RowKit

def laids : List (String × DataW Unit) := [("math/bits.deBruijn32tab", Rows.laid_math_bits_deBruijn32tab), ("math/bits.deBruijn64tab", Rows.laid_math_bits_deBruijn64tab), ("quartermaster/pool.costs", Rows.laid_quartermaster_pool_costs)]
def dbt32 : List Int := [0, 1, 28, 2, 29, 14, 24, 3, 30, 22, 20, 15, 25, 17, 4, 8, 31, 27, 13, 23, 21, 19, 16, 7, 26, 12, 18, 6, 11, 5, 10, 9]
theorem g32 : Tryd.prog.globalNamed "math/bits.deBruijn32tab" = some 2 := by kernel_rfl
theorem t32 : (Tryd.prog.globals[2]?).map (·.type) = some 128 := by kernel_rfl
theorem g64 : Tryd.prog.globalNamed "math/bits.deBruijn64tab" = some 1 := by kernel_rfl
theorem gCost : Tryd.prog.globalNamed "quartermaster/pool.costs" = some 0 := by kernel_rfl
theorem t64 : (Tryd.prog.globals[1]?).map (·.type) = some 126 := by kernel_rfl
theorem tCost : (Tryd.prog.globals[0]?).map (·.type) = some 63 := by kernel_rfl
theorem env_of_laid {W : World} (h : laidMetH Tryd.prog laids W) : Env W := by
  rw [MakeChecks.laidMetH_plain _ _ _ (by kernel_rfl)] at h
  have h1 : laidMet Tryd.prog (("math/bits.deBruijn32tab", Lib.tabData .u8 dbt32) :: [("math/bits.deBruijn64tab", Rows.laid_math_bits_deBruijn64tab), ("quartermaster/pool.costs", Rows.laid_quartermaster_pool_costs)]) W := h
  have hA := Lib.tabIs_of_head g32 t32 Tryd.underlying128 Tryd.underlying5 (by kernel_rfl) (by kernel_rfl) h1
  have h2 : laidMet Tryd.prog (("math/bits.deBruijn64tab", Lib.tabData .u8 (dbt.map fun (n : Nat) => (n : Int))) :: [("quartermaster/pool.costs", Rows.laid_quartermaster_pool_costs)]) W := laidMet.tail h1
  have h3 : laidMet Tryd.prog (("quartermaster/pool.costs", Lib.tabData .i64 costL) :: []) W := laidMet.tail h2
  have hB := Lib.tabIs_of_head g64 t64 Tryd.underlying126 Tryd.underlying5 (by kernel_rfl) (by kernel_rfl) h2
  have hC := Lib.tabIs_of_head gCost tCost Tryd.underlying63 Tryd.underlying3 (by kernel_rfl) (by kernel_rfl) h3
  have cB : TabB W := by
    intro j v hv
    have hj := (List.getElem?_eq_some_iff.1 hv).1
    have := hB.cell g64 j (by simpa using hj)
    rw [this]
    congr 2
    simp [List.getD, hv]
  have cC : TabC W := by
    intro j v hv
    have hj := (List.getElem?_eq_some_iff.1 hv).1
    have := hC.cell gCost j (by simpa using hj)
    rw [this]
    congr 2
    simp [List.getD, hv]
  refine ⟨?_, cB, cC⟩
  have c0 := World.block_lt_of_cell? W ⟨1, 0, none⟩ (cB 0 0 rfl)
  have c1 := World.block_lt_of_cell? W ⟨0, 0, none⟩ (cC 0 0 rfl)
  have c2 := World.block_lt_of_cell? W ⟨2, 0, none⟩ (hA.cell g32 0 (by decide))
  have c0' : 1 < W.heap.size := c0
  have c1' : 0 < W.heap.size := c1
  have c2' : 2 < W.heap.size := c2
  unfold GB
  omega
end Go.Proofs.YtfefdleadocpmaaDoor

/-
  PoolZeros returns true at every input, whatever lies in memory, where the listed variables lie as laid.
  By hand, after the frame of the guide's worked examples. Not trusted: Lean checks it.
-/
namespace Go.Proofs.YtfefdleadocpmaaDoor.poolZeros
open Go.ChangeShapes Go.WideShapes Go.ChangeAt Go.RowKit
set_option linter.unusedVariables false

theorem own : ownKnob Tryd.prog.godebug = none := by kernel_rfl
theorem laidOut : laidOutB Tryd.prog = true := by kernel_rfl
/-- The door's own heap meets the condition: closed facts. -/
theorem door_met (os : Os) (args : Array Value) : laidMetH Tryd.prog laids ((World.doorLaid Tryd.prog 400 os).forCall (fun _ _ => 0) ⟨#[], args, []⟩).memory :=
  laidMetH_of_parts3 (fuel := 8) (laidMet_of_run' 8 (by kernel_rfl) (by kernel_rfl)) (by kernel_rfl) (by kernel_rfl)

set_option maxRecDepth 100000 in
theorem lifted (os : Os) (started : os.Started) (H : Type) (enc : TypeId × Value → H) :
    ReturnsInHanded {} Tryd.checked os 4 .any (fun w args => (Rows.poolZerosSpec.pre enc Tryd.prog Tryd.f4 [] false w args ∧ laidMetH Tryd.prog laids w) ∧ sizedMet enc Tryd.prog Tryd.f4 (OpenSpec.ofChange Rows.poolZerosSpec) false w args)
      (Rows.poolZerosSpec.post enc Tryd.prog Tryd.f4 false true false false) := by
  refine returnsInHanded_of_change_and (C := Tryd.checked) (X := fun w _ => laidMetH Tryd.prog laids w) (fun _ _ _ hh h => h.of_heap hh) own started (by kernel_rfl) Tryd.func4
    (ChangeSpec.witness_shaped (enc := enc) (C := Tryd.checked) (os := os) (X := fun w _ => laidMetH Tryd.prog laids w) false (World.doorLaid Tryd.prog 400 os) #[.slice none 0 0, .int .u8 0] 8 rfl (World.shaped_of_RefB (by kernel_rfl) (by kernel_rfl)) (by kernel_rfl) (by kernel_rfl) (by kernel_rfl) (door_met os _)) ?_
  intro W base args ds gs before hval0 hW _ _ hL _
  have hval : ∀ (j : Nat) t v, Tryd.f4.params[j]? = some t → args[j]? = some v → Value.okWide Tryd.prog W .any base t v := hval0
  have hW' := hW
  obtain ⟨p, q, hA0, hV, rfl, hfz, hnd⟩ := hW
  have hA : DataW.TrodAll enc Tryd.prog W 0 (fun _ => true) true Tryd.f4.params.toList args.toList ds p := hA0
  rw [Tryd.params4] at hA hval
  obtain ⟨v0, v1, d0, d1, p0, p1, rfl, rfl, rfl, h0, h1⟩ := trodAll_two hA
  obtain ⟨rfl, rfl⟩ := trodVars_none hV
  obtain ⟨a0, len0, cap0, rfl⟩ := okWide_slice Tryd.underlying43 (hval 0 43 v0 rfl rfl)
  obtain ⟨n1, rfl, rfl, rfl, wf1⟩ := open_int Tryd.underlying5 (hval 1 5 v1 rfl rfl) h1
  have k0 := h0
  have lt0 : ∀ x ∈ p0, x.block < W.heap.size := by obtain ⟨m, hm⟩ := k0; exact DataW.trod_lt m _ _ _ hm
  obtain ⟨A, hBy⟩ : ∃ A, IsU8 W a0 len0 A := by
    obtain ⟨fuel, hf⟩ := h0
    exact open_u8s (by simpa [Value.cells] using hf)
  have hb1 : 0 ≤ n1 ∧ n1 < 256 := by
    have := bounds_u8 wf1
    omega
  obtain ⟨m1, rfl⟩ := Int.eq_ofNat_of_zero_le hb1.1
  clear hA0 hval0
  refine (zeros_any (env_of_laid hL) a0 len0 cap0 A hBy m1 (by omega)).mono fun e W' ⟨he, bel⟩ => ?_
  subst he
  exact ⟨_, rfl, _, _, _, [], _, [], hW', trodAll_mk1 (shut_bool Tryd.underlying4 _), trodAll_mk2 (Below.trod laidOut (by kernel_rfl) (of_decide_eq_true (by kernel_rfl)) k0 bel lt0) (shut_int Tryd.underlying5 wf1), rfl, bel.frame _, fun h => by cases h⟩

theorem over : Rows.poolZerosRow.holds Tryd.pinned (OpenSpec.ofChange Rows.poolZerosSpec) :=
  OpenClaim.holds_of_wide 4 Tryd.f4 rfl rfl rfl rfl rfl rfl rfl ⟨rfl, rfl, rfl, rfl, rfl⟩ rfl rfl rfl rfl rfl (by kernel_rfl) Tryd.func4 (by kernel_rfl)
    (of_decide_eq_true (by kernel_rfl)) (by unfold Func.isWrapper; first | (rw [if_pos (by decide +kernel)]; kernel_rfl) | (rw [if_neg (by decide +kernel)]; exact ⟨rfl, rfl⟩))
    (fun os started H enc _ => lifted os started H enc)

/-- THE ROW. -/
theorem proved : Rows.PoolZerosSaid := over
end Go.Proofs.YtfefdleadocpmaaDoor.poolZeros
