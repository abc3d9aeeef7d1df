/- PoolZeros returns true at every input, with the three listed tables tied to the program's text. No condition. Part of its proof. -/
import Derived.Test.YtfefdleadocpmaaDoorPz08
import Derived.Test.YtfefdleadocpmaaDoorPz09
import Derived.Test.YtfefdleadocpmaaDoorPz05
import Derived.Deep.LoopGhost
import Derived.Maps.AppendAt
import Derived.RangeFuncBox
import Derived.IntWalk
import Derived.Shelf.SlSortCmp.WholeK
import Derived.Shelf.SlGeneric
import Derived.Ground.SlsfProg
import Derived.Test.YtfefdleadocpmaaDoorProg
import Derived.Test.YtfefdleadocpmaaDoorPz03
import Derived.Shelf.SlSortCmp.NoneTotal
import Derived.Deep.Cut
/- Walk of the pool's New. Condition: the size is a power of two that may be, the limit is at most the size. -/
namespace Go.Proofs.YtfefdleadocpmaaDoor
open Go.RowKit

set_option maxHeartbeats 400000 in
theorem slabnew_zero {w : World} (bb : Nat) : Calls Tryd.prog 27 #[ptr bb, .int .i64 0] w fun r w' => r = .returned (.pointer none) ∧ w = w' := by
  unfold ptr
  go_enter Tryd.func27, Tryd.ntmps27
  go_wp2_with fail
  go_ret
  exact ⟨rfl, rfl⟩
/-- A pool that isn't ready: its first caches. -/
def PL.cellsN (P : PL) : List Value := ptr P.q.t :: ptr P.d.b :: ptr P.a.a :: .pointer none :: (P.cs.map (fun c => ptr c.c) ++ List.replicate (7 - P.cs.length) (.pointer none))
def PL.hlN (P : PL) : HL := (P.p, isC 62 P.cellsN) :: (P.q.hl ++ (P.d.hl ++ (P.a.hl ++ P.cs.flatMap CA.hl)))
theorem hlN_full {P : PL} (h : P.cs.length = 7) : P.hlN = P.hl := by
  unfold PL.hlN PL.hl PL.cellsN PL.cells
  rw [h]; simp
theorem PL.snoc {w w1 : World} {H : HL} {P : PL} (hl : P.cs.length < 7) (c : CA) (hs : Step (P.hlN ++ H) (c.hl ++ (P.hlN ++ H)) w w1) :
    Step (P.hlN ++ H) (({ P with cs := P.cs ++ [c] } : PL).hlN ++ H) w (w1.setCell ⟨P.p, 3 + (P.cs.length + 1), none⟩ (ptr c.c)) := by
  have ec : P.cellsN.set (3 + (P.cs.length + 1)) (ptr c.c) = ({ P with cs := P.cs ++ [c] } : PL).cellsN := by
    unfold PL.cellsN
    rw [show 3 + (P.cs.length + 1) = P.cs.length + 1 + 1 + 1 + 1 by omega]
    simp only [List.set_cons_succ, List.length_append, List.length_singleton, List.map_append, List.map_cons, List.map_nil]
    rw [List.set_append_right _ _ (by simp), List.length_map, Nat.sub_self, show 7 - P.cs.length = (7 - (P.cs.length + 1)) + 1 by omega, List.replicate_succ, List.set_cons_zero, List.append_assoc]
    rfl
  have s2 : Step _ _ w1 _ := Sep.set (A := c.hl) (b := P.p) (T := 62) (cs := P.cellsN) (B := (P.q.hl ++ (P.d.hl ++ (P.a.hl ++ P.cs.flatMap CA.hl))) ++ H) (by simpa [PL.hlN] using hs.sep) (3 + (P.cs.length + 1)) (ptr c.c)
  rw [ec] at s2
  have h3 := Step.trans (H1 := c.hl ++ (P.p, isC 62 P.cellsN) :: ((P.q.hl ++ (P.d.hl ++ (P.a.hl ++ P.cs.flatMap CA.hl))) ++ H)) (by simpa [PL.hlN] using hs) s2
  refine h3.perm (.of_eq (by unfold PL.hlN; simp)) (perm_count fun a => ?_)
  simp only [PL.hlN, List.flatMap_append, List.flatMap_cons, List.flatMap_nil, List.append_nil, hc_append, hc_cons]; omega
/-- The first caches of a new pool. -/
def FreshC (bb : Nat) (cs : List CA) : Prop := ∀ j c, cs[j]? = some c → c.bb = bb ∧ c.size = costN (j + 1) ∧ c.rv = none ∧ c.pg = []
theorem FreshC.snoc {bb : Nat} {cs : List CA} (h : FreshC bb cs) (c : Nat) : FreshC bb (cs ++ [⟨c, bb, costN (cs.length + 1), none, []⟩]) := by
  intro j x hx
  by_cases hj : j < cs.length
  · rw [List.getElem?_append_left hj] at hx; exact h j x hx
  · rw [List.getElem?_append_right (by omega)] at hx
    have : j = cs.length := by
      have := (List.getElem?_eq_some_iff.1 hx).1
      simp at this; omega
    subst this
    rw [Nat.sub_self] at hx
    cases hx
    exact ⟨rfl, rfl, rfl, rfl⟩
structure FreshP (P : PL) (top : Nat) (limit : Int) : Prop where
  q : ∃ t m b, P.q = newQT t m b limit
  etop : P.d.top = top
  ps : P.d.ps = []
  at' : P.d.At
  mem : P.a.mem = List.replicate (2 ^ (top + 10)) 0
  cs : FreshC P.d.b P.cs
theorem FreshP.ok {P : PL} {top : Nat} {limit : Int} (h : FreshP P top limit) (hl : P.cs.length = 7) (h1 : 6 ≤ top) (h0 : 0 ≤ limit) (hm : limit ≤ 1073741824) : P.Ok [] := by
  obtain ⟨t, m, b, hq⟩ := h.q
  have hpg : P.pages = [] := by
    unfold PL.pages
    rw [List.flatMap_eq_nil_iff]
    intro c hc
    obtain ⟨j, hj⟩ := List.mem_iff_getElem?.1 hc
    rw [(h.cs j c hj).2.2.2]; rfl
  refine ⟨by rw [hq]; exact newQT_ok t m b limit h0 hm, h.at', by rw [h.mem, h.etop, List.length_replicate], by rw [h.etop]; exact h1, ?_, hl, ?_, by rw [hpg, h.ps]; exact List.Perm.refl _, ?_⟩
  · intro x hx
    rw [h.mem] at hx
    rw [List.eq_of_mem_replicate hx]; omega
  · intro k c hc
    obtain ⟨e1, e2, e3, e4⟩ := h.cs k c hc
    have hk : k < 7 := by have := (List.getElem?_eq_some_iff.1 hc).1; omega
    obtain ⟨s0, s1, _⟩ := costN_ok (k := k + 1) (by omega) (by omega)
    have hcok := CA.ok_new c.c c.bb c.size (by rw [e2]; omega) (by rw [e2]; omega)
    have : (⟨c.c, c.bb, c.size, none, []⟩ : CA) = c := by cases c; simp_all
    rw [this] at hcok
    exact ⟨hcok, e2, e1⟩
  · intro c hc x hx
    obtain ⟨j, hj⟩ := List.mem_iff_getElem?.1 hc
    rw [(h.cs j c hj).2.2.2] at hx
    cases hx
def NewPL (top : Nat) (limit : Int) (H : HL) (w : World) (r : Ending) (w' : World) : Prop := ∃ P : PL, r = .returned (.pointer (some ⟨P.p, 0, none⟩)) ∧ P.cs.length = 7 ∧ FreshP P top limit ∧ Step H (P.hl ++ H) w w'
/-- The pool's struct is laid; i classes were gone through. -/
def PoolAt (P : PL) (i : Nat) (top : Nat) (limit : Int) (H : HL) (w wr : World) : Prop := P.cs.length = i - 1 ∧ FreshP P top limit ∧ Step H (P.hlN ++ H) w wr
theorem pool_round {w wr : World} {H : HL} {P : PL} {i top : Nat} {limit : Int} (hi : i < 8) (hp : PoolAt P i top limit H w wr) (cst : Int) (hc : costL[i]? = some cst) :
    wr.cell? ⟨P.p, 1, none⟩ = some (ptr P.d.b) ∧ wr.cell? ⟨P.p, 3 + i, none⟩ = some (.pointer none) ∧ wr.frozen? ⟨P.p, 3 + i, none⟩ = false ∧
    Calls Tryd.prog 27 #[ptr P.d.b, .int .i64 cst] wr.drew fun r w1 => ∃ v, r = .returned (.pointer v) ∧ w1.cell? ⟨P.p, 1, none⟩ = some (ptr P.d.b) ∧ (∀ v, (w1.setCell ⟨P.p, 3 + i, none⟩ v).cell? ⟨P.p, 1, none⟩ = some (ptr P.d.b)) ∧ w1.cell? ⟨P.p, 3 + i, none⟩ = some (.pointer none) ∧ w1.frozen? ⟨P.p, 3 + i, none⟩ = false ∧
      ∃ P' : PL, P'.p = P.p ∧ P'.d.b = P.d.b ∧ PoolAt P' (i + 1) top limit H w (w1.setCell ⟨P.p, 3 + i, none⟩ (.pointer v)) := by
  obtain ⟨hlen, hf, hst⟩ := hp
  have cells : ∀ {w1 : World}, Sep w1 P.hlN → w1.cell? ⟨P.p, 1, none⟩ = some (ptr P.d.b) ∧ (∀ v, (w1.setCell ⟨P.p, 3 + i, none⟩ v).cell? ⟨P.p, 1, none⟩ = some (ptr P.d.b)) ∧ w1.cell? ⟨P.p, 3 + i, none⟩ = some (.pointer none) ∧ w1.frozen? ⟨P.p, 3 + i, none⟩ = false := by
    intro w1 hs1
    have hcl : Cells w1 P.p 62 P.cellsN := hs1.cells (by simp [PL.hlN])
    refine ⟨hcl.cell 1 _ rfl, fun v => (hcl.set (3 + i) v).cell 1 _ ?_, hcl.cell (3 + i) _ ?_, hcl.free _⟩
    · rw [List.getElem?_set_ne (by omega)]; rfl
    · unfold PL.cellsN
      cases i with
      | zero => rfl
      | succ i =>
        rw [show 3 + (i + 1) = i + 1 + 1 + 1 + 1 by omega]
        simp only [List.getElem?_cons_succ]
        rw [List.getElem?_append_right (by simp; omega), List.length_map, hlen]
        rw [List.getElem?_replicate, if_pos (by omega)]
  have hs := hst.sep.left
  obtain ⟨a1, _, a2, a3⟩ := cells hs
  refine ⟨a1, a2, a3, ?_⟩
  cases i with
  | zero =>
    cases hc
    refine (slabnew_zero P.d.b).mono ?_
    rintro r w1 ⟨rfl, rfl⟩
    obtain ⟨b1, b2, b3, b4⟩ := cells hst.sep.drew.left
    have hP : P.cs = [] := List.eq_nil_of_length_eq_zero hlen
    have hsame : Step (P.hlN ++ H) (P.hlN ++ H) wr.drew (wr.drew.setCell ⟨P.p, 3, none⟩ (.pointer none)) := by
      have := Sep.set (A := []) (b := P.p) (T := 62) (cs := P.cellsN) (B := (P.q.hl ++ (P.d.hl ++ (P.a.hl ++ P.cs.flatMap CA.hl))) ++ H) (by simpa [PL.hlN] using hst.sep.drew) 3 (.pointer none)
      have e : P.cellsN.set 3 (.pointer none) = P.cellsN := rfl
      rw [e] at this
      simpa [PL.hlN] using this
    exact ⟨none, rfl, b1, b2, b3, b4, P, rfl, rfl, by simp [hlen], hf, hst.trans hsame.from_drew⟩
  | succ i =>
    have hcst : cst = ((costN (i + 1) : Nat) : Int) := by
      have := costN_tab (k := i + 1) hi
      rw [hc] at this; cases this; rfl
    subst hcst
    obtain ⟨s0, s1, s2⟩ := costN_ok (k := i + 1) (by omega) (by omega)
    refine (slabnew_any hst.sep.drew P.d.b (costN (i + 1)) (by omega) (by omega) s2).mono ?_
    rintro r w1 ⟨c, rfl, hs1⟩
    obtain ⟨b1, b2, b3, b4⟩ := cells hs1.sep.right.left
    have hl' : P.cs.length = i := by omega
    have hsn := PL.snoc (by omega) _ hs1.from_drew
    rw [hl'] at hsn
    have hfs := hf.cs.snoc c
    rw [hl'] at hfs
    exact ⟨some ⟨c, 0, none⟩, rfl, b1, b2, b3, b4, { P with cs := P.cs ++ [⟨c, P.d.b, costN (i + 1), none, []⟩] }, rfl, rfl, by simp [hl'], ⟨hf.q, hf.etop, hf.ps, hf.at', hf.mem, hfs⟩, hst.trans hsn⟩
/-- The struct of a new pool. -/
theorem pool_start {w w1 w2 w3 : World} {H : HL} {limit : Int} {top : Nat} {t m b : Nat} {d : BD} {a : AN} (s1 : Step H ((newQT t m b limit).hl ++ H) w w1) (e1 : d.top = top) (e2 : d.ps = []) (e3 : d.At) (s2 : Step ((newQT t m b limit).hl ++ H) (d.hl ++ ((newQT t m b limit).hl ++ H)) w1 w2)
    (e4 : a.mem = List.replicate (2 ^ (top + 10)) 0) (s3 : Step (d.hl ++ ((newQT t m b limit).hl ++ H)) (a.hl ++ (d.hl ++ ((newQT t m b limit).hl ++ H))) w2 w3) :
    PoolAt ⟨w3.heap.size, newQT t m b limit, d, a, []⟩ 0 top limit H w (w3.alloc (.cells #[ptr t, ptr d.b, ptr a.a, .pointer none, .pointer none, .pointer none, .pointer none, .pointer none, .pointer none, .pointer none, .pointer none] 62)) := by
  have s4 := s3.sep.new 62 [ptr t, ptr d.b, ptr a.a, .pointer none, .pointer none, .pointer none, .pointer none, .pointer none, .pointer none, .pointer none, .pointer none]
  refine ⟨rfl, ⟨⟨t, m, b, rfl⟩, e1, e2, e3, e4, fun j c hj => by simp at hj⟩, ?_⟩
  have := ((s1.trans s2).trans s3).trans s4
  refine this.perm (List.Perm.refl _) (perm_count fun x => ?_)
  have e : PL.cellsN ⟨w3.heap.size, newQT t m b limit, d, a, []⟩ = [ptr t, ptr d.b, ptr a.a, .pointer none, .pointer none, .pointer none, .pointer none, .pointer none, .pointer none, .pointer none, .pointer none] := rfl
  simp only [PL.hlN, e, List.flatMap_nil, List.append_nil, hc_append, hc_cons]; omega
theorem idx_cost0 (w : World) : (Instr.index 63 (.agg #[.int .i64 0, .int .i64 64, .int .i64 128, .int .i64 256, .int .i64 32, .int .i64 32, .int .i64 48, .int .i64 256]) (.int .i64 0)).run Tryd.prog w = .ok (.int .i64 0) w := by kernel_rfl
theorem idx_cost1 (w : World) : (Instr.index 63 (.agg #[.int .i64 0, .int .i64 64, .int .i64 128, .int .i64 256, .int .i64 32, .int .i64 32, .int .i64 48, .int .i64 256]) (.int .i64 1)).run Tryd.prog w = .ok (.int .i64 64) w := by kernel_rfl
theorem idx_cost2 (w : World) : (Instr.index 63 (.agg #[.int .i64 0, .int .i64 64, .int .i64 128, .int .i64 256, .int .i64 32, .int .i64 32, .int .i64 48, .int .i64 256]) (.int .i64 2)).run Tryd.prog w = .ok (.int .i64 128) w := by kernel_rfl
theorem idx_cost3 (w : World) : (Instr.index 63 (.agg #[.int .i64 0, .int .i64 64, .int .i64 128, .int .i64 256, .int .i64 32, .int .i64 32, .int .i64 48, .int .i64 256]) (.int .i64 3)).run Tryd.prog w = .ok (.int .i64 256) w := by kernel_rfl
theorem idx_cost4 (w : World) : (Instr.index 63 (.agg #[.int .i64 0, .int .i64 64, .int .i64 128, .int .i64 256, .int .i64 32, .int .i64 32, .int .i64 48, .int .i64 256]) (.int .i64 4)).run Tryd.prog w = .ok (.int .i64 32) w := by kernel_rfl
theorem idx_cost5 (w : World) : (Instr.index 63 (.agg #[.int .i64 0, .int .i64 64, .int .i64 128, .int .i64 256, .int .i64 32, .int .i64 32, .int .i64 48, .int .i64 256]) (.int .i64 5)).run Tryd.prog w = .ok (.int .i64 32) w := by kernel_rfl
theorem idx_cost6 (w : World) : (Instr.index 63 (.agg #[.int .i64 0, .int .i64 64, .int .i64 128, .int .i64 256, .int .i64 32, .int .i64 32, .int .i64 48, .int .i64 256]) (.int .i64 6)).run Tryd.prog w = .ok (.int .i64 48) w := by kernel_rfl
theorem idx_cost7 (w : World) : (Instr.index 63 (.agg #[.int .i64 0, .int .i64 64, .int .i64 128, .int .i64 256, .int .i64 32, .int .i64 32, .int .i64 48, .int .i64 256]) (.int .i64 7)).run Tryd.prog w = .ok (.int .i64 256) w := by kernel_rfl
set_option maxHeartbeats 4000000 in
set_option maxRecDepth 100000 in
theorem pnew_any {w : World} {H : HL} (h : Sep w H) (top : Nat) (h1 : 6 ≤ top) (h2 : top ≤ 20) (limit : Int) (hl0 : 0 ≤ limit) (hl1 : limit ≤ ((2 ^ (top + 10) : Nat) : Int)) : Calls Tryd.prog 6 #[.int .i64 ((2 ^ (top + 10) : Nat) : Int), .int .i64 limit] w (NewPL top limit H w) := by
  have b2 : 2 ^ (top + 10) ≤ 1073741824 := Nat.le_trans (Nat.pow_le_pow_right (by omega) (by omega)) (by decide : 2 ^ 30 ≤ 1073741824)
  have k1 := qnew_any h limit hl0 (by omega)
  have HQ : Hid (∀ r w1, NewQ limit H w r w1 → ∃ t m b, r = .returned (.pointer (some ⟨t, 0, none⟩)) ∧ Step H ((newQT t m b limit).hl ++ H) w w1 ∧ Calls Tryd.prog 25 #[.int .i64 ((2 ^ (top + 10) : Nat) : Int)] w1 (NewBD top ((newQT t m b limit).hl ++ H) w1)) := by
    rintro r w1 ⟨t, m, b, rfl, s1⟩
    exact ⟨t, m, b, rfl, s1, buddy_new s1.sep top h1 h2⟩
  have HA : Hid (∀ w2 H2, Sep w2 H2 → Calls Tryd.prog 26 #[.int .i64 ((2 ^ (top + 10) : Nat) : Int)] w2 (NewAN (2 ^ (top + 10)) H2 w2)) := fun w2 H2 s2 => arena_new s2 (top + 10) (by omega) (by omega)
  clear h
  generalize hsz : 2 ^ (top + 10) = sz at *
  have HSz := hidden hsz
  clear hsz
  go_enter Tryd.func6, Tryd.ntmps6
  go_wp2_with fail
  refine k1.mono ?_
  intro r w1 hx
  obtain ⟨t, m, b, rfl, s1, hb⟩ := HQ.out _ _ hx
  have HB := hidden hb
  have S1 := hidden s1
  clear hx hb s1
  go_wp2_with fail
  refine HB.out.mono ?_
  rintro r w2 ⟨d, rfl, e1, e2, e3, s2⟩
  have S2 := hidden s2
  have ha := HA.out w2 _ s2.sep
  have HA2 := hidden ha
  have E1 := hidden e1
  have E2 := hidden e2
  clear ha s2 e1 e2
  go_wp2_with fail
  refine HA2.out.mono ?_
  rintro r w3 ⟨a, rfl, e4, s3⟩
  have hps := pool_start S1.out E1.out E2.out e3 S2.out (by rw [HSz.out]; exact e4) s3
  have HP := hidden hps
  have HTab := hidden (hps.2.2.sep.env.tabC)
  clear e3 e4 s3 hps
  unfold ptr at *
  have g0 : (w3.alloc (.cells #[.pointer (some ⟨t, 0, none⟩), .pointer (some ⟨d.b, 0, none⟩), .pointer (some ⟨a.a, 0, none⟩), .pointer none, .pointer none, .pointer none, .pointer none, .pointer none, .pointer none, .pointer none, .pointer none] 62)).cell? ⟨0, 0, none⟩ = some (.int .i64 0) := HTab.out 0 0 rfl
  have g1 : (w3.alloc (.cells #[.pointer (some ⟨t, 0, none⟩), .pointer (some ⟨d.b, 0, none⟩), .pointer (some ⟨a.a, 0, none⟩), .pointer none, .pointer none, .pointer none, .pointer none, .pointer none, .pointer none, .pointer none, .pointer none] 62)).cell? ⟨0, 1, none⟩ = some (.int .i64 64) := HTab.out 1 64 rfl
  have g2 : (w3.alloc (.cells #[.pointer (some ⟨t, 0, none⟩), .pointer (some ⟨d.b, 0, none⟩), .pointer (some ⟨a.a, 0, none⟩), .pointer none, .pointer none, .pointer none, .pointer none, .pointer none, .pointer none, .pointer none, .pointer none] 62)).cell? ⟨0, 2, none⟩ = some (.int .i64 128) := HTab.out 2 128 rfl
  have g3 : (w3.alloc (.cells #[.pointer (some ⟨t, 0, none⟩), .pointer (some ⟨d.b, 0, none⟩), .pointer (some ⟨a.a, 0, none⟩), .pointer none, .pointer none, .pointer none, .pointer none, .pointer none, .pointer none, .pointer none, .pointer none] 62)).cell? ⟨0, 3, none⟩ = some (.int .i64 256) := HTab.out 3 256 rfl
  have g4 : (w3.alloc (.cells #[.pointer (some ⟨t, 0, none⟩), .pointer (some ⟨d.b, 0, none⟩), .pointer (some ⟨a.a, 0, none⟩), .pointer none, .pointer none, .pointer none, .pointer none, .pointer none, .pointer none, .pointer none, .pointer none] 62)).cell? ⟨0, 4, none⟩ = some (.int .i64 32) := HTab.out 4 32 rfl
  have g5 : (w3.alloc (.cells #[.pointer (some ⟨t, 0, none⟩), .pointer (some ⟨d.b, 0, none⟩), .pointer (some ⟨a.a, 0, none⟩), .pointer none, .pointer none, .pointer none, .pointer none, .pointer none, .pointer none, .pointer none, .pointer none] 62)).cell? ⟨0, 5, none⟩ = some (.int .i64 32) := HTab.out 5 32 rfl
  have g6 : (w3.alloc (.cells #[.pointer (some ⟨t, 0, none⟩), .pointer (some ⟨d.b, 0, none⟩), .pointer (some ⟨a.a, 0, none⟩), .pointer none, .pointer none, .pointer none, .pointer none, .pointer none, .pointer none, .pointer none, .pointer none] 62)).cell? ⟨0, 6, none⟩ = some (.int .i64 48) := HTab.out 6 48 rfl
  have g7 : (w3.alloc (.cells #[.pointer (some ⟨t, 0, none⟩), .pointer (some ⟨d.b, 0, none⟩), .pointer (some ⟨a.a, 0, none⟩), .pointer none, .pointer none, .pointer none, .pointer none, .pointer none, .pointer none, .pointer none, .pointer none] 62)).cell? ⟨0, 7, none⟩ = some (.int .i64 256) := HTab.out 7 256 rfl
  go_wp2_with fail
  clear g0 g1 g2 g3 g4 g5 g6 g7
  have ix0 := idx_cost0
  have ix1 := idx_cost1
  have ix2 := idx_cost2
  have ix3 := idx_cost3
  have ix4 := idx_cost4
  have ix5 := idx_cost5
  have ix6 := idx_cost6
  have ix7 := idx_cost7
  go_loopw [34] (fun iv wr => ∃ (i : Nat) (P : PL), iv = .int .i64 i ∧ i ≤ 8 ∧ P.p = w3.heap.size ∧ P.d.b = d.b ∧ PoolAt P i top limit H w wr) (fun iv _ => 8 - (intOf iv).toNat)
  case atStart => exact ⟨0, _, rfl, by omega, rfl, rfl, HP.out⟩
  case round =>
    clear HP
    obtain ⟨i, P, rfl, hi, ep, ed, hp⟩ := hrel
    by_cases hlt : i < 8
    · have hrd := fun cst hc => pool_round hlt hp cst hc
      rw [ep, ed] at hrd
      have HRd := hidden hrd
      clear hrd hp ep ed
      have hcases : i = 0 ∨ i = 1 ∨ i = 2 ∨ i = 3 ∨ i = 4 ∨ i = 5 ∨ i = 6 ∨ i = 7 := by omega
      rcases hcases with rfl | rfl | rfl | rfl | rfl | rfl | rfl | rfl
      all_goals
        obtain ⟨c0, c1, cf, hcall⟩ := HRd.out _ rfl
        clear HRd
        unfold ptr at *
        have HCall := hidden hcall
        clear hcall
        have d0 : wr.drew.cell? ⟨w3.heap.size, 1, none⟩ = some (.pointer (some ⟨d.b, 0, none⟩)) := c0
        try push_cast
        go_wp2_with fail
        go_region_held3 (fun w' => w'.cell? ⟨w3.heap.size, 1, none⟩ = some (.pointer (some ⟨d.b, 0, none⟩)))
          (first | exact c0 | exact d0 | exact e0 | exact ek _)
          (first | (go_at_call 27; refine HCall.out.mono ?_; rintro r w1 ⟨v, rfl, e0, ek, e1, ef, hnx⟩; have HNx := hidden hnx; clear hnx))
        go_wp2_with fail
        obtain ⟨P', r1, r2, r3⟩ := HNx.out
        go_roundw
        case rel => exact ⟨_, P', by go_num, by omega, r1, r2, r3⟩
        case measure => simp [intOf]
    · obtain rfl : i = 8 := by omega
      have HR : Hid (NewPL top limit H w (.returned (.pointer (some ⟨w3.heap.size, 0, none⟩))) wr) := by
        obtain ⟨q1, q2, q3⟩ := hp
        refine ⟨P, by rw [ep], q1, q2, ?_⟩
        rw [hlN_full q1] at q3
        exact q3
      clear hp ep ed
      go_wp2_with fail
      first | exact HR.out | (go_ret; exact HR.out)
end Go.Proofs.YtfefdleadocpmaaDoor

/- Walks of the allocator's Free. Conditions: the blocks hold what BD.hl says, the free blocks are those that the used pages leave. -/
namespace Go.Proofs.YtfefdleadocpmaaDoor
open Go.RowKit

/-- The numbers of the blocks of an order that are so, below s. -/
def onTo (G : Nat → Nat → Bool) (top k s : Nat) : List Nat := ((List.range (2 ^ (top - k))).filter (G k)).filter fun i => decide (i < s)
def onAll (G : Nat → Nat → Bool) (top k : Nat) : List Nat := (List.range (2 ^ (top - k))).filter (G k)
theorem onTo_zero (G : Nat → Nat → Bool) (top k : Nat) : onTo G top k 0 = [] := by simp [onTo]
theorem mem_on {G : Nat → Nat → Bool} {top k i : Nat} : i ∈ onAll G top k ↔ i < 2 ^ (top - k) ∧ G k i = true := by simp [onAll]
theorem filter_upto {l : List Nat} (hs : l.Pairwise (· < ·)) {s i : Nat} (hi : i ∈ l) (hsi : s ≤ i) (hno : ∀ j ∈ l, s ≤ j → i ≤ j) : l.filter (fun j => decide (j < i + 1)) = l.filter (fun j => decide (j < s)) ++ [i] := by
  induction l with
  | nil => cases hi
  | cons a r ih =>
    obtain ⟨h1, h2⟩ := List.pairwise_cons.1 hs
    rcases List.mem_cons.1 hi with rfl | hi'
    · have e1 : r.filter (fun j => decide (j < i + 1)) = [] := by
        rw [List.filter_eq_nil_iff]; intro j hj; have := h1 j hj; simp; omega
      have e2 : r.filter (fun j => decide (j < s)) = [] := by
        rw [List.filter_eq_nil_iff]; intro j hj; have := h1 j hj; simp; omega
      rw [List.filter_cons_of_pos (by simp), List.filter_cons_of_neg (by simp; omega), e1, e2]; rfl
    · have hai := h1 i hi'
      have hlt : a < s := by
        rcases Nat.lt_or_ge a s with e | e
        · exact e
        · have := hno a (by simp) e; omega
      rw [List.filter_cons_of_pos (by simp; omega), List.filter_cons_of_pos (by simp; omega), ih h2 hi' (fun j hj hsj => hno j (by simp [hj]) hsj)]; rfl
theorem bits_on {G : Nat → Nat → Bool} {n k i : Nat} (hi : i < n) : ((List.range n).map (G k))[i]?.getD false = G k i := by simp [hi]
theorem onTo_step {G : Nat → Nat → Bool} {top k s i : Nat} (h : fstG G top k s = some i) : onTo G top k (i + 1) = onTo G top k s ++ [i] := by
  obtain ⟨h1, h2, h3, h4⟩ := firstI_spec h
  have hl : i < 2 ^ (top - k) := by simpa using h1
  rw [bits_on hl] at h3
  refine filter_upto (List.pairwise_lt_range.filter _) (mem_on.2 ⟨hl, h3⟩) h2 fun j hj hsj => ?_
  rcases Nat.lt_or_ge j i with e | e
  · have hj' := mem_on.1 hj
    have := h4 j hsj e
    rw [bits_on hj'.1] at this
    exact absurd hj'.2 this
  · exact e
theorem onTo_end {G : Nat → Nat → Bool} {top k s : Nat} (h : fstG G top k s = none) : onTo G top k s = onAll G top k := by
  have h1 := firstI_no h
  unfold onTo
  rw [show (List.range (2 ^ (top - k))).filter (G k) = onAll G top k from rfl, List.filter_eq_self]
  intro j hj
  have hj' := mem_on.1 hj
  rcases Nat.lt_or_ge j s with e | e
  · simpa using e
  · have := h1 j e (by simpa using hj'.1)
    rw [bits_on hj'.1] at this
    exact absurd hj'.2 this
/-- A block: where it begins, its order. -/
def blk (k i : Nat) : Nat × Nat := (1024 * i * 2 ^ k, k)
def freeTo (G : Nat → Nat → Bool) (top k : Nat) : List (Nat × Nat) := (List.range k).flatMap fun j => (onAll G top j).map (blk j)
def freeUp (G : Nat → Nat → Bool) (top k s : Nat) : List (Nat × Nat) := freeTo G top k ++ (onTo G top k s).map (blk k)
theorem freeUp_zero (G : Nat → Nat → Bool) (top k : Nat) : freeUp G top k 0 = freeTo G top k := by simp [freeUp, onTo_zero]
theorem freeUp_step {G : Nat → Nat → Bool} {top k s i : Nat} (h : fstG G top k s = some i) : freeUp G top k (i + 1) = freeUp G top k s ++ [blk k i] := by
  unfold freeUp; rw [onTo_step h]; simp
theorem freeUp_end {G : Nat → Nat → Bool} {top k s : Nat} (h : fstG G top k s = none) : freeUp G top k s = freeTo G top (k + 1) := by
  unfold freeUp freeTo; rw [onTo_end h, List.range_succ]; simp
theorem on_len (G : Nat → Nat → Bool) (top k : Nat) (ht : top ≤ 20) : (onAll G top k).length ≤ 1048576 := by
  unfold onAll
  exact Nat.le_trans (List.length_filter_le _ _) (by rw [List.length_range]; exact pow_le20 ht)
theorem freeTo_len (G : Nat → Nat → Bool) (top : Nat) (ht : top ≤ 20) : ∀ k, (freeTo G top k).length ≤ 1048576 * k
  | 0 => by simp [freeTo]
  | k + 1 => by
    have ih := freeTo_len G top ht k
    have h1 := on_len G top k ht
    have e : freeTo G top (k + 1) = freeTo G top k ++ (onAll G top k).map (blk k) := by
      unfold freeTo; rw [List.range_succ]; simp
    rw [e, List.length_append, List.length_map]
    omega
theorem freeUp_len (G : Nat → Nat → Bool) (top k s : Nat) (ht : top ≤ 20) : (freeUp G top k s).length ≤ 1048576 * k + 1048576 := by
  have h1 := freeTo_len G top ht k
  have h2 := on_len G top k ht
  unfold freeUp onTo
  rw [List.length_append, List.length_map]
  have h3 := List.length_filter_le (fun i => decide (i < s)) (onAll G top k)
  unfold onAll at h2 h3
  omega
def encB (x : Nat × Nat) : List Value := [.int .i64 (x.1 : Int), .int .i64 (x.2 : Int)]
def bcellsL (l : List (Nat × Nat)) : List Value := l.flatMap encB
theorem Tryd.infoblk : (Tryd.prog.info? 83).map (fun i => (i.zero, i.size, i.bytes)) = some (some (.agg #[.int .i64 0, .int .i64 0]), 2, 16) := by kernel_rfl
/-- What sorted does: the row in order. -/
def SortedP (B : Nat) (L : List (Nat × Nat)) (v : Value) (w : World) (r : Ending) (w' : World) : Prop := r = .returned v ∧ ∃ L' : List (Nat × Nat), L'.Perm L ∧ L'.Pairwise (fun a b => a.1 ≤ b.1) ∧ w'.ownsRow B 83 2 v L'.length (bcellsL L') ∧ Below B w w'
/-- A new slice of blocks in order. -/
def NewBlks (w : World) (L : List (Nat × Nat)) (r : Ending) (w' : World) : Prop := ∃ v L', r = .returned v ∧ L'.Perm L ∧ L'.Pairwise (fun a b => a.1 ≤ b.1) ∧ w'.ownsRow w.heap.size 83 2 v L'.length (bcellsL L') ∧ Below w.heap.size w w'
/-- The blocks so far. -/
def OutB (w wr : World) (v : Value) (L : List (Nat × Nat)) : Prop := wr.ownsRow w.heap.size 83 2 v L.length (bcellsL L) ∧ Below w.heap.size w wr
theorem bd_first' {w w1 : World} {d : BD} {G : Nat → Nat → Bool} (h : Sep w d.hl) (hi : d.Is G) (hb : Below w.heap.size w w1) (k : Nat) (hk : k ≤ d.top) (s : Nat) (hs : s ≤ 1048576) : ∃ b, w1.cell? ⟨d.b, 1 + k, none⟩ = some (.pointer (some ⟨b, 0, none⟩)) ∧
    Calls Tryd.prog 35 #[.pointer (some ⟨b, 0, none⟩), .bool true, .int .i64 s] w1 fun r w' => r = .returned (.int .i64 (optI (fstG G d.top k s))) ∧ w1 = w' := bd_first (h.grown hb).sep hi k hk s hs
theorem two_new (w : World) (T : TypeId) (v0 v1 : Value) : ∀ j u, [v0, v1][j]? = some u → (w.alloc (.cells #[v0, v1] T)).cell? ((⟨w.heap.size, 0, none⟩ : Addr).add j) = some u := by
  intro j u hj
  have hc := Cells.new w T [v0, v1]
  match j, hj with
  | 0, hj => cases hj; exact hc.cell 0 _ rfl
  | 1, hj => cases hj; exact hc.cell 1 _ rfl
/-- Behind an append onto what was made since w. -/
theorem out_below {w wr w1 : World} {o : Obj} {T : TypeId} {size n : Nat} {v : Value} {xs : List Value} (h : wr.ownsRow w.heap.size T size v n xs) (hb : Below w.heap.size w wr) (hg : (wr.alloc o).grownBy w1 v.ownBlock) : Below w.heap.size w w1 :=
  hb.trans (((Below.refl _ wr).alloc hb.size o).grown hg (by have := hb.size; simp; omega) (fun k hk => (h.lt k hk).1))
set_option maxHeartbeats 4000000 in
set_option maxRecDepth 100000 in
theorem free_walk {w : World} {d : BD} {G : Nat → Nat → Bool} (h : Sep w d.hl) (hi : d.Is G)
    (hsort : ∀ v w1 L, OutB w w1 v L → L.length ≤ 22020096 → (L = freeTo G d.top (d.top + 1)) → Calls Tryd.prog 36 #[v] w1 (SortedP w.heap.size L v w1)) :
    Calls Tryd.prog 15 #[.pointer (some ⟨d.b, 0, none⟩)] w (NewBlks w (freeTo G d.top (d.top + 1))) := by
  have ht := hi.top
  have HC0 : Hid (∀ w1, Below w.heap.size w w1 → w1.cell? ⟨d.b, 0, none⟩ = some (.int .i64 d.top)) := fun w1 hb => BD.c0 (h.grown hb).sep
  have HFst := hidden (fun w1 hb k hk s hs => bd_first' h hi (w1 := w1) hb k hk s hs)
  have HS := hidden hsort
  clear h hi hsort
  generalize d.top = top at *
  generalize d.b = db at *
  obtain ⟨i0, hinf, hz0, hz1, hz2⟩ := info_parts Tryd.infoblk
  go_enter Tryd.func15, Tryd.ntmps15
  go_wp2_with fail
  go_loopg [3, 4] (top + 1) (fun gk ov kv wr => ∃ k : Nat, kv = .int .i64 k ∧ k + gk = top + 1 ∧ OutB w wr ov (freeTo G top k))
  case atStart => exact ⟨0, rfl, by omega, World.ownsRow_nil _ _ _ _, Below.refl _ _⟩
  case round =>
    obtain ⟨k, rfl, hkg, hout⟩ := hrel
    have HO := hidden hout
    have c0 := HC0.out wr hout.2
    have HKG := hidden hkg
    clear hout
    by_cases hlt : k ≤ top
    · obtain ⟨b, hc1, hcall⟩ := HFst.out wr HO.out.2 k hlt 0 (by omega)
      have HCall := hidden hcall
      clear hcall hkg
      have hk0 : (0 : Int) ≤ k := by omega
      have hk21 : (k : Int) < 21 := by omega
      go_wp2_with fail
      refine HCall.out.mono ?_
      rintro r w' ⟨rfl, rfl⟩
      have h18 : 2 ^ (top - k) ≤ 1048576 := pow_le20 ht
      go_wp2_with fail
      obtain ⟨gko, hgo⟩ : ∃ g, g = gk := ⟨_, rfl⟩
      subst hgo
      obtain ⟨wo, hwo⟩ : ∃ wo, wo = wr := ⟨_, rfl⟩
      subst hwo
      go_loopg [3, 5] 1048577 (fun gi ov iv wi => ∃ s : Nat, iv = .int .i64 (optI (fstG G top k s)) ∧ s + gi = 1048577 ∧ OutB w wi ov (freeUp G top k s))
      case atStart => exact ⟨0, rfl, rfl, by rw [freeUp_zero]; exact HO.out⟩
      case round =>
        clear HO hc1 c0 HCall
        obtain ⟨s, rfl, hsg, hout⟩ := hrel
        have HO := hidden hout
        have c0 := HC0.out wr hout.2
        have hsz := hout.2.size
        clear hout
        cases hfi : fstG G top k s with
        | none =>
          have HFi := hidden hfi
          clear hfi
          rw [show optI none = -1 from rfl]
          go_wp2_with fail
          go_roundg (top + 1 - (k + 1))
          case measure => have := HKG.out; omega
          case rel => exact ⟨k + 1, by go_num, by omega, by rw [← freeUp_end HFi.out]; exact HO.out⟩
        | some i =>
          obtain ⟨hil, hsi, _, _⟩ := firstI_spec hfi
          have HFi := hidden hfi
          clear hfi
          have hi2 : i < 2 ^ (top - k) := by simpa using hil
          have hi0 : (0 : Int) ≤ i := by omega
          have hib : (i : Int) < 1048576 := by omega
          have HOw := hidden HO.out.1
          have hlen := freeUp_len G top k s ht
          have hL : Hid (bcellsL (freeUp G top k s) ++ [.int .i64 (((blk k i).1 : Nat) : Int), .int .i64 (k : Int)] = bcellsL (freeUp G top k (i + 1)) ∧ (freeUp G top k s).length + 1 = (freeUp G top k (i + 1)).length) := by
            constructor
            · rw [freeUp_step HFi.out]; simp [bcellsL, encB, blk]
            · rw [freeUp_step HFi.out]; simp
          have HB1 := hidden hi2
          have HB2 := hidden hlen
          have HB3 := hidden hsg
          have HSI := hidden hsi
          have hm : i * 2 ^ k < 1048576 := by
            have h1 : i * 2 ^ k < 2 ^ (top - k) * 2 ^ k := Nat.mul_lt_mul_of_pos_right hi2 (Nat.two_pow_pos _)
            rw [← Nat.pow_add, show top - k + k = top by omega] at h1
            exact Nat.lt_of_lt_of_le h1 (Nat.le_trans (Nat.pow_le_pow_right (by omega) ht) (by decide))
          have hsh : wrap64 ((i : Int) * 1024 * 2 ^ k) = (((blk k i).1 : Nat) : Int) := by
            have e : (i : Int) * 1024 * 2 ^ k = ((1024 * i * 2 ^ k : Nat) : Int) := by
              rw [Int.natCast_mul, Int.natCast_mul, Int.natCast_pow]; show _ = (1024 : Int) * i * 2 ^ k; rw [Int.mul_comm (i : Int) 1024]
            rw [e]
            have e2 : 1024 * i * 2 ^ k = 1024 * (i * 2 ^ k) := Nat.mul_assoc _ _ _
            exact Go.IntWalk.wrap64_in _ (by omega)
          have HM := hidden hm
          clear hil hi2 hlen hsg h18 hsi hm
          rw [show optI (some i) = (i : Int) from rfl]
          generalize hva : (((blk k i).1 : Nat) : Int) = va at hsh hL
          have HVa := hidden hva
          clear hva
          iterate 41 go_step
          rw [hsh]
          clear hsh
          have hB2 := HB2.out
          iterate 2 go_step
          refine wpList_append_own _ rfl _ _ 38 rfl w.heap.size 83 i0 (.agg #[.int .i64 0, .int .i64 0]) 2 16 Tryd.underlying38 hinf hz0 hz1 hz2 rfl (by decide) _ _ _ rfl (HOw.out.alloc _) ⟨wr.heap.size, 0, none⟩ 1 1 [.int .i64 va, .int .i64 k] rfl rfl (two_new wr _ _ _) (by simp [Value.oneCell']) (by unfold maxLen; omega) (by omega) (by simp; omega) ?_
          intro v' w1 hown' hgrow _
          have hbl := out_below HOw.out HO.out.2 hgrow
          rw [hL.out.1, hL.out.2] at hown'
          have HO1 : Hid (OutB w w1 v' (freeUp G top k (i + 1))) := ⟨hown', hbl⟩
          have HBl := hidden hbl
          clear hown' hgrow hbl hB2 HOw HO HVa hL c0 hsz
          obtain ⟨b2, hc2, hcall2⟩ := HFst.out w1 HBl.out k hlt (i + 1) (by omega)
          rw [show ((i + 1 : Nat) : Int) = (i : Int) + 1 by omega] at hcall2
          have HC2 := hidden hcall2
          clear hcall2
          go_wp2_with fail
          refine HC2.out.mono ?_
          rintro r w' ⟨rfl, rfl⟩
          go_wp2_with fail
          go_roundg (1048577 - (i + 1))
          case measure => have := HB3.out; have := HSI.out; omega
          case rel => exact ⟨i + 1, rfl, by omega, HO1.out⟩
    · obtain rfl : k = top + 1 := by omega
      have hS := hidden (HS.out u3 wr _ HO.out (Nat.le_trans (freeTo_len G top ht (top + 1)) (by omega)) rfl)
      go_wp2_with fail
      refine hS.out.mono ?_
      rintro r w' ⟨rfl, L', p1, p2, p3, p4⟩
      have HR : Hid (NewBlks w (freeTo G top (top + 1)) (.returned u3) w') := ⟨u3, L', rfl, p1, p2, p3, HO.out.2.trans p4⟩
      clear p1 p2 p3 p4
      go_wp2_with fail
      go_ret
      exact HR.out
end Go.Proofs.YtfefdleadocpmaaDoor

/- The kit's contract of slices.SortFunc, laid at this program: tables of numbers and one theorem. No condition. -/
namespace Go.Proofs.YtfefdleadocpmaaDoor
open Go.Shelf
def sortBlk_ren : Go.Shelf.Ren := ⟨fun | 6 => 60 | 15 => 73 | 14 => 72 | 28 => 84 | 29 => 85 | 20 => 76 | 21 => 77 | 22 => 78 | 23 => 79 | 24 => 80 | 25 => 81 | 26 => 82 | 27 => 83 | 46 => 87 | 47 => 88 | 48 => 89 | 49 => 90 | 50 => 91 | 57 => 92 | n => n, fun | 22 => 38 | 24 => 83 | 25 => 121 | 3 => 3 | 39 => 93 | 0 => 0 | 53 => 22 | 55 => 51 | 4 => 4 | 46 => 131 | 45 => 130 | 50 => 86 | 5 => 5 | 9 => 9 | 66 => 137 | 70 => 141 | 76 => 143 | 77 => 144 | n => n, fun | n => n⟩
theorem sortBlk : Go.Proofs.SlLaysF0.n6 Tryd.prog sortBlk_ren := {
  mixed := by kernel_rfl
  f6 := ⟨Tryd.f60.name, by decide, Tryd.func60.trans (congrArg some (by kernel_rfl))⟩
  f14 := ⟨Tryd.f72.name, by decide, Tryd.func72.trans (congrArg some (by kernel_rfl))⟩
  f15 := Tryd.func73.trans (congrArg some (by kernel_rfl))
  f20 := ⟨Tryd.f76.name, by decide, Tryd.func76.trans (congrArg some (by kernel_rfl))⟩
  f21 := ⟨Tryd.f77.name, by decide, Tryd.func77.trans (congrArg some (by kernel_rfl))⟩
  f22 := ⟨Tryd.f78.name, by decide, Tryd.func78.trans (congrArg some (by kernel_rfl))⟩
  f23 := ⟨Tryd.f79.name, by decide, Tryd.func79.trans (congrArg some (by kernel_rfl))⟩
  f24 := ⟨Tryd.f80.name, by decide, Tryd.func80.trans (congrArg some (by kernel_rfl))⟩
  f25 := ⟨Tryd.f81.name, by decide, Tryd.func81.trans (congrArg some (by kernel_rfl))⟩
  f26 := ⟨Tryd.f82.name, by decide, Tryd.func82.trans (congrArg some (by kernel_rfl))⟩
  f27 := ⟨Tryd.f83.name, by decide, Tryd.func83.trans (congrArg some (by kernel_rfl))⟩
  f28 := Tryd.func84.trans (congrArg some (by kernel_rfl))
  f29 := Tryd.func85.trans (congrArg some (by kernel_rfl))
  f46 := ⟨Tryd.f87.name, by decide, Tryd.func87.trans (congrArg some (by kernel_rfl))⟩
  f47 := Tryd.func88.trans (congrArg some (by kernel_rfl))
  f48 := Tryd.func89.trans (congrArg some (by kernel_rfl))
  f49 := ⟨Tryd.f90.name, by decide, Tryd.func90.trans (congrArg some (by kernel_rfl))⟩
  f50 := ⟨Tryd.f91.name, by decide, Tryd.func91.trans (congrArg some (by kernel_rfl))⟩
  f57 := ⟨Tryd.f92.name, by decide, Tryd.func92.trans (congrArg some (by kernel_rfl))⟩
  t0 := Tryd.underlying0
  a0 := Tryd.isAgg0
  z0 := Tryd.sizeOf0
  v0 := Tryd.zeroValue0
  t3 := Tryd.underlying3
  a3 := Tryd.isAgg3
  z3 := Tryd.sizeOf3
  v3 := Tryd.zeroValue3
  t4 := Tryd.underlying4
  a4 := Tryd.isAgg4
  z4 := Tryd.sizeOf4
  v4 := Tryd.zeroValue4
  t5 := Tryd.underlying5
  a5 := Tryd.isAgg5
  z5 := Tryd.sizeOf5
  v5 := Tryd.zeroValue5
  t9 := Tryd.underlying9
  a9 := Tryd.isAgg9
  z9 := Tryd.sizeOf9
  v9 := Tryd.zeroValue9
  t22 := Tryd.underlying38
  a22 := Tryd.isAgg38
  z22 := Tryd.sizeOf38
  v22 := Tryd.zeroValue38
  t25 := Tryd.underlying121
  a25 := Tryd.isAgg121
  z25 := Tryd.sizeOf121
  v25 := Tryd.zeroValue121
  t39 := Tryd.underlying93
  a39 := Tryd.isAgg93
  z39 := Tryd.sizeOf93
  v39 := Tryd.zeroValue93
  t45 := Tryd.underlying130
  a45 := Tryd.isAgg130
  z45 := Tryd.sizeOf130
  v45 := Tryd.zeroValue130
  t46 := Tryd.underlying131
  a46 := Tryd.isAgg131
  z46 := Tryd.sizeOf131
  v46 := Tryd.zeroValue131
  t50 := Tryd.underlying86
  a50 := Tryd.isAgg86
  z50 := Tryd.sizeOf86
  v50 := Tryd.zeroValue86
  t53 := Tryd.underlying22
  a53 := Tryd.isAgg22
  z53 := Tryd.sizeOf22
  v53 := Tryd.zeroValue22
  t55 := Tryd.underlying51
  a55 := Tryd.isAgg51
  z55 := Tryd.sizeOf51
  v55 := Tryd.zeroValue51
  t66 := Tryd.underlying137
  a66 := Tryd.isAgg137
  z66 := Tryd.sizeOf137
  v66 := Tryd.zeroValue137
  t70 := Tryd.underlying141
  a70 := Tryd.isAgg141
  z70 := Tryd.sizeOf141
  v70 := Tryd.zeroValue141
  t76 := Tryd.underlying143
  a76 := Tryd.isAgg143
  z76 := Tryd.sizeOf143
  v76 := Tryd.zeroValue143
  t77 := Tryd.underlying144
  a77 := Tryd.isAgg144
  z77 := Tryd.sizeOf144
  v77 := Tryd.zeroValue144 }
end Go.Proofs.YtfefdleadocpmaaDoor

/- Walks of the allocator's sorted: a row of blocks is put in order. Condition: the slice owns its row. -/
namespace Go.Proofs.YtfefdleadocpmaaDoor
open Go.RowKit Go.Shelf
open Go.Sort (flatK HoldsK putRowK)

set_option maxHeartbeats 1000000 in
theorem sorted1_any (x y : Nat × Nat) (W : World) : Calls Tryd.prog 61 #[.agg (encB x).toArray, .agg (encB y).toArray] W fun e w' => e = .returned (.int .i64 (cmpI (x.1 : Int) (y.1 : Int))) ∧ ∃ q os', w' = Go.Sort.grow (W.drewN q) os' := by
  have hc := fun w : World => cmp_any (w := w) (x.1 : Int) (y.1 : Int)
  generalize cmpI (x.1 : Int) (y.1 : Int) = c at *
  unfold encB
  go_enter Tryd.func61, Tryd.ntmps61
  go_wp2_with (go_at_call 62; refine (hc _).mono ?_; rintro e w' ⟨rfl, rfl⟩)
  go_ret
  exact ⟨rfl, 0, _, by rw [Go.Sort.alloc_eq_grow, Go.Sort.alloc_eq_grow, Go.Sort.grow_grow]; rfl⟩
def cfB (x y : Nat × Nat) : Int := cmpI (x.1 : Int) (y.1 : Int)
theorem ltB (x y : Nat × Nat) : ltOf cfB x y = decide (x.1 < y.1) := by
  unfold ltOf cfB cmpI
  by_cases h1 : (x.1 : Int) < (y.1 : Int)
  · have : x.1 < y.1 := by omega
    simp [h1, this]
  · have h1' : ¬ x.1 < y.1 := by omega
    by_cases h2 : (y.1 : Int) < (x.1 : Int) <;> simp [h1, h1', h2]
theorem swoB : Go.Sort.SWO (ltOf cfB) where
  irrefl x := by rw [ltB]; simp
  trans x y z h1 h2 := by rw [ltB] at *; simp at *; omega
  ntrans x y z h1 h2 := by rw [ltB] at *; simp at *; omega
theorem bcellsL_get (l : List (Nat × Nat)) (k : Nat) (x : Nat × Nat) (h : l[k]? = some x) : (bcellsL l)[k * 2]? = some (.int .i64 (x.1 : Int)) ∧ (bcellsL l)[k * 2 + 1]? = some (.int .i64 (x.2 : Int)) := by
  induction l generalizing k with
  | nil => simp at h
  | cons y r ih =>
    cases k with
    | zero => simp at h; subst h; exact ⟨rfl, rfl⟩
    | succ k =>
      have := ih k (by simpa using h)
      have e1 : (k + 1) * 2 = (k * 2) + 1 + 1 := by omega
      have e2 : (k + 1) * 2 + 1 = (k * 2 + 1) + 1 + 1 := by omega
      rw [e1]
      exact ⟨this.1, this.2⟩
theorem bcellsL_len (l : List (Nat × Nat)) : (bcellsL l).length = l.length * 2 := by
  induction l with
  | nil => rfl
  | cons y r ih =>
    show (_ :: _ :: bcellsL r).length = _
    simp [ih]; omega
theorem flat_list (d : Array (Nat × Nat)) : (flatK encB 2 d).toList = bcellsL d.toList := by
  apply List.ext_getElem?
  intro t
  rcases Nat.lt_or_ge t (d.size * 2) with h | h
  · have hk : t / 2 < d.size := by omega
    have hx : d.toList[t / 2]? = some d[t / 2]! := by
      rw [getElem!_pos d (t / 2) hk, Array.getElem?_toList, Array.getElem?_eq_getElem hk]
    obtain ⟨e1, e2⟩ := bcellsL_get d.toList (t / 2) _ hx
    have e0 : (flatK encB 2 d).toList[t]? = some ((encB d[t / 2]!)[t % 2]!) := by
      simp [flatK, h]
    rw [e0]
    rcases Nat.mod_two_eq_zero_or_one t with hm | hm
    · have ht : t = t / 2 * 2 := by omega
      rw [hm]
      conv => rhs; rw [ht]
      rw [e1]; rfl
    · have ht : t = t / 2 * 2 + 1 := by omega
      rw [hm]
      conv => rhs; rw [ht]
      rw [e2]; rfl
  · rw [List.getElem?_eq_none (by simp; omega), List.getElem?_eq_none (by rw [bcellsL_len]; simpa using h)]
theorem perm_lists {d d' : Array (Nat × Nat)} (h : Go.Sort.PermIn 0 d.size d d') : d'.toList.Perm d.toList ∧ d'.size = d.size := by
  obtain ⟨h1, _, h3⟩ := h
  refine ⟨?_, h1⟩
  have e1 : d'.extract 0 d.size = d' := by rw [← h1]; simp
  rw [e1] at h3
  simpa using h3
theorem sorted_list {d : Array (Nat × Nat)} {n : Nat} (hn : n = d.size) (h : Go.Sort.SortedIn (ltOf cfB) 0 n d) : d.toList.Pairwise (fun a b => a.1 ≤ b.1) := by
  subst hn
  rw [List.pairwise_iff_getElem]
  intro i j hi hj hij
  have := h i j (Nat.zero_le _) hij (by simpa using hj)
  rw [ltB] at this
  simp only [decide_eq_false_iff_not, Nat.not_lt] at this
  rw [getElem!_pos d i (by simpa using hi), getElem!_pos d j (by simpa using hj)] at this
  simpa using this
theorem holds_of_row {w : World} {g : Nat} {cur : Array Value} {e : TypeId} {L : List (Nat × Nat)} (hb : w.heap[g]? = some (.cells cur e (0, 0))) (ht : cur.toList.take (L.length * 2) = bcellsL L) : HoldsK encB 2 w g 0 L.toArray := by
  intro j hj
  have hj' : j < L.length * 2 := by simpa using hj
  refine ⟨?_, by simp [World.frozen?, hb]⟩
  have h1 : (cur.toList.take (L.length * 2))[j]? = (flatK encB 2 L.toArray).toList[j]? := by rw [ht, flat_list]
  rw [List.getElem?_take_of_lt hj'] at h1
  simp only [World.cell?, hb, Nat.zero_add, Option.isSome_none, Bool.false_eq_true, if_false, id]
  rw [← Array.getElem?_toList, h1, getElem!_pos _ j hj]
  simp [hj']
theorem take_putCellsB (cur F : Array Value) (h : F.size ≤ cur.size) : (Go.Sort.putCells id 0 F cur).toList.take F.size = F.toList := by
  apply List.ext_getElem?
  intro j
  by_cases hj : j < F.size
  · rw [List.getElem?_take_of_lt hj, Array.getElem?_toList]
    simp [Go.Sort.putCells, hj, show j < cur.size by omega]
  · rw [List.getElem?_take_eq_none (by omega), List.getElem?_eq_none (by simp; omega)]
theorem heap_sortedB {w : World} {g n : Nat} {os : Array Obj} {cur : Array Value} {e : TypeId} (d : Array (Nat × Nat)) (hb : w.heap[g]? = some (.cells cur e (0, 0))) :
    (sortWorldK encB 2 w g 0 n d os).heap[g]? = some (.cells (Go.Sort.putCells id 0 (flatK encB 2 d) cur) e (0, 0)) := by
  have hg : g < w.heap.size := (Array.getElem?_eq_some_iff.1 hb).1
  unfold sortWorldK putRowK
  rw [Go.Sort.heap_grow_old _ _ (by simpa using hg)]
  simp [Go.Sort.putRow, Go.Sort.mapBlock, Go.Sort.ahead, Array.getElem?_modify, hb, Go.Sort.onCells]
theorem grown_sortedB {w : World} {g n : Nat} {os : Array Obj} (d : Array (Nat × Nat)) : w.grownBy (sortWorldK encB 2 w g 0 n d os) (some g) := by
  unfold sortWorldK putRowK
  refine ⟨rfl, rfl, rfl, by simp, fun k hk hne => ?_⟩
  rw [Go.Sort.heap_grow_old _ _ (by simpa using hk)]
  have : g ≠ k := fun e => hne (by rw [e])
  simp [Go.Sort.putRow, Go.Sort.mapBlock, Go.Sort.ahead, Array.getElem?_modify, this]
set_option maxHeartbeats 1000000 in
theorem sorted_any {w w1 : World} {v : Value} {L : List (Nat × Nat)} (h : OutB w w1 v L) (hl : L.length ≤ 22020096) : Calls Tryd.prog 36 #[v] w1 (SortedP w.heap.size L v w1) := by
  obtain ⟨⟨hlen, hrow⟩, hb⟩ := h
  rcases hrow with ⟨rfl, h0⟩ | ⟨g, cap, cur, rfl, hg, hgb, hn, hm, hs, ht⟩
  · have hL : L = [] := List.eq_nil_of_length_eq_zero h0
    subst hL
    have hcon := AnyF.slices_SortFunc_none sortBlk none 0 (.func (.func 61) #[] #[]) w1
    change Calls Tryd.prog 60 _ _ _ at hcon
    have HR : Hid (SortedP w.heap.size [] (.slice none 0 0) w1 (.returned (.slice none 0 0)) w1) := ⟨rfl, [], List.Perm.refl _, List.Pairwise.nil, ⟨rfl, .inl ⟨rfl, rfl⟩⟩, Below.refl _ _⟩
    clear hlen hb h0 hl
    go_enter Tryd.func36, Tryd.ntmps36
    go_wp2_with (go_at_call 60; refine hcon.mono ?_; rintro e w' ⟨rfl, rfl⟩)
    go_ret
    exact HR.out
  · have eg : ∀ args w, (callFunc 61 args).run Tryd.prog w = .ok (.enter 61 args) w := enters_of Tryd.func61 (by kernel_rfl) rfl
    have hcm : CmpLays Tryd.prog 61 #[] encB 2 cfB g 0 L.toArray.size w1 := fun _ _ _ _ x y => sorted1_any x y _
    have hcon := AnyQ.slices_SortFunc sortBlk 2 Tryd.isAgg83 Tryd.sizeOf83 encB (fun _ => rfl) (fun x v hv => by simp [encB] at hv; rcases hv with rfl | rfl <;> rfl) cfB swoB 61 #[] g 0 cap L.toArray w1 eg hcm (holds_of_row hgb ht) (lt_of_block hgb) (by simp; omega)
    change Calls Tryd.prog 60 _ _ _ at hcon
    have HR : Hid (∀ w2, (∃ d' n os, Go.Sort.PermIn 0 L.toArray.size L.toArray d' ∧ Go.Sort.SortedIn (ltOf cfB) 0 L.toArray.size d' ∧ w2 = sortWorldK encB 2 w1 g 0 n d' os) → SortedP w.heap.size L (.slice (some ⟨g, 0, none⟩) L.length cap) w1 (.returned (.slice (some ⟨g, 0, none⟩) L.length cap)) w2) := by
      rintro w2 ⟨d', n, os, hp, hsd, rfl⟩
      obtain ⟨p1, p2⟩ := perm_lists hp
      have p1' : d'.toList.Perm L := by simpa using p1
      have p3 : d'.toList.length = L.length := p1'.length_eq
      refine ⟨rfl, d'.toList, p1', sorted_list p2.symm hsd, ⟨bcellsL_len _, .inr ⟨g, cap, _, by rw [p3], hg, heap_sortedB d' hgb, by rw [p3]; exact hn, hm, by simp [Go.Sort.putCells, hs], ?_⟩⟩, ?_⟩
      · have e : d'.toList.length * 2 = (flatK encB 2 d').size := by simp
        rw [e, take_putCellsB _ _ (by rw [← e, p3, hs]; omega), flat_list]
      · have hgr := grown_sortedB (w := w1) (g := g) (n := n) (os := os) d'
        exact ⟨hgr.os, hgr.tape, hgr.output, hgr.size, fun k hk => by
          rcases Nat.lt_or_ge k w1.heap.size with e | e
          · exact hgr.block k e (fun e' => by cases e'; omega)
          · have := hb.size; omega⟩
    rw [List.size_toArray] at hcon
    have HCon : Hid (∀ (r : Ending) (w2 : World), (r = .returned (.tuple #[]) ∧ ∃ d' n os, Go.Sort.PermIn 0 L.length L.toArray d' ∧ Go.Sort.SortedIn (ltOf cfB) 0 L.length d' ∧ w2 = sortWorldK encB 2 w1 g 0 n d' os) → r = .returned (.tuple #[]) ∧ SortedP w.heap.size L (.slice (some ⟨g, 0, none⟩) L.length cap) w1 (.returned (.slice (some ⟨g, 0, none⟩) L.length cap)) w2) := fun r w2 ⟨e, hx⟩ => ⟨e, HR.out w2 (by simpa using hx)⟩
    clear HR hlen hgb ht hs hn hm hcm eg hl hb hg
    generalize L.length = ll at *
    go_enter Tryd.func36, Tryd.ntmps36
    go_wp2_with fail
    refine hcon.mono ?_
    intro r w2 hx
    obtain ⟨rfl, hy⟩ := HCon.out _ _ hx
    have HY := hidden hy
    clear hx hy
    go_wp2_with fail
    go_ret
    exact HY.out
theorem bfree_any {w : World} {d : BD} {G : Nat → Nat → Bool} (h : Sep w d.hl) (hi : d.Is G) : Calls Tryd.prog 15 #[.pointer (some ⟨d.b, 0, none⟩)] w (NewBlks w (freeTo G d.top (d.top + 1))) :=
  free_walk h hi fun _ _ _ ho hl _ => sorted_any ho hl
end Go.Proofs.YtfefdleadocpmaaDoor

/- Walk of the allocator's Left. Conditions: the blocks hold what BD.hl says. -/
namespace Go.Proofs.YtfefdleadocpmaaDoor
open Go.RowKit

def sumB (l : List (Nat × Nat)) : Nat := (l.map fun x => 1024 * 2 ^ x.2).sum
theorem sumB_snoc (l : List (Nat × Nat)) (x : Nat × Nat) : sumB (l ++ [x]) = sumB l + 1024 * 2 ^ x.2 := by simp [sumB]
theorem sumB_le (l : List (Nat × Nat)) (h : ∀ x ∈ l, x.2 ≤ 20) : sumB l ≤ l.length * 1073741824 := by
  induction l with
  | nil => simp [sumB]
  | cons y r ih =>
    have h1 := ih fun x hx => h x (by simp [hx])
    have h2 : 2 ^ y.2 ≤ 1048576 := Nat.le_trans (Nat.pow_le_pow_right (by omega) (h y (by simp))) (by decide)
    have e : sumB (y :: r) = 1024 * 2 ^ y.2 + sumB r := by simp [sumB]
    rw [e, List.length_cons]
    omega
theorem freeTo_ord (G : Nat → Nat → Bool) (top k : Nat) : ∀ x ∈ freeTo G top k, x.2 < k := by
  intro x hx
  unfold freeTo at hx
  obtain ⟨j, hj, hx⟩ := List.mem_flatMap.1 hx
  obtain ⟨i, _, rfl⟩ := List.mem_map.1 hx
  exact List.mem_range.1 hj
theorem sumB_perm {l m : List (Nat × Nat)} (h : l.Perm m) : sumB l = sumB m := by
  have e : ∀ l : List (Nat × Nat), sumB l = l.foldr (fun x s => 1024 * 2 ^ x.2 + s) 0 := by
    intro l
    induction l with
    | nil => rfl
    | cons y r ih =>
      show (1024 * 2 ^ y.2 + sumB r) = _
      rw [ih]; rfl
  induction h with
  | nil => rfl
  | cons x _ ih => rw [e, e] at *; simp only [List.foldr_cons]; omega
  | swap x y l => rw [e, e]; simp only [List.foldr_cons]; omega
  | trans _ _ ih1 ih2 => exact ih1.trans ih2
set_option maxHeartbeats 4000000 in
set_option maxRecDepth 100000 in
theorem left_any {w : World} {d : BD} {G : Nat → Nat → Bool} (h : Sep w d.hl) (hi : d.Is G) :
    Calls Tryd.prog 23 #[.pointer (some ⟨d.b, 0, none⟩)] w (Told w (.int .i64 ((sumB (freeTo G d.top (d.top + 1)) : Nat) : Int))) := by
  have hfree := bfree_any h hi
  have ht := hi.top
  have hlen := freeTo_len G d.top ht (d.top + 1)
  have HQ : Hid (∀ r w1, NewBlks w (freeTo G d.top (d.top + 1)) r w1 → ∃ (a : Option Addr) (cap : Nat) (L : List (Nat × Nat)), r = .returned (.slice a L.length cap) ∧ L.length ≤ 22020096 ∧ (∀ x ∈ L, x.2 ≤ 20) ∧ sumB L = sumB (freeTo G d.top (d.top + 1)) ∧ Below w.heap.size w w1 ∧
      ∀ j x wr, L[j]? = some x → Below w1.heap.size w1 wr → ∃ g, a = some ⟨g, 0, none⟩ ∧ wr.cell? ⟨g, j * 2, none⟩ = some (.int .i64 (x.1 : Int)) ∧ wr.cell? ⟨g, j * 2 + 1, none⟩ = some (.int .i64 (x.2 : Int))) := by
    rintro r w1 ⟨v, L, rfl, p1, p2, ⟨p3, p4⟩, p5⟩
    have e1 : L.length ≤ 22020096 := by rw [p1.length_eq]; omega
    have e2 : ∀ x ∈ L, x.2 ≤ 20 := fun x hx => by have := freeTo_ord G d.top (d.top + 1) x (p1.mem_iff.1 hx); omega
    rcases p4 with ⟨rfl, h0⟩ | ⟨g, cap, cur, rfl, hg, hgb, hn, hm, hs, htk⟩
    · refine ⟨none, 0, L, by rw [h0], e1, e2, sumB_perm p1, p5, fun j x wr hj _ => ?_⟩
      have := (List.getElem?_eq_some_iff.1 hj).1
      omega
    · refine ⟨_, cap, L, rfl, e1, e2, sumB_perm p1, p5, fun j x wr hj hb => ⟨g, rfl, ?_⟩⟩
      obtain ⟨c1, c2⟩ := bcellsL_get L j x hj
      have hbk : wr.heap[g]? = some (.cells cur 83 (0, 0)) := (hb.block g (lt_of_block hgb)).trans hgb
      have hget : ∀ t v, (bcellsL L)[t]? = some v → wr.cell? ⟨g, t, none⟩ = some v := by
        intro t v hv
        rw [← htk, List.getElem?_take] at hv
        split at hv
        · simp only [World.cell?, hbk, Option.isSome_none, Bool.false_eq_true, if_false]
          rw [← Array.getElem?_toList]; exact hv
        · cases hv
      exact ⟨hget _ _ c1, hget _ _ c2⟩
  obtain ⟨S, hS⟩ : ∃ S, S = sumB (freeTo G d.top (d.top + 1)) := ⟨_, rfl⟩
  rw [← hS] at HQ ⊢
  clear h hi hlen ht hS
  obtain ⟨NB, hNB⟩ : ∃ NB : Ending → World → Prop, NB = NewBlks w (freeTo G d.top (d.top + 1)) := ⟨_, rfl⟩
  rw [← hNB] at hfree HQ
  clear hNB
  generalize d.b = db at *
  go_enter Tryd.func23, Tryd.ntmps23
  go_wp2_with fail
  refine hfree.mono ?_
  intro r w1 hx
  obtain ⟨a, cap, L, rfl, hl, ho, hsum, hb, hrow⟩ := HQ.out _ _ hx
  have HO := hidden ho
  have HSum := hidden hsum
  have HRow := hidden hrow
  have HTk : Hid (L.take L.length = L) := by show _ = _; simp
  clear hx ho hsum hrow HQ
  generalize hll : L.length = ll at *
  have HLL := hidden hll
  clear hll
  go_wp2_with fail
  go_loopw [3, 9] (fun nv iv wr => ∃ j : Nat, iv = .int .i64 j ∧ j ≤ ll ∧ nv = .int .i64 ((sumB (L.take j) : Nat) : Int) ∧ Below w1.heap.size w1 wr) (fun _ iv _ => ll - (intOf iv).toNat)
  case atStart => exact ⟨0, rfl, Nat.zero_le _, rfl, Below.refl _ _⟩
  case round =>
    obtain ⟨j, rfl, hj, rfl, hbr⟩ := hrel
    by_cases hlt : j < ll
    · have hx : L[j]? = some (L[j]'(by rw [HLL.out]; exact hlt)) := List.getElem?_eq_getElem _
      generalize L[j]'(by rw [HLL.out]; exact hlt) = x at hx
      obtain ⟨g, rfl, c1, c2⟩ := HRow.out j x wr hx hbr
      have hx20 := HO.out x (List.mem_of_getElem? hx)
      have htk : L.take (j + 1) = L.take j ++ [x] := by rw [List.take_add_one, hx]; rfl
      have hsn := sumB_snoc (L.take j) x
      have hle := sumB_le (L.take (j + 1)) (fun y hy => HO.out y (List.mem_of_mem_take hy))
      rw [htk] at hle
      have hlen2 : (L.take j ++ [x]).length ≤ ll := by rw [← htk, List.length_take, HLL.out]; omega
      have hN : sumB (L.take j) + 1024 * 2 ^ x.2 ≤ 22020096 * 1073741824 := by rw [← hsn]; exact Nat.le_trans hle (Nat.mul_le_mul_right _ (by omega))
      have HNext : Hid (((sumB (L.take j) + 1024 * 2 ^ x.2 : Nat) : Int) = ((sumB (L.take (j + 1)) : Nat) : Int)) := by show _ = _; rw [htk, hsn]
      have HB := hidden (hbr.alloc hbr.size (.cells #[.int .i64 (x.1 : Int), .int .i64 (x.2 : Int)] 83))
      have hsh : wrap64 (1024 * 2 ^ x.2) = ((1024 * 2 ^ x.2 : Nat) : Int) := by
        have e : (1024 : Int) * 2 ^ x.2 = ((1024 * 2 ^ x.2 : Nat) : Int) := by rw [Int.natCast_mul, Int.natCast_pow]; rfl
        rw [e]
        exact Go.IntWalk.wrap64_in _ (by omega)
      have hb1 : 1024 * 2 ^ x.2 ≤ 1099511627776 := by
        have : 2 ^ x.2 ≤ 1048576 := Nat.le_trans (Nat.pow_le_pow_right (by omega) hx20) (by decide)
        omega
      have HX := hidden hx
      clear hx htk hsn hle hlen2
      generalize sumB (L.take j) = s at *
      generalize x.1 = x1 at *
      generalize x.2 = x2 at *
      have hx0 : (0 : Int) ≤ x2 := by omega
      have hx21 : (x2 : Int) ≤ 64 := by omega
      have hN2 : s ≤ 22020096 * 1073741824 := by omega
      have hj0 : (0 : Int) ≤ j := by omega
      have HSh := hidden hsh
      have HN := hidden hN
      clear hsh hN hb1
      go_upto_region 5 with (fail)
      iterate 14 go_step
      rw [HSh.out]
      clear HSh
      have hn2 := HN.out
      obtain ⟨z, hz⟩ : ∃ z, z = 1024 * 2 ^ x2 := ⟨_, rfl⟩
      rw [← hz] at hn2 ⊢
      have HZ : Hid (((s + z : Nat) : Int) = ((sumB (L.take (j + 1)) : Nat) : Int)) := by show _ = _; rw [hz]; exact HNext.out
      clear hz HN HNext
      go_wp2_with fail
      go_roundw
      case rel => exact ⟨j + 1, by go_num, by omega, by rw [← HZ.out]; go_num, HB.out⟩
      case measure => simp [intOf]; omega
    · obtain rfl : j = ll := by omega
      have HR : Hid (Told w (.int .i64 (S : Int)) (.returned (.int .i64 ((sumB (L.take j) : Nat) : Int))) wr) := by
        refine ⟨?_, hb.trans (hbr.mono hb.size)⟩
        rw [HTk.out, HSum.out]
      clear hbr
      go_wp2_with fail
      first | exact HR.out | (go_ret; exact HR.out)
end Go.Proofs.YtfefdleadocpmaaDoor
