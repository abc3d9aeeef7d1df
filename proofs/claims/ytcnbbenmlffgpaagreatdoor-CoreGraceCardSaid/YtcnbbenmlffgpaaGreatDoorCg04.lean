/- CoreGrace returns true at every input: a doomed object is a zombie till just the tick that the period tells. No condition. Part of its proof. -/
import Derived.Test.YtcnbbenmlffgpaaGreatDoorCg03
import Derived.Shelf.Spec.SlicesInsert
set_option linter.unusedVariables false
/- Walks of slices.Insert at a row of pages, one new element: at the end, in place, and in a new row. Conditions: the slice has no more than 1048576 elements. -/
namespace Go.Proofs.YtcnbbenmlffgpaaGreatDoor
open Go.RowKit

/-- Behind an insert: who has the row, and what turned. -/
def InsP (T : TypeId) (n : Nat) (blk : Option Nat) (ys : List Value) (w : World) (r : Ending) (w' : World) : Prop :=
  ∃ v', r = .returned v' ∧ w'.ownsRow 0 T 2 v' (n + 1) ys ∧ w.grownBy w' blk ∧ (v'.ownBlock = blk ∨ v'.ownBlock = some w.heap.size)
theorem Tryz.infopage : (Tryz.prog.info? 231).map (fun i => (i.zero, i.size, i.bytes)) = some (some (.agg #[.pointer none, .int .i64 0]), 2, 16) := by kernel_rfl
set_option maxHeartbeats 1000000 in
set_option maxRecDepth 100000 in
theorem ins_end {w : World} {rv : RV} {n vb : Nat} {xs : List Value} {v0 v1 : Value} (hown : w.ownsRow 0 231 2 (lvOf rv n) n xs) (hok : rvOk rv n) (hn : n ≤ 1048576) (b0 : w.cell? ⟨vb, 0, none⟩ = some v0) (b1 : w.cell? ⟨vb, 1, none⟩ = some v1) (o0 : v0.oneCell' = true) (o1 : v1.oneCell' = true) :
    Calls Tryz.prog 153 #[lvOf rv n, .int .i64 n, .slice (some ⟨vb, 0, none⟩) 1 1] w (InsP 231 n (lvOf rv n).ownBlock (xs ++ [v0, v1]) w) := by
  obtain ⟨i0, hi, hz0, hz1, hz2⟩ := info_parts Tryz.infopage
  have hnews : ∀ j u, [v0, v1][j]? = some u → w.cell? ((⟨vb, 0, none⟩ : Addr).add j) = some u := by
    intro j u hj
    match j, hj with
    | 0, hj => cases hj; exact b0
    | 1, hj => cases hj; exact b1
  obtain ⟨v', w', hr, q1, q2, q3, q4⟩ := run_append_own_at (P := Tryz.prog) w 0 227 227 231 i0 (.agg #[.pointer none, .int .i64 0]) 2 16 Tryz.underlying227 hi hz0 hz1 hz2 rfl (by decide) (lvOf rv n) n xs hown ⟨vb, 0, none⟩ 1 1 [v0, v1] rfl hnews (by simp [o0, o1]) (by unfold maxLen; omega) (by omega) (Nat.zero_le _)
  have HR : Hid (InsP 231 n (lvOf rv n).ownBlock (xs ++ [v0, v1]) w (.returned v') w') := ⟨v', rfl, q1, q2, q4⟩
  clear hi hz0 hz1 hz2 hown q1 q2 q3 q4 hnews
  cases rv with
  | none =>
    have h0 : n = 0 := hok
    subst h0
    unfold lvOf at *
    go_enter Tryz.func153, Tryz.ntmps153
    go_wp2_with (at_builtin; refine Lib.wpList_append_run _ rfl _ _ _ _ rfl _ _ rfl rfl _ _ hr ?_)
    go_ret
    exact HR.out
  | some p =>
    obtain ⟨g, cap⟩ := p
    have hnc : n ≤ cap := hok.1
    have hcm : cap ≤ 9223372036854775807 := by have := hok.2; unfold maxLen at this; omega
    clear hok
    unfold lvOf at *
    go_enter Tryz.func153, Tryz.ntmps153
    go_wp2_with (at_builtin; refine Lib.wpList_append_run _ rfl _ _ _ _ rfl _ _ rfl rfl _ _ hr ?_)
    all_goals (go_ret; exact HR.out)
theorem setRow_drew (w : World) (g : Nat) (c : Array Value) : (w.drew).setRow g c = (w.setRow g c).drew := rfl
set_option maxHeartbeats 4000000 in
set_option maxRecDepth 100000 in
theorem ins_shift {w : World} {g cap n i vb : Nat} {xs : List Value} {cur : Array Value} {v0 v1 : Value} (hg : w.heap[g]? = some (.cells cur 231 (0, 0))) (hcs : cur.size = cap * 2) (htk : cur.toList.take xs.length = xs) (hx : xs.length = n * 2) (hi : i < n) (hn : n ≤ 1048576) (hc : n + 1 ≤ cap) (hcm : cap ≤ maxLen)
    (hv : Cells w vb 231 [v0, v1]) (hvb : vb ≠ g) (ox : ∀ v ∈ xs, v.oneCell' = true) (o0 : v0.oneCell' = true) (o1 : v1.oneCell' = true) :
    Calls Tryz.prog 153 #[.slice (some ⟨g, 0, none⟩) n cap, .int .i64 i, .slice (some ⟨vb, 0, none⟩) 1 1] w (InsP 231 n (some g) (xs.take (i * 2) ++ [v0, v1] ++ xs.drop (i * 2)) w) := by
  have hsz : (Tryz.prog.info? 231).map (·.size) = some 2 := by
    obtain ⟨i0, hi, hz0, hz1, hz2⟩ := info_parts Tryz.infopage
    rw [hi]; simp [hz1]
  have hcl : cur.toList.length = cap * 2 := by simpa using hcs
  have hov : ∀ lb cb, (callFunc 177 #[.slice (some ⟨vb, 0, none⟩) 1 1, .slice (some ⟨g, (i + 1) * 2, none⟩) lb cb]).run Tryz.prog w = .ok (.value (.bool false)) w := fun lb cb => by
    rw [run_callFunc_extern Tryz.func177 (by kernel_rfl) (by kernel_rfl) (by kernel_rfl) (e := Extern.SlicesOverlaps.overlaps #[227, 227] #[4]) (by kernel_rfl),
      Lib.run_overlaps_apart w 227 4 231 Tryz.underlying227 2 Tryz.sizeOf231 ⟨vb, 0, none⟩ ⟨g, (i + 1) * 2, none⟩ 1 1 lb cb hvb 231 231 2 cur.size (by simp [World.shape?, show w.heap[vb]? = _ from hv]) (by simp [World.shape?, hg]) (by omega) (hv.free 0) (hv.free 2)]
    rfl
  have hdl : (xs.drop (i * 2)).length = (n - i) * 2 := by rw [List.length_drop, hx]; omega
  have hic := ins_cells cur.toList xs [v0, v1] (i * 2) htk (by omega) (by simp only [List.length_cons, List.length_nil]; omega)
  simp only [List.length_cons, List.length_nil, Nat.reduceAdd] at hic
  obtain ⟨e1, e2, e3⟩ := hic
  obtain ⟨c1, hc1⟩ : ∃ c1 : List Value, c1 = cur.toList.take (i * 2 + 2) ++ xs.drop (i * 2) ++ cur.toList.drop (i * 2 + 2 + (xs.drop (i * 2)).length) := ⟨_, rfl⟩
  rw [← hc1] at e1 e2 e3
  obtain ⟨c2, hc2⟩ : ∃ c2 : List Value, c2 = c1.take (i * 2) ++ [v0, v1] ++ c1.drop (i * 2 + 2) := ⟨_, rfl⟩
  rw [← hc2] at e2 e3
  have hrow : ∀ j v, xs[j]? = some v → w.drew.cell? ⟨g, j, none⟩ = some v := fun j v hj => by
    have : cur.toList[j]? = some v := by
      rw [← htk] at hj
      rw [List.getElem?_take] at hj
      split at hj
      · exact hj
      · cases hj
    rw [Array.getElem?_toList] at this
    show w.cell? _ = _
    simp [World.cell?, hg, this]
  have hcp1 : ∀ ty dc sc, (Builtin.copy_ #[227, 227] ty #[.slice (some ⟨g, (i + 1) * 2, none⟩) (n - i) dc, .slice (some ⟨g, i * 2, none⟩) (n + 1 - i) sc]).run Tryz.prog w.drew = .ok (.int .i64 ((n - i : Nat) : Int)) (w.drew.setRow g c1.toArray) := fun ty dc sc => by
    have := run_copy_k (P := Tryz.prog) w.drew 227 227 ty 231 2 g ((i + 1) * 2) (n - i) dc ⟨g, i * 2, none⟩ (n + 1 - i) sc (n - i) cur 231 (xs.drop (i * 2)) Tryz.underlying227 hsz hg (by simp only [Nat.min_def]; split <;> omega) hdl
      (fun j v hj => by rw [Addr.add_lit]; exact hrow _ v (by rwa [List.getElem?_drop] at hj)) (by rw [hdl, hcs]; omega) (fun v hv => ox v (List.mem_of_mem_drop hv))
    rw [show (i + 1) * 2 = i * 2 + 2 by omega] at this ⊢
    rw [this, hc1]
  have hg1 : (w.drew.setRow g c1.toArray).heap[g]? = some (.cells c1.toArray 231 (0, 0)) := setRow_heap w.drew g cur _ _ _ hg
  have hcp2 : ∀ ty dc, (Builtin.copy_ #[227, 227] ty #[.slice (some ⟨g, i * 2, none⟩) (n + 1 - i) dc, .slice (some ⟨vb, 0, none⟩) 1 1]).run Tryz.prog (w.drew.setRow g c1.toArray) = .ok (.int .i64 1) ((w.drew.setRow g c1.toArray).setRow g c2.toArray) := fun ty dc => by
    have := run_copy_k (P := Tryz.prog) (w.drew.setRow g c1.toArray) 227 227 ty 231 2 g (i * 2) (n + 1 - i) dc ⟨vb, 0, none⟩ 1 1 1 c1.toArray 231 [v0, v1] Tryz.underlying227 hsz hg1 (by simp only [Nat.min_def]; split <;> omega) rfl
      (fun j v hj => by
        rw [Addr.add_lit, Nat.zero_add]
        have hb : (w.drew.setRow g c1.toArray).heap[vb]? = w.heap[vb]? := setRow_other w.drew g vb _ hvb
        have : (w.drew.setRow g c1.toArray).cell? ⟨vb, j, none⟩ = w.cell? ⟨vb, j, none⟩ := by simp [World.cell?, hb]
        rw [this]
        exact hv.cell j v hj) (by simp only [List.length_cons, List.length_nil, List.size_toArray]; omega) (by simp [o0, o1])
    rw [this, hc2]
    rfl
  have HR : Hid (InsP 231 n (some g) (xs.take (i * 2) ++ [v0, v1] ++ xs.drop (i * 2)) w (.returned (.slice (some ⟨g, 0, none⟩) (n + 1) cap)) ((w.drew.setRow g c1.toArray).setRow g c2.toArray)) := by
    have hg2 : ((w.drew.setRow g c1.toArray).setRow g c2.toArray).heap[g]? = some (.cells c2.toArray 231 (0, 0)) := setRow_heap _ g c1.toArray _ _ _ hg1
    refine ⟨_, rfl, ⟨by simp only [List.length_append, List.length_take, List.length_cons, List.length_nil]; omega, .inr ⟨g, cap, c2.toArray, rfl, Nat.zero_le _, hg2, hc, hcm, by simp only [List.size_toArray]; omega, ?_⟩⟩, ⟨rfl, rfl, rfl, by simp, fun k _ hk => ?_⟩, .inl rfl⟩
    · rw [← e3]
      congr 1
      simp only [hx, List.length_append, List.length_take, List.length_cons, List.length_nil]
      first | omega | simp
    · have hkg : k ≠ g := fun e => hk (by rw [e])
      rw [setRow_other _ g k _ hkg, setRow_other _ g k _ hkg]
      rfl
  clear hrow hg hcs htk hg1 e1 e2 e3 hcl ox hdl hx hc1 hc2 hv
  generalize xs.take (i * 2) ++ [v0, v1] ++ xs.drop (i * 2) = ys at *
  generalize c1.toArray = a1 at *
  generalize c2.toArray = a2 at *
  have hcm2 : cap ≤ 9223372036854775807 := by unfold maxLen at hcm; omega
  have hz2 : ¬ ((i : Int) = (n : Int)) := by omega
  have hw1 : IntKind.i64.wrap ((i : Int) + 1) = (i : Int) + 1 := Go.IntWalk.i64_in _ (by omega)
  have hw2 : IntKind.i64.wrap ((n : Int) + 1) = (n : Int) + 1 := Go.IntWalk.i64_in _ (by omega)
  have htn : ((i : Int) + 1).toNat = i + 1 := by omega
  have hb1 : (0 : Int) ≤ (i : Int) + 1 := by omega
  have hin : i ≤ n := by omega
  have hb3 : (i : Int) ≤ (n : Int) + 1 := by omega
  have hb2 : ¬ (cap = i + 1) := by omega
  have hb4 : ¬ (cap = i) := by omega
  have mixed : Tryz.prog.follows .mixedOrders = true := by kernel_rfl
  go_enter Tryz.func153, Tryz.ntmps153
  go_wp2_with (simp only [hov])
  go_region_law_o (refine step_copy_runI rfl _ _ 227 227 rfl _ _ (by simp [Act.eval, Act.put]) (by simp [Act.eval, Act.put]) (hcp1 _ _ _) ?_)
  go_wp2_with (at_builtin; refine wpList_copy_runI _ rfl _ _ 227 227 rfl _ _ rfl rfl (hcp2 _ _) ?_)
  go_ret
  exact HR.out
/-- What an insert into a new row leaves. -/
theorem grow_cells (row : List Value) (xs news : List Value) (p : Nat) (hp : p ≤ xs.length) (hr : row.take p = xs.take p) (hl : xs.length + news.length ≤ row.length) :
    let c1 := row.take p ++ news ++ row.drop (p + news.length)
    let c2 := c1.take (p + news.length) ++ xs.drop p ++ c1.drop (p + news.length + (xs.drop p).length)
    c1.length = row.length ∧ c2.length = row.length ∧ c2.take (xs.length + news.length) = xs.take p ++ news ++ xs.drop p := by
  have e0 : (xs.drop p).length = xs.length - p := List.length_drop
  have e1 : (row.take p ++ news ++ row.drop (p + news.length)).length = row.length := by
    simp only [List.length_append, List.length_take, List.length_drop]; omega
  refine ⟨e1, ?_, ?_⟩
  · simp only [List.length_append, List.length_take, List.length_drop]; omega
  · have ht : (row.take p ++ news ++ row.drop (p + news.length)).take (p + news.length) = xs.take p ++ news := by
      have : (row.take p ++ news).length = p + news.length := by simp; omega
      rw [← this, List.take_left, hr]
    show List.take (xs.length + news.length) _ = _
    rw [ht]
    have e2 : (xs.take p ++ news ++ xs.drop p).length = xs.length + news.length := by simp; omega
    rw [← e2, List.take_left]
set_option maxHeartbeats 4000000 in
set_option maxRecDepth 100000 in
theorem ins_grow {w : World} {g n i vb : Nat} {xs : List Value} {cur : Array Value} {v0 v1 : Value} (hg : w.heap[g]? = some (.cells cur 231 (0, 0))) (htk : cur.toList.take xs.length = xs) (hx : xs.length = n * 2) (hi : i < n) (hn : n ≤ 1048576)
    (hv : Cells w vb 231 [v0, v1]) (ox : ∀ v ∈ xs, v.oneCell' = true) (o0 : v0.oneCell' = true) (o1 : v1.oneCell' = true) :
    Calls Tryz.prog 153 #[.slice (some ⟨g, 0, none⟩) n n, .int .i64 i, .slice (some ⟨vb, 0, none⟩) 1 1] w (InsP 231 n (some g) (xs.take (i * 2) ++ [v0, v1] ++ xs.drop (i * 2)) w) := by
  obtain ⟨i0, hi0, hz0, hz1, hzb⟩ := info_parts Tryz.infopage
  have hsz : (Tryz.prog.info? 231).map (·.size) = some 2 := by rw [hi0]; simp [hz1]
  have hgw : g < w.heap.size := lt_of_block hg
  have hvw : vb < w.heap.size := lt_of_block hv
  have hrow : ∀ j v, xs[j]? = some v → w.cell? ⟨g, j, none⟩ = some v := fun j v hj => by
    have : cur.toList[j]? = some v := by
      rw [← htk] at hj
      rw [List.getElem?_take] at hj
      split at hj
      · exact hj
      · cases hj
    rw [Array.getElem?_toList] at this
    simp [World.cell?, hg, this]
  have hold : (Builtin.firstCells i0.size i (.slice (some ⟨g, 0, none⟩) i n)).run Tryz.prog w.drew = .ok (xs.take (i * 2)).toArray w.drew := by
    rw [hz1]
    exact run_firstCells_some w.drew 2 i ⟨g, 0, none⟩ i n (xs.take (i * 2)) (by rw [List.length_take]; omega) (fun j v hj => by
      rw [Addr.add_lit, Nat.zero_add]
      rw [List.getElem?_take] at hj
      split at hj
      · exact hrow j v hj
      · cases hj)
  have hkk : (n : Int) + 1 - (i : Int) = ((n + 1 - i : Nat) : Int) := by omega
  have hik : i + (n + 1 - i) = n + 1 := by omega
  obtain ⟨G, hG⟩ : ∃ G, G = grownCap w (n + 1) n 231 := ⟨_, rfl⟩
  have hGn : n + 1 ≤ G := by rw [hG]; exact grownCap_ge w _ _ _
  have hGm : G ≤ maxLen := by rw [hG]; exact grownCap_le_maxLen w (n + 1) n _ (by unfold maxLen; omega)
  obtain ⟨ROW, hROW⟩ : ∃ ROW : Array Value, ROW = (xs.take (i * 2)).toArray ++ Builtin.zeroCells (Value.agg #[.pointer none, .int .i64 0]).cells (n + 1 - i) ++ Builtin.zeroCells (Value.agg #[.pointer none, .int .i64 0]).cells (G - (n + 1)) := ⟨_, rfl⟩
  have hrz : ∀ ty, (Builtin.append_ #[227, 3] ty #[.slice (some ⟨g, 0, none⟩) i n, .int .i64 ((n : Int) + 1 - (i : Int))]).run Tryz.prog w =
      .ok (.slice (some ⟨w.heap.size, 0, none⟩) (n + 1) G) (w.drew.alloc (.cells ROW 231)) := fun ty => by
    have h := Lib.run_append_grow_zeros w 227 3 ty 231 i0 _ .i64 .i64 Tryz.underlying227 Tryz.underlying3 hi0 hz0 (some ⟨g, 0, none⟩) i n (xs.take (i * 2)) hold (n + 1 - i) (by omega) (by omega) (by omega) (by omega) (by rw [hzb]; omega) (by rw [hzb, hik]; exact growslice_fits (by omega) (by omega))
    rw [hik] at h
    rw [hkk, hROW, hG]
    exact h
  have hRs : ROW.size = G * 2 := by
    rw [hROW]
    simp only [Array.size_append, size_zeroCells, List.size_toArray, List.length_take, show (Value.agg #[.pointer none, .int .i64 0]).cells.size = 2 from rfl]
    omega
  have hRt : ROW.toList.take (i * 2) = xs.take (i * 2) := by
    rw [hROW]
    simp only [Array.toList_append, List.append_assoc]
    rw [List.take_append_of_le_length (by simp; omega)]
    simp [List.take_take]
  have hRl : ROW.toList.length = G * 2 := by simpa using hRs
  have hic := grow_cells ROW.toList xs [v0, v1] (i * 2) (by omega) hRt (by simp only [List.length_cons, List.length_nil]; omega)
  simp only [List.length_cons, List.length_nil, Nat.reduceAdd] at hic
  obtain ⟨e1, e2, e3⟩ := hic
  obtain ⟨c1, hc1⟩ : ∃ c1 : List Value, c1 = ROW.toList.take (i * 2) ++ [v0, v1] ++ ROW.toList.drop (i * 2 + 2) := ⟨_, rfl⟩
  rw [← hc1] at e1 e2 e3
  obtain ⟨c2, hc2⟩ : ∃ c2 : List Value, c2 = c1.take (i * 2 + 2) ++ xs.drop (i * 2) ++ c1.drop (i * 2 + 2 + (xs.drop (i * 2)).length) := ⟨_, rfl⟩
  rw [← hc2] at e2 e3
  have hdl : (xs.drop (i * 2)).length = (n - i) * 2 := by rw [List.length_drop, hx]; omega
  have hN : ∀ W : World, W.heap = (w.alloc (.cells ROW 231)).heap → W.heap[w.heap.size]? = some (.cells ROW 231 (0, 0)) ∧ (∀ k, k < w.heap.size → W.heap[k]? = w.heap[k]?) := fun W hW => by
    rw [hW]
    exact ⟨heap_alloc_new w _, fun k hk => heap_alloc_old w _ hk⟩
  have hcpA : ∀ W : World, W.heap = (w.alloc (.cells ROW 231)).heap → ∀ ty dc, (Builtin.copy_ #[227, 227] ty #[.slice (some ⟨w.heap.size, i * 2, none⟩) (n + 1 - i) dc, .slice (some ⟨vb, 0, none⟩) 1 1]).run Tryz.prog W = .ok (.int .i64 1) (W.setRow w.heap.size c1.toArray) := fun W hW ty dc => by
    obtain ⟨n1, n2⟩ := hN W hW
    have := run_copy_k (P := Tryz.prog) W 227 227 ty 231 2 w.heap.size (i * 2) (n + 1 - i) dc ⟨vb, 0, none⟩ 1 1 1 ROW 231 [v0, v1] Tryz.underlying227 hsz n1 (by simp only [Nat.min_def]; split <;> omega) rfl
      (fun j v hj => by
        rw [Addr.add_lit, Nat.zero_add]
        have : W.cell? ⟨vb, j, none⟩ = w.cell? ⟨vb, j, none⟩ := by simp [World.cell?, n2 vb hvw]
        rw [this]
        exact hv.cell j v hj) (by simp only [List.length_cons, List.length_nil]; omega) (by simp [o0, o1])
    rw [this, hc1]
    rfl
  have hN2 : ∀ W : World, W.heap = ((w.alloc (.cells ROW 231)).setRow w.heap.size c1.toArray).heap → W.heap[w.heap.size]? = some (.cells c1.toArray 231 (0, 0)) ∧ (∀ k, k < w.heap.size → W.heap[k]? = w.heap[k]?) := fun W hW => by
    obtain ⟨n1, n2⟩ := hN _ rfl
    rw [hW]
    exact ⟨setRow_heap _ w.heap.size ROW _ _ _ n1, fun k hk => (setRow_other _ _ k _ (by omega)).trans (n2 k hk)⟩
  have hcpB : ∀ W : World, W.heap = ((w.alloc (.cells ROW 231)).setRow w.heap.size c1.toArray).heap → ∀ ty dc sc, (Builtin.copy_ #[227, 227] ty #[.slice (some ⟨w.heap.size, (i + 1) * 2, none⟩) (n - i) dc, .slice (some ⟨g, i * 2, none⟩) (n - i) sc]).run Tryz.prog W = .ok (.int .i64 ((n - i : Nat) : Int)) (W.setRow w.heap.size c2.toArray) := fun W hW ty dc sc => by
    obtain ⟨n1, n2⟩ := hN2 W hW
    have := run_copy_k (P := Tryz.prog) W 227 227 ty 231 2 w.heap.size ((i + 1) * 2) (n - i) dc ⟨g, i * 2, none⟩ (n - i) sc (n - i) c1.toArray 231 (xs.drop (i * 2)) Tryz.underlying227 hsz n1 (by simp only [Nat.min_def]; split <;> omega) hdl
      (fun j v hj => by
        rw [Addr.add_lit]
        have : W.cell? ⟨g, i * 2 + j, none⟩ = w.cell? ⟨g, i * 2 + j, none⟩ := by simp [World.cell?, n2 g hgw]
        rw [this]
        exact hrow _ v (by rwa [List.getElem?_drop] at hj)) (by rw [hdl]; simp only [List.size_toArray]; omega) (fun v hv => ox v (List.mem_of_mem_drop hv))
    rw [show (i + 1) * 2 = i * 2 + 2 by omega] at this ⊢
    rw [this, hc2]
  have HR : Hid (∀ w' : World, w'.heap = (((w.alloc (.cells ROW 231)).setRow w.heap.size c1.toArray).setRow w.heap.size c2.toArray).heap → w'.os = w.os → w'.tape = w.tape → w'.output = w.output → InsP 231 n (some g) (xs.take (i * 2) ++ [v0, v1] ++ xs.drop (i * 2)) w (.returned (.slice (some ⟨w.heap.size, 0, none⟩) (n + 1) G)) w') := fun w' hW h1 h2 h3 => by
    obtain ⟨n1, n2⟩ := hN2 _ rfl
    refine ⟨_, rfl, ⟨by simp only [List.length_append, List.length_take, List.length_cons, List.length_nil]; omega, .inr ⟨w.heap.size, G, c2.toArray, rfl, Nat.zero_le _, by rw [hW]; exact setRow_heap _ _ c1.toArray _ _ _ n1, hGn, hGm, by simp only [List.size_toArray]; omega, ?_⟩⟩, ⟨h1, h2, h3, by rw [hW]; simp, fun k hk _ => ?_⟩, .inr rfl⟩
    · rw [← e3]
      congr 1
      simp only [hx, List.length_append, List.length_take, List.length_cons, List.length_nil]
      first | omega | simp
    · rw [hW, setRow_other _ _ k _ (by omega)]
      exact n2 k hk
  clear hrow hg htk e1 e2 e3 ox hdl hx hc1 hc2 hv hRs hRt hRl hN hN2 hold hG hROW hi0 hz0 hz1 hzb hsz hkk hik
  generalize xs.take (i * 2) ++ [v0, v1] ++ xs.drop (i * 2) = ys at *
  generalize c1.toArray = a1 at *
  generalize c2.toArray = a2 at *
  have hA := hcpA (w.alloc (.cells ROW 231)).drew rfl
  have hB := hcpB ((w.alloc (.cells ROW 231)).drew.setRow w.heap.size a1).drew rfl
  clear hcpA hcpB
  have hG2 : G ≤ 9223372036854775807 := by unfold maxLen at hGm; omega
  have hz2 : ¬ ((i : Int) = (n : Int)) := by omega
  have hw1 : IntKind.i64.wrap ((i : Int) + 1) = (i : Int) + 1 := Go.IntWalk.i64_in _ (by omega)
  have hw2 : IntKind.i64.wrap ((n : Int) + 1) = (n : Int) + 1 := Go.IntWalk.i64_in _ (by omega)
  have htn : ((i : Int) + 1).toNat = i + 1 := by omega
  have hb1 : (0 : Int) ≤ (i : Int) + 1 := by omega
  have hin : i ≤ n := by omega
  have hi1 : i + 1 ≤ n := by omega
  have hb3 : (i : Int) ≤ (n : Int) + 1 := by omega
  have hb5 : (n : Int) < (n : Int) + 1 := by omega
  have hGi : ¬ (G = i) := by omega
  have hGim : ¬ (G = i + 1) := by omega
  have hci : ¬ (n = i) := by omega
  have mixed : Tryz.prog.follows .mixedOrders = true := by kernel_rfl
  go_enter Tryz.func153, Tryz.ntmps153
  go_wp2_with (at_builtin; refine Lib.wpList_append_run _ rfl _ _ _ _ rfl _ _ rfl rfl _ _ (hrz _) ?_)
  go_region_law_o (refine step_copy_runI rfl _ _ 227 227 rfl _ _ (by simp [Act.eval, Act.put]) (by simp [Act.eval, Act.put]) (hB _ _ _) ?_)
  go_wp2
  go_ret
  exact HR.out _ rfl rfl rfl rfl
/-! Joined. -/
def InsD (A B : HL) (rv : RV) (n i : Nat) (xs news : List Value) (w : World) (r : Ending) (w' : World) : Prop :=
  ∃ rv', r = .returned (lvOf rv' (n + 1)) ∧ rvOk rv' (n + 1) ∧ Step (A ++ rowH rv 231 2 xs ++ B) (A ++ rowH rv' 231 2 (xs.take (i * 2) ++ news ++ xs.drop (i * 2)) ++ B) w w'
theorem ins_any {w : World} {A B : HL} {rv : RV} {n i vb : Nat} {xs : List Value} {v0 v1 : Value} (h : Sep w (A ++ rowH rv 231 2 xs ++ B)) (hok : rvOk rv n) (hx : xs.length = n * 2) (hi : i ≤ n) (hn : n ≤ 1048576)
    (hv : Cells w vb 231 [v0, v1]) (hvb : vb ∉ keys (A ++ rowH rv 231 2 xs ++ B)) (ox : ∀ v ∈ xs, v.oneCell' = true) (o0 : v0.oneCell' = true) (o1 : v1.oneCell' = true) :
    Calls Tryz.prog 153 #[lvOf rv n, .int .i64 i, .slice (some ⟨vb, 0, none⟩) 1 1] w (InsD A B rv n i xs [v0, v1] w) := by
  have hr : Sep w (rowH rv 231 2 xs) := h.left.right
  have hown := row_owns hr hok hx
  have key : Calls Tryz.prog 153 #[lvOf rv n, .int .i64 i, .slice (some ⟨vb, 0, none⟩) 1 1] w (InsP 231 n (lvOf rv n).ownBlock (xs.take (i * 2) ++ [v0, v1] ++ xs.drop (i * 2)) w) := by
    by_cases hin : i = n
    · subst hin
      have := ins_end hown hok hn (hv.cell 0 _ rfl) (hv.cell 1 _ rfl) o0 o1
      rw [List.take_of_length_le (by omega), List.drop_eq_nil_of_le (by omega), List.append_nil]
      exact this
    · cases rv with
      | none => have : n = 0 := hok; omega
      | some p =>
        obtain ⟨g, cap⟩ := p
        obtain ⟨o, ho, cur, rfl, hcs, htk⟩ := hr.get (b := g) (q := isR 231 (cap * 2) xs) (by simp [rowH])
        by_cases hc : n + 1 ≤ cap
        · exact ins_shift ho hcs htk hx (by omega) hn hc hok.2 hv (fun e => hvb (by subst e; simp [rowH])) ox o0 o1
        · have : cap = n := by have := hok.1; omega
          subst this
          exact ins_grow ho htk hx (by omega) hn hv ox o0 o1
  refine key.mono ?_
  rintro r w' ⟨v', rfl, q1, q2, q3⟩
  obtain ⟨rv', rfl, e2, e3⟩ := row_appended h q1 q2 q3
  exact ⟨rv', rfl, e2, e3⟩
end Go.Proofs.YtcnbbenmlffgpaaGreatDoor

/- A walk of slices.Delete at a row of pages, one element. Conditions: the slice has no more than 1048576 elements. -/
namespace Go.Proofs.YtcnbbenmlffgpaaGreatDoor
open Go.RowKit

theorem run_clear_k {P : Program} (w : World) (t e ty : TypeId) (z : Value) (ht : P.underlying t = some (.slice e)) (hv : ∀ w, (zeroValue e).run P w = .ok z w) (g o n c : Nat) (hn : 0 < n) (cur : Array Value) (T : TypeId) (hg : w.heap[g]? = some (.cells cur T (0, 0)))
    (cs : List Value) (hcs : (Builtin.zeroCells z.cells n).toList = cs) (hfit : o + cs.length ≤ cur.size) (h1 : ∀ v ∈ cs, v.oneCell' = true) :
    (Builtin.clear_ #[t] ty #[.slice (some ⟨g, o, none⟩) n c]).run P w = .ok (.tuple #[]) (w.setRow g (cur.toList.take o ++ cs ++ cur.toList.drop (o + cs.length)).toArray) := by
  have hst := run_storeCells_at P g o T cs 0 cur w hg (by simpa using hfit) h1
  simp only [Nat.add_zero] at hst
  obtain ⟨m, rfl⟩ : ∃ m, n = m + 1 := ⟨n - 1, by omega⟩
  simp [Builtin.clear_, run_underlying ht, hv, hcs, hst]
theorem del_cells (cur xs zs : List Value) (p s : Nat) (hx : cur.take xs.length = xs) (hp : p + s ≤ xs.length) (hz : zs.length = s) (hl : xs.length ≤ cur.length) :
    let c1 := cur.take p ++ xs.drop (p + s) ++ cur.drop (p + (xs.drop (p + s)).length)
    let c2 := c1.take (xs.length - s) ++ zs ++ c1.drop (xs.length - s + zs.length)
    c1.length = cur.length ∧ c2.length = cur.length ∧ c2.take (xs.length - s) = xs.take p ++ xs.drop (p + s) := by
  have e0 : (xs.drop (p + s)).length = xs.length - (p + s) := List.length_drop
  have e1 : (cur.take p ++ xs.drop (p + s) ++ cur.drop (p + (xs.drop (p + s)).length)).length = cur.length := by
    simp only [List.length_append, List.length_take, List.length_drop]; omega
  refine ⟨e1, ?_, ?_⟩
  · simp only [List.length_append, List.length_take, List.length_drop]; omega
  · have ht : (cur.take p ++ xs.drop (p + s) ++ cur.drop (p + (xs.drop (p + s)).length)).take (xs.length - s) = xs.take p ++ xs.drop (p + s) := by
      have e2 : (cur.take p ++ xs.drop (p + s)).length = xs.length - s := by simp; omega
      rw [← e2, List.take_left]
      congr 1
      rw [← hx, List.take_take, show min p xs.length = p by omega]
    show List.take (xs.length - s) _ = _
    rw [ht, List.append_assoc, List.take_append_of_le_length (by simp; omega), List.take_of_length_le (by simp; omega)]
theorem step_append_runI {P : Program} {ops : Array Oper} {o : Oper} {a : Act} {w : World} {K : Act → World → Prop} {Q : Exit → Act → World → Prop} {E : Prop}
    (hg : o.guard = none) (d x : Operand) (dT sT : TypeId) (hop : o.op = Op.call { callee := Callee.builtin Builtin.append, args := #[d, x], argTypes := #[dT, sT] })
    (v u : Value) (hd : a.eval d = v) (hx : a.eval x = u) {v' : Value} {w' : World} (hr : (Builtin.append_ #[dT, sT] o.type #[v, u]).run P w = .ok v' w') (hK : K (a.put o.dst v') w') :
    if Region.wanted o (yielded ops a.tmps) = true then Oper.wp P o a w K Q else E := by
  have hw : Region.wanted o (yielded ops a.tmps) = true := by simp [Region.wanted, hg]
  rw [if_pos hw]
  unfold Oper.wp execOp
  simp only [hop, resolve, invoke, builtin, Sem.run_bind, Sem.run_pure, Result.andThen_ok, List.map_toArray, List.map_cons, List.map_nil, hd, hx, hr]
  exact hK
def DelP (g cap k : Nat) (ys : List Value) (w : World) (r : Ending) (w' : World) : Prop :=
  r = .returned (.slice (some ⟨g, 0, none⟩) k cap) ∧ w'.ownsRow 0 231 2 (.slice (some ⟨g, 0, none⟩) k cap) k ys ∧ w.grownBy w' (some g)
set_option maxHeartbeats 4000000 in
set_option maxRecDepth 100000 in
theorem del_row {w : World} {g cap k i : Nat} {xs : List Value} {cur : Array Value} (hg : w.heap[g]? = some (.cells cur 231 (0, 0))) (hcs : cur.size = cap * 2) (htk : cur.toList.take xs.length = xs) (hx : xs.length = (k + 1) * 2) (hi : i ≤ k) (hn : k ≤ 1048576) (hc : k + 1 ≤ cap) (hcm : cap ≤ maxLen)
    (ox : ∀ v ∈ xs, v.oneCell' = true) :
    Calls Tryz.prog 182 #[.slice (some ⟨g, 0, none⟩) (k + 1) cap, .int .i64 i, .int .i64 ((i : Int) + 1)] w (DelP g cap k (xs.take (i * 2) ++ xs.drop (i * 2 + 2)) w) := by
  obtain ⟨i0, hi0, hz0, hz1, hzb⟩ := info_parts Tryz.infopage
  have hcl : cur.toList.length = cap * 2 := by simpa using hcs
  have hrow : ∀ j v, xs[j]? = some v → w.drew.cell? ⟨g, j, none⟩ = some v := fun j v hj => by
    have : cur.toList[j]? = some v := by
      rw [← htk] at hj
      rw [List.getElem?_take] at hj
      split at hj
      · exact hj
      · cases hj
    rw [Array.getElem?_toList] at this
    show w.cell? _ = _
    simp [World.cell?, hg, this]
  have hdl : (xs.drop (i * 2 + 2)).length = (k - i) * 2 := by rw [List.length_drop, hx]; omega
  have hic := del_cells cur.toList xs [.pointer none, .int .i64 0] (i * 2) 2 htk (by omega) rfl (by omega)
  obtain ⟨e1, e2, e3⟩ := hic
  rw [show xs.length - 2 = k * 2 by omega] at e2 e3
  obtain ⟨c1, hc1⟩ : ∃ c1 : List Value, c1 = cur.toList.take (i * 2) ++ xs.drop (i * 2 + 2) ++ cur.toList.drop (i * 2 + (xs.drop (i * 2 + 2)).length) := ⟨_, rfl⟩
  rw [← hc1] at e1 e2 e3
  obtain ⟨c2, hc2⟩ : ∃ c2 : List Value, c2 = c1.take (k * 2) ++ [.pointer none, .int .i64 0] ++ c1.drop (k * 2 + [Value.pointer none, .int .i64 0].length) := ⟨_, rfl⟩
  rw [← hc2] at e2 e3
  obtain ⟨a, hA, hsrc⟩ : ∃ a : Addr, (if cap = i + 1 then (some (⟨g, 0, none⟩ : Addr)) else some ⟨g, (i + 1) * 2, none⟩) = some a ∧ ∀ j u, (xs.drop (i * 2 + 2))[j]? = some u → w.drew.cell? (a.add j) = some u := by
    by_cases hci : cap = i + 1
    · refine ⟨⟨g, 0, none⟩, by simp [hci], fun j u hj => ?_⟩
      have : (xs.drop (i * 2 + 2)).length = 0 := by rw [hdl]; omega
      rw [List.eq_nil_of_length_eq_zero this] at hj
      simp at hj
    · refine ⟨⟨g, (i + 1) * 2, none⟩, by simp [hci], fun j u hj => ?_⟩
      rw [Addr.add_lit]
      exact hrow _ u (by rw [List.getElem?_drop] at hj; rwa [show (i + 1) * 2 + j = i * 2 + 2 + j by omega])
  have hap : ∀ ty, (Builtin.append_ #[227, 227] ty #[.slice (some ⟨g, 0, none⟩) i cap, .slice (some a) (k - i) (cap - (i + 1))]).run Tryz.prog w.drew = .ok (.slice (some ⟨g, 0, none⟩) k cap) (w.drew.setRow g c1.toArray) := fun ty => by
    have := run_append_room (P := Tryz.prog) w.drew 227 ty 231 i0 Tryz.underlying227 hi0 g i cap cur hg a (k - i) (cap - (i + 1)) (xs.drop (i * 2 + 2)) (by rw [hz1]; exact hdl) hsrc (fun v hv => ox v (List.mem_of_mem_drop hv)) (by omega) (by rw [hz1, hdl, hcs]; omega)
    rw [hz1, show i + (k - i) = k by omega] at this
    rw [this, hc1]
  have hg1 : (w.drew.setRow g c1.toArray).heap[g]? = some (.cells c1.toArray 231 (0, 0)) := setRow_heap w.drew g cur _ _ _ hg
  have hclr : ∀ ty, (Builtin.clear_ #[227] ty #[.slice (some ⟨g, k * 2, none⟩) 1 (cap - k)]).run Tryz.prog (w.drew.setRow g c1.toArray) = .ok (.tuple #[]) ((w.drew.setRow g c1.toArray).setRow g c2.toArray) := fun ty => by
    have := run_clear_k (P := Tryz.prog) (w.drew.setRow g c1.toArray) 227 231 ty _ Tryz.underlying227 Tryz.zeroValue231 g (k * 2) 1 (cap - k) (by omega) c1.toArray 231 hg1 [.pointer none, .int .i64 0] (by first | kernel_rfl | decide | simp [Builtin.zeroCells, Value.cells]) (by simp only [List.size_toArray, List.length_cons, List.length_nil]; omega) (by simp [Value.oneCell'])
    rw [this, hc2]
  have HR : Hid (DelP g cap k (xs.take (i * 2) ++ xs.drop (i * 2 + 2)) w (.returned (.slice (some ⟨g, 0, none⟩) k cap)) ((w.drew.setRow g c1.toArray).setRow g c2.toArray)) := by
    have hg2 : ((w.drew.setRow g c1.toArray).setRow g c2.toArray).heap[g]? = some (.cells c2.toArray 231 (0, 0)) := setRow_heap _ g c1.toArray _ _ _ hg1
    refine ⟨rfl, ⟨by simp only [List.length_append, List.length_take, hdl, hx]; omega, .inr ⟨g, cap, c2.toArray, rfl, Nat.zero_le _, hg2, by omega, hcm, by simp only [List.size_toArray]; omega, ?_⟩⟩, ⟨rfl, rfl, rfl, by simp, fun j _ hj => ?_⟩⟩
    · first
        | exact e3
        | (have : (xs.take (i * 2) ++ xs.drop (i * 2 + 2)).length = k * 2 := by simp only [List.length_append, List.length_take, hdl, hx]; omega
           rw [this]
           exact e3)
    · have hkg : j ≠ g := fun e => hj (by rw [e])
      rw [setRow_other _ g j _ hkg, setRow_other _ g j _ hkg]
      rfl
  clear hrow hg hcs htk hg1 e1 e2 e3 hcl ox hdl hx hc1 hc2 hsrc hi0 hz0 hz1 hzb
  generalize xs.take (i * 2) ++ xs.drop (i * 2 + 2) = ys at *
  generalize c1.toArray = a1 at *
  generalize c2.toArray = a2 at *
  have hcm2 : cap ≤ 9223372036854775807 := by unfold maxLen at hcm; omega
  have hz2 : ¬ ((i : Int) = (i : Int) + 1) := by omega
  have htn : ((i : Int) + 1).toNat = i + 1 := by omega
  have htk : ((k : Int) + 1).toNat = k + 1 := by omega
  have hb1 : (0 : Int) ≤ (i : Int) + 1 := by omega
  have hb2 : (0 : Int) ≤ (k : Int) + 1 := by omega
  have hb3 : (i : Int) ≤ (i : Int) + 1 := by omega
  have hb4 : (i : Int) + 1 ≤ (k : Int) + 1 := by omega
  have hb5 : (k : Int) ≤ (k : Int) + 1 := by omega
  have hb6 : (k : Int) + 1 ≤ (cap : Int) := by omega
  have hb7 : i ≤ cap := by omega
  have hb8 : ¬ (cap = k) := by omega
  have mixed : Tryz.prog.follows .mixedOrders = true := by kernel_rfl
  go_enter Tryz.func182, Tryz.ntmps182
  go_wp2_with fail
  go_region_law_o (refine step_append_runI rfl _ _ 227 227 rfl _ _ (by simp [Act.eval, Act.put]) (by simp [Act.eval, Act.put]) (hap _) ?_)
  go_wp2_with fail
  go_ret
  exact HR.out
end Go.Proofs.YtcnbbenmlffgpaaGreatDoor

/- Walks of a cache's Give. Conditions: the blocks hold what CA.hl says. -/
namespace Go.Proofs.YtcnbbenmlffgpaaGreatDoor
open Go.RowKit

theorem pcells_set (pg : List (BM × Nat)) (k : Nat) (x : BM × Nat) (m' : BM) (hx : pg[k]? = some x) (hb : m'.b = x.1.b) : pcells (pg.set k (m', x.2)) = pcells pg := by
  induction pg generalizing k with
  | nil => rfl
  | cons y r ih =>
    cases k with
    | zero =>
      simp at hx; subst hx
      show [ptr m'.b, _] ++ pcells r = [ptr y.1.b, _] ++ pcells r
      rw [hb]
    | succ k =>
      show _ ++ pcells (r.set k (m', x.2)) = _ ++ pcells r
      rw [ih k (by simpa using hx)]
/-- One page's bitmap turned. -/
def CA.pageTo (c : CA) (k : Nat) (x : BM × Nat) (m' : BM) : CA := { c with pg := c.pg.set k (m', x.2) }
theorem CA.turnB {w w' : World} {c : CA} (h : Sep w c.hl) (k : Nat) (x : BM × Nat) (hx : c.pg[k]? = some x) (m' : BM) (hb : m'.b = x.1.b) (hst : Step x.1.hl m'.hl w w') : Step c.hl (c.pageTo k x m').hl w w' := by
  have hk := (List.getElem?_eq_some_iff.1 hx).1
  have e1 : pgH c.pg = (c.pg.take k).flatMap (fun x => x.1.hl) ++ x.1.hl ++ (c.pg.drop (k + 1)).flatMap (fun x => x.1.hl) := fm_split (fun x : BM × Nat => x.1.hl) _ _ _ hx
  have e2 : pgH (c.pg.set k (m', x.2)) = (c.pg.take k).flatMap (fun x => x.1.hl) ++ m'.hl ++ (c.pg.drop (k + 1)).flatMap (fun x => x.1.hl) := fm_set (fun x : BM × Nat => x.1.hl) _ _ _ hk
  have e3 : c.hl = ((c.c, isC 229 [ptr c.bb, .int .i64 c.size, lvOf c.rv c.pg.length]) :: (rowH c.rv 231 2 (pcells c.pg) ++ (c.pg.take k).flatMap (fun x => x.1.hl))) ++ x.1.hl ++ (c.pg.drop (k + 1)).flatMap (fun x => x.1.hl) := by
    unfold CA.hl; rw [e1]; simp
  have e4 : (c.pageTo k x m').hl = ((c.c, isC 229 [ptr c.bb, .int .i64 c.size, lvOf c.rv c.pg.length]) :: (rowH c.rv 231 2 (pcells c.pg) ++ (c.pg.take k).flatMap (fun x => x.1.hl))) ++ m'.hl ++ (c.pg.drop (k + 1)).flatMap (fun x => x.1.hl) := by
    unfold CA.hl CA.pageTo
    simp only []
    rw [e2, pcells_set _ _ _ _ hx hb, List.length_set]
    simp
  rw [e3, e4]
  rw [e3] at h
  exact Step.frame _ _ h hst
theorem CA.ok_page {c : CA} (ok : c.Ok) (k : Nat) (x : BM × Nat) (hx : c.pg[k]? = some x) (m' : BM) (hl : m'.bits.length = x.1.bits.length) : (c.pageTo k x m').Ok := by
  have hk := (List.getElem?_eq_some_iff.1 hx).1
  have hm : (c.pg.set k (m', x.2)).map Prod.snd = c.pg.map Prod.snd := by
    rw [List.map_set]
    show (c.pg.map Prod.snd).set k x.2 = _
    have : (c.pg.map Prod.snd)[k]? = some x.2 := by rw [List.getElem?_map, hx]; rfl
    apply List.ext_getElem?
    intro j
    rw [List.getElem?_set]
    split
    · rename_i e; subst e; rw [this]; simp [hk]
    · rfl
  have hin : ∀ y ∈ c.pg.set k (m', x.2), y = (m', x.2) ∨ y ∈ c.pg := fun y hy => by
    rcases List.mem_or_eq_of_mem_set hy with h | h
    · exact .inr h
    · exact .inl h
  have hxm := List.mem_of_getElem? hx
  refine ⟨by simpa [CA.pageTo] using ok.rv, ok.s0, ok.s1, ?_, ?_, ?_, by simpa [CA.pageTo] using ok.len⟩
  · have h1 : (c.pg.map Prod.snd).Pairwise (· < ·) := List.pairwise_map.2 ok.sorted
    rw [← hm] at h1
    exact List.pairwise_map.1 h1
  · intro y hy
    rcases hin y hy with rfl | h
    · exact ok.lt x hxm
    · exact ok.lt y h
  · intro y hy
    rcases hin y hy with rfl | h
    · exact hl.trans (ok.many x hxm)
    · exact ok.many y h
set_option maxHeartbeats 1000000 in
theorem give_none {w : World} {c : CA} (h : Sep w c.hl) (ok : c.Ok) (a : Nat) (ha : a < 4611686018427387904) (hn : spotV c a = none) :
    Calls Tryz.prog 157 #[.pointer (some ⟨c.c, 0, none⟩), .int .i64 a] w (Told w (.int .i64 6)) := by
  have k1 := spot_any h ok a ha
  rw [hn] at k1
  clear h ok hn
  generalize c.c = cc at *
  have HQ : Hid (∀ r w', Told w (spotT none) r w' → r = .returned (.tuple #[.int .i64 0, .int .i64 0, .bool false]) ∧ Told w (.int .i64 6) (.returned (.int .i64 6)) w') := fun r w' ⟨e, hb⟩ => ⟨e, rfl, hb⟩
  go_enter Tryz.func157, Tryz.ntmps157
  go_wp2_with fail
  refine k1.mono ?_
  rintro r w1 hf
  obtain ⟨rfl, hf2⟩ := HQ.out _ _ hf
  have HF2 := hidden hf2
  clear hf2 hf
  go_wp2_with fail
  go_ret
  exact HF2.out
/-- A place given back, others of its page still in use. -/
def GiveL (c : CA) (k i : Nat) (x : BM × Nat) (w : World) (r : Ending) (w' : World) : Prop := r = .returned (.int .i64 0) ∧ Step c.hl (c.pageTo k x { x.1 with bits := x.1.bits.set i false }).hl w w'
set_option maxHeartbeats 4000000 in
set_option maxRecDepth 100000 in
theorem give_left {w : World} {c : CA} (h : Sep w c.hl) (ok : c.Ok) (a : Nat) (ha : a < 4611686018427387904) (k i : Nat) (x : BM × Nat) (hs : spotV c a = some (k, i)) (hx : c.pg[k]? = some x) (hi : x.1.bits[i]?.getD false = true) (hcnt : cntB (x.1.bits.set i false) ≠ 0) :
    Calls Tryz.prog 157 #[.pointer (some ⟨c.c, 0, none⟩), .int .i64 a] w (GiveL c k i x w) := by
  have k1 := spot_any h ok a ha
  rw [hs] at k1
  have hk := (List.getElem?_eq_some_iff.1 hx).1
  have hil : i < x.1.bits.length := by
    rcases Nat.lt_or_ge i x.1.bits.length with e | e
    · exact e
    · rw [List.getElem?_eq_none e] at hi; cases hi
  have hml := ok.many x (List.mem_of_getElem? hx)
  have hmn : x.1.bits.length ≤ 1048576 := by rw [hml]; have := Nat.div_le_self 960 c.size; omega
  have hln := ok.len
  obtain ⟨rb, cap, hrv⟩ : ∃ rb cap, c.rv = some (rb, cap) := by
    cases e : c.rv with
    | none => have := ok.rv; rw [e] at this; have : c.pg.length = 0 := this; omega
    | some p => exact ⟨p.1, p.2, rfl⟩
  have HCont : Hid (∀ w1, Below w.heap.size w w1 → w1.cell? ⟨c.c, 2, none⟩ = some (.slice (some ⟨rb, 0, none⟩) c.pg.length cap) ∧ w1.cell? ⟨rb, k * 2, none⟩ = some (.pointer (some ⟨x.1.b, 0, none⟩)) ∧ w1.cell? ⟨rb, k * 2 + 1, none⟩ = some (.int .i64 ((1024 * x.2 : Nat) : Int)) ∧
      Calls Tryz.prog 148 #[.pointer (some ⟨x.1.b, 0, none⟩), .bool false, .slice (some ⟨w1.heap.size + 1, 0, none⟩) 1 1] ((w1.alloc (.cells #[.pointer (some ⟨x.1.b, 0, none⟩), .int .i64 ((1024 * x.2 : Nat) : Int)] 231)).alloc (.cells #[.int .i64 (i : Int)] 3)) fun r w4 => r = .returned (.int .i64 1) ∧
        w4.cell? ⟨w1.heap.size, 0, none⟩ = some (.pointer (some ⟨x.1.b, 0, none⟩)) ∧
        Calls Tryz.prog 181 #[.pointer (some ⟨x.1.b, 0, none⟩)] w4 (fun r w5 => r = .returned (.int .i64 (cntB (x.1.bits.set i false))) ∧ w4 = w5) ∧ GiveL c k i x w (.returned (.int .i64 0)) w4) := fun w1 hb => by
    have s1 := (h.grown hb).sep
    have hsr := CA.sepR s1
    rw [hrv] at hsr
    obtain ⟨e1, e2⟩ := pcells_get _ _ _ hx
    have hc2 := (CA.sepC s1).cell 2 _ rfl
    rw [hrv] at hc2
    refine ⟨hc2, row_cell hsr _ _ e1, row_cell hsr _ _ e2, ?_⟩
    have s3 := (s1.alloc (.cells #[.pointer (some ⟨x.1.b, 0, none⟩), .int .i64 ((1024 * x.2 : Nat) : Int)] 231)).alloc (.cells #[.int .i64 (i : Int)] 3)
    have sb := CA.sepB s3 k x hx
    have hlt : ∀ b ∈ keys x.1.hl, b < w1.heap.size := fun b hbk => (CA.sepB s1 k x hx).lt hbk
    have hz : ((w1.alloc (.cells #[.pointer (some ⟨x.1.b, 0, none⟩), .int .i64 ((1024 * x.2 : Nat) : Int)] 231))).heap.size = w1.heap.size + 1 := by simp
    have hset := bmset_turn sb false i hil hmn (by rw [hi]; simp) (w1.heap.size + 1) (by
      have := (Cells.new (w1.alloc (.cells #[.pointer (some ⟨x.1.b, 0, none⟩), .int .i64 ((1024 * x.2 : Nat) : Int)] 231)) 3 [.int .i64 (i : Int)]).cell 0 _ rfl
      rw [hz] at this
      exact this) (fun hm => by have := hlt _ hm; omega)
    refine hset.mono ?_
    rintro r w4 ⟨rfl, hst⟩
    have hc' := CA.turnB s3 k x hx { x.1 with bits := x.1.bits.set i false } rfl hst
    refine ⟨rfl, ?_, bmcount_any hst.sep (by simpa using hmn), rfl, (h.grown hb).trans hc'.from_alloc.from_alloc⟩
    have hn : w1.heap.size ∉ keys x.1.hl := fun hm => by have := hlt _ hm; omega
    have hbk := hst.chg.block w1.heap.size (by simp; omega) hn
    have hcn := ((Cells.new w1 231 [.pointer (some ⟨x.1.b, 0, none⟩), .int .i64 ((1024 * x.2 : Nat) : Int)]).alloc (.cells #[.int .i64 (i : Int)] 3)).cell 0 _ rfl
    have : w4.cell? ⟨w1.heap.size, 0, none⟩ = ((w1.alloc (.cells #[.pointer (some ⟨x.1.b, 0, none⟩), .int .i64 ((1024 * x.2 : Nat) : Int)] 231)).alloc (.cells #[.int .i64 (i : Int)] 3)).cell? ⟨w1.heap.size, 0, none⟩ := by simp only [World.cell?, hbk]
    rw [this]
    exact hcn
  have HQ : Hid (∀ r w', Told w (spotT (some (k, i))) r w' → r = .returned (.tuple #[.int .i64 k, .int .i64 i, .bool true]) ∧ Below w.heap.size w w') := fun r w' ⟨e, hb⟩ => ⟨e, hb⟩
  have hk0 : (0 : Int) ≤ k := by omega
  have hkn : (k : Int) < c.pg.length := by omega
  have hi0 : (0 : Int) ≤ i := by omega
  have hib : (i : Int) < 1048576 := by omega
  have hc0 : ((cntB (x.1.bits.set i false) : Int) == 0) = false := by simpa using hcnt
  clear h ok hs hx hi hil hml hmn hrv hcnt
  generalize cntB (x.1.bits.set i false) = cnt at *
  generalize c.pg.length = np at *
  generalize 1024 * x.2 = pv at *
  obtain ⟨GL, hGL⟩ : ∃ GL : Ending → World → Prop, GL = GiveL c k i x w := ⟨_, rfl⟩
  rw [← hGL] at HCont ⊢
  clear hGL
  generalize x.1.b = b at *
  generalize c.c = cc at *
  go_enter Tryz.func157, Tryz.ntmps157
  go_wp2_with fail
  refine k1.mono ?_
  rintro r w1 hf
  obtain ⟨rfl, hb⟩ := HQ.out _ _ hf
  obtain ⟨c1, c2, c3, hset⟩ := HCont.out _ hb
  have HSet := hidden hset
  clear hset hf hb
  go_wp2_with fail
  refine HSet.out.mono ?_
  rintro r w4 ⟨rfl, d1, d2, d3⟩
  have HG := hidden d3
  have HC := hidden d2
  clear d2 d3
  go_wp2_with fail
  refine HC.out.mono ?_
  rintro r w5 ⟨rfl, rfl⟩
  go_wp2_with fail
  exact HG.out
end Go.Proofs.YtcnbbenmlffgpaaGreatDoor

/- What a cache's Give leaves when a page goes: plain lemmas. -/
namespace Go.Proofs.YtcnbbenmlffgpaaGreatDoor
open Go.RowKit

theorem pcells_erase (pg : List (BM × Nat)) (k : Nat) (hk : k < pg.length) : pcells (pg.eraseIdx k) = (pcells pg).take (k * 2) ++ (pcells pg).drop (k * 2 + 2) := by
  induction pg generalizing k with
  | nil => simp at hk
  | cons y r ih =>
    cases k with
    | zero => rfl
    | succ k =>
      have e := ih k (by simpa using hk)
      show _ :: _ :: pcells (r.eraseIdx k) = _
      rw [e, show (k + 1) * 2 = k * 2 + 1 + 1 by omega, show k * 2 + 1 + 1 + 2 = k * 2 + 2 + 1 + 1 by omega]
      rfl
theorem pgH_erase (pg : List (BM × Nat)) (k : Nat) : (pgH (pg.eraseIdx k)).Sublist (pgH pg) := by
  induction pg generalizing k with
  | nil => simp [pgH]
  | cons y r ih =>
    cases k with
    | zero => exact List.sublist_append_right _ _
    | succ k => exact List.Sublist.append (List.Sublist.refl _) (ih k)
def CA.dropPg (c : CA) (k : Nat) : CA := { c with pg := c.pg.eraseIdx k }
theorem CA.ok_drop {c : CA} (ok : c.Ok) (k : Nat) (hk : k < c.pg.length) : (c.dropPg k).Ok := by
  have hsub : (c.pg.eraseIdx k).Sublist c.pg := List.eraseIdx_sublist _ _
  have hlen : (c.pg.eraseIdx k).length = c.pg.length - 1 := by rw [List.length_eraseIdx, if_pos hk]
  refine ⟨?_, ok.s0, ok.s1, ok.sorted.sublist hsub, fun x hx => ok.lt x (hsub.subset hx), fun x hx => ok.many x (hsub.subset hx), by have := ok.len; show (c.pg.eraseIdx k).length ≤ _; omega⟩
  show rvOk c.rv (c.pg.eraseIdx k).length
  have := ok.rv
  cases hrv : c.rv with
  | none => rw [hrv] at this; have : c.pg.length = 0 := this; omega
  | some p => rw [hrv] at this; exact ⟨by have := this.1; omega, this.2⟩
/-- The row cut, and the slice stored. -/
theorem CA.dropStep {w w1 : World} {c : CA} {g cap : Nat} (h : Sep w c.hl) (hrv : c.rv = some (g, cap)) (k n : Nat) (hk : k < c.pg.length) (hn : c.pg.length = n + 1) (hd : DelP g cap n ((pcells c.pg).take (k * 2) ++ (pcells c.pg).drop (k * 2 + 2)) w (.returned (.slice (some ⟨g, 0, none⟩) n cap)) w1) :
    Step c.hl (c.dropPg k).hl w (w1.setCell ⟨c.c, 2, none⟩ (.slice (some ⟨g, 0, none⟩) n cap)) := by
  obtain ⟨_, q1, q2⟩ := hd
  have hlen : (c.pg.eraseIdx k).length = n := by rw [List.length_eraseIdx, if_pos hk]; omega
  have e0 : c.hl = [(c.c, isC 229 [ptr c.bb, .int .i64 c.size, lvOf c.rv c.pg.length])] ++ rowH c.rv 231 2 (pcells c.pg) ++ pgH c.pg := by unfold CA.hl; simp
  rw [e0] at h
  have hb : (Value.slice (some ⟨g, 0, none⟩) n cap).ownBlock = (lvOf c.rv c.pg.length).ownBlock ∨ (Value.slice (some ⟨g, 0, none⟩) n cap).ownBlock = some w.heap.size := .inl (by rw [hrv]; rfl)
  have hg : w.grownBy w1 (lvOf c.rv c.pg.length).ownBlock := by rw [hrv]; exact q2
  obtain ⟨rv', f1, f2, f3⟩ := row_appended h q1 hg hb
  have hrv' : rv' = c.rv := by
    cases rv' with
    | none => cases f1
    | some p =>
      obtain ⟨g', cap'⟩ := p
      unfold lvOf at f1
      cases f1
      exact hrv.symm
  subst hrv'
  have s2 : Step _ _ w1 _ := Sep.set (A := []) (b := c.c) (T := 229) (cs := [ptr c.bb, .int .i64 c.size, lvOf c.rv c.pg.length]) (B := rowH c.rv 231 2 ((pcells c.pg).take (k * 2) ++ (pcells c.pg).drop (k * 2 + 2)) ++ pgH c.pg) (by simpa using f3.sep) 2 (.slice (some ⟨g, 0, none⟩) n cap)
  have f3' : Step c.hl ([] ++ (c.c, isC 229 [ptr c.bb, .int .i64 c.size, lvOf c.rv c.pg.length]) :: (rowH c.rv 231 2 ((pcells c.pg).take (k * 2) ++ (pcells c.pg).drop (k * 2 + 2)) ++ pgH c.pg)) w w1 := by
    rw [e0]; simpa using f3
  refine (f3'.trans s2).drop ?_
  unfold CA.hl CA.dropPg
  simp only [List.nil_append, List.set_cons_succ, List.set_cons_zero]
  rw [pcells_erase _ _ hk, hlen, hrv]
  exact List.Sublist.cons_cons _ (List.Sublist.append (List.Sublist.refl _) (pgH_erase _ _))
end Go.Proofs.YtcnbbenmlffgpaaGreatDoor

/- What a cache's Take leaves when a page comes: plain lemmas. -/
namespace Go.Proofs.YtcnbbenmlffgpaaGreatDoor
open Go.RowKit

/-- A page more, in its place. -/
def insPg (pg : List (BM × Nat)) (y : BM × Nat) : List (BM × Nat) := pg.take (below_ pg y.2) ++ y :: pg.drop (below_ pg y.2)
theorem pcells_append (a b : List (BM × Nat)) : pcells (a ++ b) = pcells a ++ pcells b := by simp [pcells]
theorem pcells_take (pg : List (BM × Nat)) (j : Nat) : pcells (pg.take j) = (pcells pg).take (j * 2) := by
  induction pg generalizing j with
  | nil => simp [pcells]
  | cons y r ih =>
    cases j with
    | zero => simp [pcells]
    | succ j =>
      show _ :: _ :: pcells (r.take j) = _
      rw [ih, show (j + 1) * 2 = j * 2 + 1 + 1 by omega]
      rfl
theorem pcells_drop (pg : List (BM × Nat)) (j : Nat) : pcells (pg.drop j) = (pcells pg).drop (j * 2) := by
  induction pg generalizing j with
  | nil => simp [pcells]
  | cons y r ih =>
    cases j with
    | zero => simp
    | succ j =>
      show pcells (r.drop j) = _
      rw [ih, show (j + 1) * 2 = j * 2 + 1 + 1 by omega]
      rfl
theorem pcells_ins (pg : List (BM × Nat)) (y : BM × Nat) : pcells (insPg pg y) = (pcells pg).take (below_ pg y.2 * 2) ++ [ptr y.1.b, .int .i64 ((1024 * y.2 : Nat) : Int)] ++ (pcells pg).drop (below_ pg y.2 * 2) := by
  unfold insPg
  rw [pcells_append, pcells_take]
  show _ ++ ([ptr y.1.b, .int .i64 ((1024 * y.2 : Nat) : Int)] ++ pcells (pg.drop _)) = _
  rw [pcells_drop, List.append_assoc]
theorem pgH_ins (pg : List (BM × Nat)) (y : BM × Nat) : (y.1.hl ++ pgH pg).Perm (pgH (insPg pg y)) := by
  unfold insPg pgH
  rw [List.flatMap_append, List.flatMap_cons]
  have e : pg.flatMap (fun x => x.1.hl) = (pg.take (below_ pg y.2)).flatMap (fun x => x.1.hl) ++ (pg.drop (below_ pg y.2)).flatMap (fun x => x.1.hl) := by
    rw [← List.flatMap_append, List.take_append_drop]
  rw [e, ← List.append_assoc, ← List.append_assoc]
  exact List.Perm.append_right _ List.perm_append_comm
theorem insPg_len (pg : List (BM × Nat)) (y : BM × Nat) : (insPg pg y).length = pg.length + 1 := by
  unfold insPg
  simp only [List.length_append, List.length_cons, List.length_take, List.length_drop]
  omega
theorem mem_insPg {pg : List (BM × Nat)} {y z : BM × Nat} : z ∈ insPg pg y ↔ z = y ∨ z ∈ pg := by
  unfold insPg
  have : z ∈ pg ↔ z ∈ pg.take (below_ pg y.2) ∨ z ∈ pg.drop (below_ pg y.2) := by rw [← List.mem_append, List.take_append_drop]
  rw [this]
  simp only [List.mem_append, List.mem_cons]
  constructor
  · rintro (h | h | h)
    · exact .inr (.inl h)
    · exact .inl h
    · exact .inr (.inr h)
  · rintro (h | h | h)
    · exact .inr (.inl h)
    · exact .inl h
    · exact .inr (.inr h)
theorem sorted_ins {pg : List (BM × Nat)} (hs : pg.Pairwise (fun a b => a.2 < b.2)) (y : BM × Nat) (hn : ∀ x ∈ pg, x.2 ≠ y.2) : (insPg pg y).Pairwise (fun a b => a.2 < b.2) := by
  have hlo : ∀ x ∈ pg.take (below_ pg y.2), x.2 < y.2 := fun x hx => by
    obtain ⟨k, hk⟩ := List.mem_iff_getElem?.1 hx
    rw [List.getElem?_take] at hk
    split at hk
    · rename_i hlt; exact (below_at hs y.2 k x hk).1 hlt
    · cases hk
  have hhi : ∀ x ∈ pg.drop (below_ pg y.2), y.2 < x.2 := fun x hx => by
    obtain ⟨k, hk⟩ := List.mem_iff_getElem?.1 hx
    rw [List.getElem?_drop] at hk
    have h1 := below_at hs y.2 _ x hk
    have h2 := hn x (List.mem_of_getElem? hk)
    have h3 : ¬ x.2 < y.2 := fun e => by have := h1.2 e; omega
    omega
  unfold insPg
  rw [List.pairwise_append]
  refine ⟨hs.sublist (List.take_sublist _ _), List.pairwise_cons.2 ⟨fun x hx => hhi x hx, hs.sublist (List.drop_sublist _ _)⟩, fun a ha b hb => ?_⟩
  rcases List.mem_cons.1 hb with rfl | hb
  · exact hlo a ha
  · exact Nat.lt_trans (hlo a ha) (hhi b hb)
def CA.insert (c : CA) (rv' : RV) (y : BM × Nat) : CA := { c with rv := rv', pg := insPg c.pg y }
theorem CA.ok_ins {c : CA} (ok : c.Ok) (rv' : RV) (y : BM × Nat) (hn : ∀ x ∈ c.pg, x.2 ≠ y.2) (hr : rvOk rv' (c.pg.length + 1)) (hl : c.pg.length < 1048576) (hy : y.2 < 1048576) (hb : y.1.bits.length = 960 / c.size) : (c.insert rv' y).Ok := by
  refine ⟨?_, ok.s0, ok.s1, sorted_ins ok.sorted y hn, fun x hx => ?_, fun x hx => ?_, ?_⟩
  · show rvOk rv' (insPg c.pg y).length
    rw [insPg_len]; exact hr
  · rcases mem_insPg.1 hx with rfl | h
    · exact hy
    · exact ok.lt x h
  · rcases mem_insPg.1 hx with rfl | h
    · exact hb
    · exact ok.many x h
  · show (insPg c.pg y).length ≤ _
    rw [insPg_len]; omega
/-- The row has the page, and the slice is stored. -/
theorem CA.insStep {w w1 : World} {c : CA} {K : HL} (y : BM × Nat) (rv' : RV) (h : Sep w (c.hl ++ (y.1.hl ++ K))) (hst : Step ([(c.c, isC 229 [ptr c.bb, .int .i64 c.size, lvOf c.rv c.pg.length])] ++ rowH c.rv 231 2 (pcells c.pg) ++ (pgH c.pg ++ (y.1.hl ++ K)))
      ([(c.c, isC 229 [ptr c.bb, .int .i64 c.size, lvOf c.rv c.pg.length])] ++ rowH rv' 231 2 ((pcells c.pg).take (below_ c.pg y.2 * 2) ++ [ptr y.1.b, .int .i64 ((1024 * y.2 : Nat) : Int)] ++ (pcells c.pg).drop (below_ c.pg y.2 * 2)) ++ (pgH c.pg ++ (y.1.hl ++ K))) w w1) :
    Step (c.hl ++ (y.1.hl ++ K)) ((c.insert rv' y).hl ++ K) w (w1.setCell ⟨c.c, 2, none⟩ (lvOf rv' (c.pg.length + 1))) := by
  rw [← pcells_ins] at hst
  have s2 : Step _ _ w1 _ := Sep.set (A := []) (b := c.c) (T := 229) (cs := [ptr c.bb, .int .i64 c.size, lvOf c.rv c.pg.length]) (B := rowH rv' 231 2 (pcells (insPg c.pg y)) ++ (pgH c.pg ++ (y.1.hl ++ K))) (by simpa using hst.sep) 2 (lvOf rv' (c.pg.length + 1))
  have h3 := Step.trans (H1 := [] ++ (c.c, isC 229 [ptr c.bb, .int .i64 c.size, lvOf c.rv c.pg.length]) :: (rowH rv' 231 2 (pcells (insPg c.pg y)) ++ (pgH c.pg ++ (y.1.hl ++ K)))) (by simpa using hst) s2
  refine h3.perm (.of_eq (by unfold CA.hl; simp)) ?_
  unfold CA.hl CA.insert
  simp only [List.nil_append, List.set_cons_succ, List.set_cons_zero, insPg_len, List.cons_append]
  refine List.Perm.cons _ ?_
  rw [List.append_assoc]
  refine List.Perm.append_left _ ?_
  rw [← List.append_assoc]
  refine List.Perm.append_right _ ?_
  exact List.perm_append_comm.trans (pgH_ins c.pg y)
end Go.Proofs.YtcnbbenmlffgpaaGreatDoor

/- The used places of a cache, as a list; what the turning of a place does to it. Plain lists. No condition. -/
namespace Go.Proofs.YtcnbbenmlffgpaaGreatDoor
open Go.RowKit

/-- The numbers of the bits that are on. -/
def trues (bits : List Bool) : List Nat := (List.range bits.length).filter fun i => bits[i]?.getD false
theorem mem_trues {bits : List Bool} {i : Nat} : i ∈ trues bits ↔ bits[i]?.getD false = true := by
  unfold trues
  rw [List.mem_filter, List.mem_range]
  constructor
  · exact fun h => h.2
  · intro h
    refine ⟨?_, h⟩
    rcases Nat.lt_or_ge i bits.length with e | e
    · exact e
    · rw [List.getElem?_eq_none e] at h; cases h
theorem trues_sorted (bits : List Bool) : (trues bits).Pairwise (· < ·) := List.pairwise_lt_range.filter _
theorem trues_snoc (bits : List Bool) (b : Bool) : trues (bits ++ [b]) = trues bits ++ if b then [bits.length] else [] := by
  unfold trues
  rw [List.length_append, List.length_singleton, List.range_succ, List.filter_append]
  congr 1
  · apply List.filter_congr
    intro i hi
    rw [List.mem_range] at hi
    rw [List.getElem?_append_left hi]
  · cases b <;> simp
theorem filter_cnt (f : Nat → Bool) : ∀ n, ((List.range n).filter f).length = cnt f n
  | 0 => rfl
  | n + 1 => by
    rw [List.range_succ, List.filter_append, List.length_append, filter_cnt f n]
    show _ = cnt f n + (f n).toNat
    cases h : f n <;> simp [h]
theorem trues_len (bits : List Bool) : (trues bits).length = cntB bits := by
  unfold trues
  rw [filter_cnt, cntB_all bits _ (Nat.le_refl _)]
def usedPg (size : Nat) (x : BM × Nat) : List Nat := (trues x.1.bits).map (addr size x.2)
/-- Where used places begin. -/
def CA.used (c : CA) : List Nat := c.pg.flatMap (usedPg c.size)
theorem used_len (c : CA) : c.used.length = (c.pg.map fun x => cntB x.1.bits).sum := by
  unfold CA.used
  rw [List.length_flatMap]
  congr 1
  apply List.map_congr_left
  intro x _
  simp [usedPg, trues_len]
theorem cntB_set_true {bits : List Bool} {i : Nat} (hi : i < bits.length) (h : bits[i]?.getD false = false) : cntB (bits.set i true) = cntB bits + 1 := by
  induction bits generalizing i with
  | nil => simp at hi
  | cons b r ih =>
    cases i with
    | zero => simp at h; subst h; simp [cntB]
    | succ i =>
      have := ih (i := i) (by simpa using hi) (by simpa using h)
      unfold cntB at this ⊢
      cases b <;> simp at this ⊢ <;> omega
theorem cntB_set_false {bits : List Bool} {i : Nat} (h : bits[i]?.getD false = true) : cntB (bits.set i false) + 1 = cntB bits := by
  induction bits generalizing i with
  | nil => simp at h
  | cons b r ih =>
    cases i with
    | zero => simp at h; subst h; simp [cntB]
    | succ i =>
      have := ih (i := i) (by simpa using h)
      unfold cntB at this ⊢
      cases b <;> simp at this ⊢ <;> omega
theorem sum_set {L : List Nat} {k : Nat} (a b : Nat) (h : L[k]? = some a) : (L.set k b).sum + a = L.sum + b := by
  induction L generalizing k with
  | nil => simp at h
  | cons x r ih =>
    cases k with
    | zero => simp at h; subst h; simp; omega
    | succ k => have := ih (k := k) (by simpa using h); simp; omega
theorem sum_erase {L : List Nat} {k : Nat} (a : Nat) (h : L[k]? = some a) : (L.eraseIdx k).sum + a = L.sum := by
  induction L generalizing k with
  | nil => simp at h
  | cons x r ih =>
    cases k with
    | zero => simp at h; subst h; simp; omega
    | succ k => have := ih (k := k) (by simpa using h); simp; omega
theorem mem_used {c : CA} {a : Nat} : a ∈ c.used ↔ ∃ x ∈ c.pg, ∃ i, x.1.bits[i]?.getD false = true ∧ a = addr c.size x.2 i := by
  unfold CA.used usedPg
  rw [List.mem_flatMap]
  constructor
  · rintro ⟨x, hx, ha⟩
    obtain ⟨i, hi, rfl⟩ := List.mem_map.1 ha
    exact ⟨x, hx, i, mem_trues.1 hi, rfl⟩
  · rintro ⟨x, hx, i, hi, rfl⟩
    exact ⟨x, hx, List.mem_map.2 ⟨i, mem_trues.2 hi, rfl⟩⟩
end Go.Proofs.YtcnbbenmlffgpaaGreatDoor
