/- IrqActs's walk: it answers true at every input. Conditions: the acts read as what they are. -/
import Derived.Test.YtekgfdfganelmaaActsI
import Derived.Test.YtekgfdfganelmaaNil
import Derived.Test.YtekgfdfganelmaaCountX
import Derived.Deep.RegionHeld3
namespace Go.Proofs.Ytekgfdfganelmaa
open Go.RowKit

theorem same_self (w : World) (a b : Value) (xs : List Int) (ba bb : Nat) (ha : w.ownsRow ba 3 1 a xs.length (xs.map (Value.int .i64))) (hb : w.ownsRow bb 3 1 b xs.length (xs.map (Value.int .i64))) (hl : xs.length ≤ 1048576) :
    Calls Try.prog 27 #[a, b] w fun e w' => e = .returned (.bool true) ∧ Below w.heap.size w w' := by
  refine (same_any w a b xs xs ba bb ha hb (by omega) (by omega)).mono ?_
  rintro e w' ⟨rfl, hc⟩
  exact ⟨by simp, below_of_chg hc⟩
theorem ref_new (w : World) : RRep (w.alloc (.cells (Array.mk [.slice none 0 0, .slice none 0 0]) 42)) w.heap.size ⟨[], [], .slice none 0 0, .slice none 0 0⟩ where
  ctl := Cells.new w 42 [.slice none 0 0, .slice none 0 0]
  recs := ⟨rfl, .inl ⟨rfl, rfl⟩⟩
  row := ⟨rfl, .inl ⟨rfl, rfl⟩⟩

set_option maxHeartbeats 4000000 in
set_option maxRecDepth 100000 in
theorem acts_any (w : World) (a0 : Option Addr) (len cap : Nat) (A : Nat → ActD) (hA : IsActs w a0 len A) (hid : ∀ j, j < len → (A j).id ≤ 9223372036854775807) :
    Calls Try.prog 5 #[.slice a0 len cap] w fun e w' => e = .returned (.bool true) ∧ Below w.heap.size w w' := by
  have HA : Hid (IsActs w a0 len A) := hA
  have HI := hidden hid
  clear hid
  go_enter Try.func5, Try.ntmps5
  go_wp2_with fail
  refine (alive_any w).mono ?_
  rintro e w1 ⟨rfl, hb0⟩
  have hA1 : IsActs w1 a0 len A := by
    intro j hj
    obtain ⟨gb, go, h1, h2, c0, c1, c2, c3, h4⟩ := hA j hj
    refine ⟨gb, go, h1, Nat.lt_of_lt_of_le h2 hb0.size, (hb0.cell (p := ⟨gb, go + j * 4, none⟩) h2).trans c0, (hb0.cell (p := ⟨gb, go + j * 4 + 1, none⟩) h2).trans c1, (hb0.cell (p := ⟨gb, go + j * 4 + 2, none⟩) h2).trans c2, (hb0.cell (p := ⟨gb, go + j * 4 + 3, none⟩) h2).trans c3, fun i hi => ?_⟩
    obtain ⟨gl, gof, h5, h6, h7⟩ := h4 i hi
    exact ⟨gl, gof, h5, Nat.lt_of_lt_of_le h6 hb0.size, (hb0.cell (p := ⟨gl, gof + i, none⟩) h6).trans h7⟩
  have hfew := few_any w1 a0 len cap A hA1
  clear hA hA1
  go_wp2_with fail
  refine hfew.mono ?_
  clear hfew
  rintro e w1' ⟨⟨rfl, h150, h30⟩ | rfl, rfl⟩
  case inr =>
    go_wp2_with fail
    go_ret
    exact ⟨rfl, hb0⟩
  case inl =>
    have H30 : Hid (∀ j, j < len → (A j).ln ≤ 30) := h30
    clear h30
    go_wp2_with fail
    refine (nil_add _ _ 0).mono ?_
    rintro e w' ⟨rfl, rfl⟩
    go_wp2_with fail
    refine (nil_remove _ _ 0).mono ?_
    rintro e w' ⟨rfl, rfl⟩
    go_wp2_with fail
    refine (nil_bind _ _ _).mono ?_
    rintro e w' ⟨rfl, rfl⟩
    go_wp2_with fail
    refine (nil_unbind _ _ 0).mono ?_
    rintro e w' ⟨rfl, rfl⟩
    go_wp2_with fail
    refine (nil_attach _ _ _).mono ?_
    rintro e w' ⟨rfl, rfl⟩
    go_wp2_with fail
    refine (nil_mask _ _ _ ((Cells.new _ 3 [.int .i64 1]).cell 0 _ rfl)).mono ?_
    rintro e w' ⟨rfl, rfl⟩
    have hb1 := hb0.alloc hb0.size (.cells #[.int .i64 1] 3)
    clear hb0
    go_wp2_with fail
    refine (nil_raise _ _ 0).mono ?_
    rintro e w' ⟨rfl, rfl⟩
    go_wp2_with fail
    refine (nil_trigger _ _ 0).mono ?_
    rintro e w' ⟨rfl, rfl⟩
    go_wp2_with fail
    refine (nil_first _ _).mono ?_
    rintro e w2 ⟨rfl, hb2⟩
    have hb0 : Below w.heap.size w w2 := hb1.trans (hb2.mono hb1.size)
    clear hb1 hb2
    go_wp2_with fail
    refine (nil_take _ _ 0).mono ?_
    rintro e w' ⟨rfl, rfl⟩
    go_wp2_with fail
    refine (nil_pending _ 0 0).mono ?_
    rintro e w' ⟨rfl, rfl⟩
    go_wp2_with fail
    refine (nil_lost _ _ 0).mono ?_
    rintro e w' ⟨rfl, rfl⟩
    go_wp2_with fail
    refine (nil_line _ _ 0).mono ?_
    rintro e w' ⟨rfl, rfl⟩
    go_wp2_with fail
    refine (nil_owner _ _ 0).mono ?_
    rintro e w' ⟨rfl, rfl⟩
    go_wp2_with fail
    refine (new_any w2).mono ?_
    rintro e w3 ⟨c, m, rfl, hr, hch, hfp⟩
    have i0 : In w.heap.size w w3 c (G.new m) := ⟨hr, fun b hb => Nat.le_trans hb0.size (hfp b hb), hb0.trans ((hch.below (Nat.le_refl _) (fun _ h => h.elim)).mono hb0.size), Nat.le_trans hb0.size hch.size⟩
    have H3 : Hid (AR w.heap.size w (w3.alloc (.cells (Array.mk [.slice none 0 0, .slice none 0 0]) 42)) c m w3.heap.size 0 []) := by
      refine ⟨[], List.replicate 16 0, [], .slice none 0 0, .slice none 0 0, .slice none 0 0, ⟨i0.alloc _, ref_new w3, ?_, ?_, by simp⟩, SI.new⟩
      · rintro b (rfl | hb | hb)
        · exact i0.le
        · cases hb
        · cases hb
      · rintro b hb (rfl | hb' | hb')
        · have := i0.rep.lt hb; simp at this
        · cases hb'
        · cases hb'
    clear i0 hr hch hfp hb0
    go_wp2_with fail
    generalize hw4 : w3.alloc (.cells (Array.mk [.slice none 0 0, .slice none 0 0]) 42) = w4 at H3
    clear hw4
    generalize w3.heap.size = r at H3 ⊢
    go_loopw [6] (fun iv wr => ∃ i : Nat, iv = .int .i64 i ∧ i ≤ len ∧ AR w.heap.size w wr c m r i []) (fun iv _ => len - (intOf iv).toNat)
    case atStart => exact ⟨0, rfl, Nat.zero_le _, H3.out⟩
    case round =>
      clear H3
      obtain ⟨i, rfl, hi, hAR⟩ := hrel
      by_cases hlt : i < len
      · obtain ⟨gb, go, rfl, hgb, c0, c1, c2, c3, hl⟩ := HA.out i hlt
        have hln := H30.out i hlt
        have hidi := HI.out i hlt
        have d0 := (hAR.bel.1.cell (p := ⟨gb, go + i * 4, none⟩) hgb).trans c0
        have d1 := (hAR.bel.1.cell (p := ⟨gb, go + i * 4 + 1, none⟩) hgb).trans c1
        have d2 := (hAR.bel.1.cell (p := ⟨gb, go + i * 4 + 2, none⟩) hgb).trans c2
        have d3 := (hAR.bel.1.cell (p := ⟨gb, go + i * 4 + 3, none⟩) hgb).trans c3
        generalize A i = act at d0 d1 d2 d3 hl hln hidi
        obtain ⟨kind, id, nn, la, ln, lcap, z⟩ := act
        dsimp only at d0 d1 d2 d3 hl hln hidi
        have HD := hidden (does_any (hAR.alloc (.cells (Array.mk [.int .i64 kind, .int .i64 id, .int .i64 nn, .slice la ln lcap]) 44)) (by omega) (Nat.le_refl _) kind id nn hidi la ln lcap (by omega) z hl)
        clear c0 c1 c2 c3 hl hAR hidi
        go_wp2_with fail
        refine HD.out.mono ?_
        clear HD
        rintro e w5 ⟨⟨x, rfl⟩, hR⟩
        obtain ⟨E, L, row, rv, lv, rv2, hT, hS⟩ := hR
        clear d0 d1 d2 d3
        have HS := hidden hS
        have hl1000 : i + 1 ≤ 1000 := by omega
        have hrow : row.length ≤ 1048576 := by have := hS.lenR; omega
        have HN := hidden (show ∀ w1 w2 : World, Two w.heap.size w w1 c r ⟨m, E, L, row, rv⟩ ⟨img E, row, lv, rv2⟩ ((wr.heap.size, .cells (Array.mk [.int .i64 kind, .int .i64 id, .int .i64 nn, .slice la ln lcap]) 44) :: []) → Below w1.heap.size w1 w2 →
            Two w.heap.size w w2 c r ⟨m, E, L, row, rv⟩ ⟨img E, row, lv, rv2⟩ ((wr.heap.size, .cells (Array.mk [.int .i64 kind, .int .i64 id, .int .i64 nn, .slice la ln lcap]) 44) :: []) ∧
            w2.cell? ⟨wr.heap.size, 1, none⟩ = some (.int .i64 id) ∧ w2.cell? ⟨wr.heap.size, 2, none⟩ = some (.int .i64 nn) ∧ w2.cell? ⟨r, 1, none⟩ = some rv2 from fun w1 w2 h1 hb => by
              have h2 := h1.grown hb
              exact ⟨h2, box_cells h2.kept 1 _ rfl, box_cells h2.kept 2 _ rfl, h2.rrep.ctl.cell 1 _ rfl⟩)
        have H26 := hidden (show ∀ w1, Two w.heap.size w w1 c r ⟨m, E, L, row, rv⟩ ⟨img E, row, lv, rv2⟩ ((wr.heap.size, .cells (Array.mk [.int .i64 kind, .int .i64 id, .int .i64 nn, .slice la ln lcap]) 44) :: []) → _ from fun w1 h1 => rof_any h1 hS hl1000 id)
        have H16 := hidden (show ∀ w1, Two w.heap.size w w1 c r ⟨m, E, L, row, rv⟩ ⟨img E, row, lv, rv2⟩ ((wr.heap.size, .cells (Array.mk [.int .i64 kind, .int .i64 id, .int .i64 nn, .slice la ln lcap]) 44) :: []) → _ from fun w1 h1 => pfirst_any h1 hS hl1000 nn)
        have H28 := hidden (show ∀ w1, Two w.heap.size w w1 c r ⟨m, E, L, row, rv⟩ ⟨img E, row, lv, rv2⟩ ((wr.heap.size, .cells (Array.mk [.int .i64 kind, .int .i64 id, .int .i64 nn, .slice la ln lcap]) 44) :: []) → _ from fun w1 h1 => rfirst_any h1 hS hl1000 nn)
        have H15 := hidden (show ∀ w1, Two w.heap.size w w1 c r ⟨m, E, L, row, rv⟩ ⟨img E, row, lv, rv2⟩ ((wr.heap.size, .cells (Array.mk [.int .i64 kind, .int .i64 id, .int .i64 nn, .slice la ln lcap]) 44) :: []) → _ from fun w1 h1 => lost_any h1.inn.rep id)
        have H23 := hidden (show ∀ w1, Two w.heap.size w w1 c r ⟨m, E, L, row, rv⟩ ⟨img E, row, lv, rv2⟩ ((wr.heap.size, .cells (Array.mk [.int .i64 kind, .int .i64 id, .int .i64 nn, .slice la ln lcap]) 44) :: []) → _ from fun w1 h1 => line_any h1.inn.rep id)
        have H24 := hidden (show ∀ w1, Two w.heap.size w w1 c r ⟨m, E, L, row, rv⟩ ⟨img E, row, lv, rv2⟩ ((wr.heap.size, .cells (Array.mk [.int .i64 kind, .int .i64 id, .int .i64 nn, .slice la ln lcap]) 44) :: []) → _ from fun w1 h1 => own_any h1.inn.rep id)
        have HE := hidden (show ∀ w1, Two w.heap.size w w1 c r ⟨m, E, L, row, rv⟩ ⟨img E, row, lv, rv2⟩ ((wr.heap.size, .cells (Array.mk [.int .i64 kind, .int .i64 id, .int .i64 nn, .slice la ln lcap]) 44) :: []) → AR w.heap.size w w1 c m r (i + 1) [] from fun w1 h1 => ⟨E, L, row, rv, lv, rv2, h1.tail, hS⟩)
        have HQ := hidden (show ∀ (w1 w2 : World) (v : Value), Two w.heap.size w w2 c r ⟨m, E, L, row, rv⟩ ⟨img E, row, lv, rv2⟩ ((wr.heap.size, .cells (Array.mk [.int .i64 kind, .int .i64 id, .int .i64 nn, .slice la ln lcap]) 44) :: []) → w2.ownsRow w1.heap.size 3 1 v row.length (row.map (Value.int .i64)) → _ from fun w1 w2 v h2 ho => same_self w2 v rv2 row _ _ ho h2.rrep.row hrow)
        have HP := hidden (show ∀ w1, Two w.heap.size w w1 c r ⟨m, E, L, row, rv⟩ ⟨img E, row, lv, rv2⟩ ((wr.heap.size, .cells (Array.mk [.int .i64 kind, .int .i64 id, .int .i64 nn, .slice la ln lcap]) 44) :: []) → _ from fun w1 h1 => pending_any h1.inn.rep hrow)
        clear hS HS hrow hl1000
        obtain ⟨hT0, k1, k2, kr⟩ := HN.out _ _ hT (Below.refl _ _)
        clear hT
        generalize hlost : lostV E id = xl at H26 H15
        generalize hline : lineV E id = xi at H26 H23
        generalize hown : ownV E id = xo at H26 H24
        generalize hfst : fstG E row nn = xf at H16 H28
        clear hlost hline hown hfst
        generalize img E = LL at *
        have hx1 : (x != x) = false := by simp
        have hx2 : (xl != xl) = false := by simp
        have hx3 : (xi != xi) = false := by simp
        have hx4 : (xo != xo) = false := by simp
        have hx5 : (xf != xf) = false := by simp
        go_wp2_with fail
        refine (H26.out _ hT0).mono ?_
        rintro e w6 ⟨rfl, hb⟩
        obtain ⟨hT1, k3, k4, kr2⟩ := HN.out _ _ hT0 hb
        clear hT0 k1 k2 kr hb
        go_wp2_with fail
        obtain ⟨hTd, d1, d2, d3⟩ := HN.out w6 w6.drew hT1 (below_drewN w6 1)
        go_region_held3 (fun w' => w'.cell? ⟨wr.heap.size, 1, none⟩ = some (.int .i64 id) ∧ w'.cell? ⟨wr.heap.size, 2, none⟩ = some (.int .i64 nn) ∧ w'.cell? ⟨r, 1, none⟩ = some rv2)
          (first | exact ⟨k3, k4, kr2⟩ | exact ⟨d1, d2, d3⟩ | exact ⟨a71, a72, a73⟩ | exact ⟨a81, a82, a83⟩ | exact ⟨a91, a92, a93⟩ | exact ⟨a101, a102, a103⟩)
          (first
          | (go_at_call 17; refine (HP.out _ hTd).mono ?_; rintro e w7 ⟨v7, rfl, ho7, hg7⟩; obtain ⟨hT7, a71, a72, a73⟩ := HN.out _ _ hTd (below_of_grown hg7); clear hg7)
          | (go_at_call 27; refine (HQ.out _ _ _ hT7 ho7).mono ?_; rintro e w8 ⟨rfl, hb8⟩; obtain ⟨hT8, a81, a82, a83⟩ := HN.out _ _ hT7 hb8; clear hb8)
          | (go_at_call 16; refine (H16.out _ hT8).mono ?_; rintro e w9 ⟨rfl, hb9⟩; obtain ⟨hT9, a91, a92, a93⟩ := HN.out _ _ hT8 hb9; clear hb9)
          | (go_at_call 28; refine (H28.out _ hT9).mono ?_; rintro e w10 ⟨rfl, hb10⟩; obtain ⟨hT10, a101, a102, a103⟩ := HN.out _ _ hT9 hb10; clear hb10)
          | (go_at_call 15; refine (H15.out _ hT10).mono ?_; rintro e w11 ⟨rfl, rfl⟩)
          | (go_at_call 23; refine (H23.out _ hT10).mono ?_; rintro e w12 ⟨rfl, rfl⟩)
          | (go_at_call 24; refine (H24.out _ hT10).mono ?_; rintro e w13 ⟨rfl, rfl⟩))
        all_goals go_wp2_with fail
        all_goals go_roundw
        all_goals first
          | exact ⟨i + 1, by go_num, by omega, HE.out _ hT10⟩
          | ((repeat apply Exists.intro); exact ⟨⟨i + 1, by go_num, by omega, HE.out _ hT10⟩, rfl⟩)
          | (simp [intOf]; omega)
      · obtain rfl : i = len := by omega
        go_wp2_with fail
        go_ret
        exact ⟨rfl, hAR.bel.1⟩
end Go.Proofs.Ytekgfdfganelmaa
