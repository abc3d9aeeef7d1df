/- IrqBinds answers true at every input. No condition. -/
import Derived.Test.YtekgfdfganelmaaPure
import Derived.Test.YtekgfdfganelmaaAlive
namespace Go.Proofs.Ytekgfdfganelmaa
open Go.RowKit

theorem len_of_row {w : World} {base : Nat} {v : Value} {n : Nat} {xs : List Value} (h : w.ownsRow base 3 1 v n xs) : ∃ p cp, v = .slice p n cp := by
  rcases h.2 with ⟨rfl, rfl⟩ | ⟨g, cp, _, rfl, _⟩
  · exact ⟨_, _, rfl⟩
  · exact ⟨_, cp, rfl⟩
theorem get_set_same (L : List Int) (p : Nat) (x : Int) (h : p < L.length) : (L.set p x)[p]?.getD 0 = x := by simp [h]
theorem get_set_other (L : List Int) (p q : Nat) (x : Int) (h : p ≠ q) : (L.set p x)[q]?.getD 0 = L[q]?.getD 0 := by simp [List.getElem?_set_ne h]
theorem get_zero (q : Nat) : (List.replicate 16 (0 : Int))[q]?.getD 0 = 0 := by
  rw [List.getElem?_replicate]
  split <;> rfl

set_option maxHeartbeats 4000000 in
theorem binds_any (a b0 l o : Nat) (ha : a < 256) (hb : b0 < 256) (hl : l < 256) (ho : o < 256) (w : World) :
    Calls Try.prog 7 #[.int .u8 a, .int .u8 b0, .int .u8 l, .int .u8 o] w fun e w' => e = .returned (.bool true) ∧ Below w.heap.size w w' := by
  go_enter Try.func7, Try.ntmps7
  go_wp2_with fail
  refine (alive_any w).mono ?_
  rintro e w1 ⟨rfl, hb0⟩
  go_wp2_with fail
  rw [show ((l : Int) % 16) = ((l % 16 : Nat) : Int) from by omega, show ((o : Int) % 16) = ((o % 16 : Nat) : Int) from by omega, show ((b0 : Int) + 300) = ((b0 + 300 : Nat) : Int) from by omega]
  have hp : l % 16 < 16 := by omega
  have hq : o % 16 < 16 := by omega
  have hbb : b0 + 300 < 1000 := by omega
  have hab : a < b0 + 300 := by omega
  generalize l % 16 = p at hp ⊢
  generalize o % 16 = q at hq ⊢
  generalize b0 + 300 = b at hbb hab ⊢
  refine (new_any w1).mono ?_
  rintro e w2 ⟨c, m, rfl, hr, hch, hfp⟩
  have i0 : In w.heap.size w w2 c (G.new m) := ⟨hr, fun b hb => Nat.le_trans hb0.size (hfp b hb), hb0.trans ((hch.below (Nat.le_refl _) (fun _ h => h.elim)).mono hb0.size), Nat.le_trans hb0.size hch.size⟩
  clear hr hch hfp hb0
  have hne : ¬ ((b : Int) = a) := by omega
  have hne2 : ¬ ((a : Int) = b) := by omega
  go_wp2_with fail
  refine (add_ok i0.rep (id := a) (by omega) rfl).mono ?_
  rintro e w3 ⟨rfl, x, hp1⟩
  have i1 : In w.heap.size w w3 c ⟨m, [⟨a, x, ⟨-1, false, -1, 0, false⟩⟩], List.replicate 16 0, [], .slice none 0 0⟩ := i0.post hp1
  clear hp1 i0
  go_wp2_with fail
  refine (add_ok i1.rep (id := b) (by omega) (by simp [find, hne])).mono ?_
  rintro e w4 ⟨rfl, y, hp1⟩
  have i2 : In w.heap.size w w4 c ⟨m, [⟨a, x, ⟨-1, false, -1, 0, false⟩⟩, ⟨b, y, ⟨-1, false, -1, 0, false⟩⟩], List.replicate 16 0, [], .slice none 0 0⟩ := i1.post hp1
  clear hp1 i1
  go_wp2_with fail
  refine (bind_ok i2.rep (id := a) (e := ⟨a, x, ⟨-1, false, -1, 0, false⟩⟩) (by simp [find]) p hp rfl (get_zero p) (by omega) (by omega)).mono ?_
  rintro e w5 ⟨rfl, hp1⟩
  have i3 : In w.heap.size w w5 c ⟨m, [⟨a, x, ⟨p, false, -1, 0, false⟩⟩, ⟨b, y, ⟨-1, false, -1, 0, false⟩⟩], (List.replicate 16 0).set p (a + 1), [], .slice none 0 0⟩ := by
    have := i2.post hp1
    simpa [upd, hne] using this
  clear hp1 i2
  go_wp2_with fail
  refine (bind_state i3.rep (id := a) (e := ⟨a, x, ⟨p, false, -1, 0, false⟩⟩) (by simp [find]) q (by omega) (by omega) (by show ((p : Int)) ≠ -1; omega)).mono ?_
  rintro e w6 ⟨rfl, rfl⟩
  go_wp2_with fail
  refine (bind_twice i3.rep (id := b) (e := ⟨b, y, ⟨-1, false, -1, 0, false⟩⟩) (by simp [find, hne]) p hp rfl (by show ((List.replicate 16 (0 : Int)).set p (a + 1))[p]?.getD 0 ≠ 0; rw [get_set_same _ _ _ (by simpa using hp)]; omega)).mono ?_
  rintro e w6 ⟨rfl, rfl⟩
  go_wp2_with fail
  refine (bind_range i3.rep (id := b) (e := ⟨b, y, ⟨-1, false, -1, 0, false⟩⟩) (by simp [find, hne]) 16 (by decide)).mono ?_
  rintro e w6 ⟨rfl, rfl⟩
  have tail1 : ∃ t : Bool, ((p : Int) != q) = t ∧ (t = true → p ≠ q) := by
    by_cases h : p = q
    · exact ⟨false, by simp [h], by simp⟩
    · exact ⟨true, by simp; omega, fun _ => h⟩
  obtain ⟨t1, ht1, ht2⟩ := tail1
  have Ht2 : Hid (t1 = true → p ≠ q) := ht2
  clear ht2
  have tail2 : ∃ t : Bool, ((o : Int) % 2 == 0) = t := ⟨_, rfl⟩
  obtain ⟨t2, ht3⟩ := tail2
  have hl1 : ((List.replicate 16 (0 : Int)).set p (a + 1))[p]?.getD 0 = a + 1 := get_set_same _ _ _ (by simpa using hp)
  have Hl1 : Hid (((List.replicate 16 (0 : Int)).set p (a + 1))[p]?.getD 0 = a + 1) := hl1
  clear hl1
  cases t1
  all_goals
    go_wp2_with fail
  rotate_left
  · have hl2 : ((List.replicate 16 (0 : Int)).set p (a + 1))[q]?.getD 0 = 0 := by rw [get_set_other _ _ _ _ (by first | exact Ht2.out rfl | exact Ht2.out trivial)]; exact get_zero q
    refine (raise_none i3.rep q hq hl2).mono ?_
    rintro e w6 ⟨rfl, rfl⟩
    clear hl2
    go_wp2_with fail
    refine (raise_some i3.rep p hp a Hl1.out (by omega) (by omega) 0 _ (trigger_new i3.rep (id := a) (e := ⟨a, x, ⟨p, false, -1, 0, false⟩⟩) (by simp [find]) rfl (by exact (show (0 : Nat) < 1048576 by decide)))).mono ?_
    rintro e w6 ⟨rfl, rv, hp1⟩
    have i4 : In w.heap.size w w6 c ⟨m, [⟨a, x, ⟨p, false, -1, 0, true⟩⟩, ⟨b, y, ⟨-1, false, -1, 0, false⟩⟩], (List.replicate 16 0).set p (a + 1), [(a : Int)], rv⟩ := by
      have := i3.post hp1
      simpa [upd, hne] using this
    clear hp1 i3
    go_wp2_with fail
    refine (pending_any i4.rep (by exact (show (1 : Nat) ≤ 1048576 by decide))).mono ?_
    rintro e w7 ⟨v, rfl, ho, hg⟩
    have i5 := i4.grown (below_of_grown hg)
    have ho1 : w7.ownsRow w6.heap.size 3 1 v 1 ([(a : Int)].map (Value.int .i64)) := ho
    obtain ⟨pp, cp, rfl⟩ := len_of_row ho1
    clear ho ho1 hg i4
    go_wp2_with fail
    refine (line_some i5.rep (id := b) (e := ⟨b, y, ⟨-1, false, -1, 0, false⟩⟩) (by simp [find, hne])).mono ?_
    rintro e w8 ⟨rfl, rfl⟩
    cases t2
    · go_wp2_with fail
      refine (unbind_ok i5.rep (id := a) (e := ⟨a, x, ⟨p, false, -1, 0, true⟩⟩) (by simp [find]) p hp rfl).mono ?_
      rintro e w9 ⟨rfl, hp1⟩
      have i6 : In w.heap.size w w9 c ⟨m, [⟨a, x, ⟨-1, false, -1, 0, true⟩⟩, ⟨b, y, ⟨-1, false, -1, 0, false⟩⟩], ((List.replicate 16 (0 : Int)).set p (a + 1)).set p 0, [(a : Int)], rv⟩ := by
        have := i5.post hp1
        simpa [upd, hne] using this
      clear hp1 i5
      go_wp2_with fail
      refine (pending_any i6.rep (by exact (show (1 : Nat) ≤ 1048576 by decide))).mono ?_
      rintro e w10 ⟨v, rfl, ho, hg⟩
      have i8 := i6.grown (below_of_grown hg)
      have ho1 : w10.ownsRow w9.heap.size 3 1 v 1 ([(a : Int)].map (Value.int .i64)) := ho
      obtain ⟨pp, cp, rfl⟩ := len_of_row ho1
      clear ho ho1 hg i6
      go_wp2_with fail
      refine (raise_none i8.rep p hp (by exact get_set_same _ _ _ (by simpa using hp))).mono ?_
      rintro e w20 ⟨rfl, rfl⟩
      go_wp2_with fail
      refine (bind_ok i8.rep (id := b) (e := ⟨b, y, ⟨-1, false, -1, 0, false⟩⟩) (by simp [find, hne]) p hp rfl (by exact get_set_same _ _ _ (by simpa using hp)) (by omega) (by omega)).mono ?_
      rintro e w21 ⟨rfl, hp1⟩
      have i9 := i8.post hp1
      clear hp1 i8
      go_wp2_with fail
      refine (raise_some i9.rep p hp b (by exact get_set_same _ _ _ (by simpa using hp)) (by omega) (by omega) 0 _ (trigger_new i9.rep (id := b) (e := ⟨b, y, ⟨p, false, -1, 0, false⟩⟩) (by simp [find, upd, hne, hne2]) rfl (by simp))).mono ?_
      rintro e w22 ⟨rfl, rv3, hp1⟩
      have i10 := i9.post hp1
      clear hp1 i9
      go_wp2_with fail
      refine (line_some i10.rep (id := b) (e := ⟨b, y, ⟨p, false, -1, 0, true⟩⟩) (by simp [find, upd, hne, hne2])).mono ?_
      rintro e w23 ⟨rfl, rfl⟩
      go_wp2_with fail
      go_ret
      exact ⟨rfl, i10.bel⟩
    · go_wp2_with fail
      refine (remove_bound i5.rep (id := a) (e := ⟨a, x, ⟨p, false, -1, 0, true⟩⟩) (by simp [find]) p hp rfl (by exact (show (1 : Nat) ≤ 1048576 by decide))).mono ?_
      rintro e w9 ⟨rfl, rv2, hp1⟩
      have i6 : In w.heap.size w w9 c ⟨m, [⟨b, y, ⟨-1, false, -1, 0, false⟩⟩], ((List.replicate 16 (0 : Int)).set p (a + 1)).set p 0, [], rv2⟩ := by
        have := i5.post hp1
        simpa [rem, flt] using this
      clear hp1 i5
      go_wp2_with fail
      refine (pending_any i6.rep (by exact (show (0 : Nat) ≤ 1048576 by decide))).mono ?_
      rintro e w10 ⟨v, rfl, ho, hg⟩
      have i8 := i6.grown (below_of_grown hg)
      have ho1 : w10.ownsRow w9.heap.size 3 1 v 0 [] := ho
      obtain ⟨pp, cp, rfl⟩ := len_of_row ho1
      clear ho ho1 hg i6
      go_wp2_with fail
      refine (raise_none i8.rep p hp (by exact get_set_same _ _ _ (by simpa using hp))).mono ?_
      rintro e w20 ⟨rfl, rfl⟩
      go_wp2_with fail
      refine (bind_ok i8.rep (id := b) (e := ⟨b, y, ⟨-1, false, -1, 0, false⟩⟩) (by simp [find, hne]) p hp rfl (by exact get_set_same _ _ _ (by simpa using hp)) (by omega) (by omega)).mono ?_
      rintro e w21 ⟨rfl, hp1⟩
      have i9 := i8.post hp1
      clear hp1 i8
      go_wp2_with fail
      refine (raise_some i9.rep p hp b (by exact get_set_same _ _ _ (by simpa using hp)) (by omega) (by omega) 0 _ (trigger_new i9.rep (id := b) (e := ⟨b, y, ⟨p, false, -1, 0, false⟩⟩) (by simp [find, upd, hne, hne2]) rfl (by simp))).mono ?_
      rintro e w22 ⟨rfl, rv3, hp1⟩
      have i10 := i9.post hp1
      clear hp1 i9
      go_wp2_with fail
      refine (line_some i10.rep (id := b) (e := ⟨b, y, ⟨p, false, -1, 0, true⟩⟩) (by simp [find, upd, hne, hne2])).mono ?_
      rintro e w23 ⟨rfl, rfl⟩
      go_wp2_with fail
      go_ret
      exact ⟨rfl, i10.bel⟩
  · refine (raise_some i3.rep p hp a Hl1.out (by omega) (by omega) 0 _ (trigger_new i3.rep (id := a) (e := ⟨a, x, ⟨p, false, -1, 0, false⟩⟩) (by simp [find]) rfl (by exact (show (0 : Nat) < 1048576 by decide)))).mono ?_
    rintro e w6 ⟨rfl, rv, hp1⟩
    have i4 : In w.heap.size w w6 c ⟨m, [⟨a, x, ⟨p, false, -1, 0, true⟩⟩, ⟨b, y, ⟨-1, false, -1, 0, false⟩⟩], (List.replicate 16 0).set p (a + 1), [(a : Int)], rv⟩ := by
      have := i3.post hp1
      simpa [upd, hne] using this
    clear hp1 i3
    go_wp2_with fail
    refine (pending_any i4.rep (by exact (show (1 : Nat) ≤ 1048576 by decide))).mono ?_
    rintro e w7 ⟨v, rfl, ho, hg⟩
    have i5 := i4.grown (below_of_grown hg)
    have ho1 : w7.ownsRow w6.heap.size 3 1 v 1 ([(a : Int)].map (Value.int .i64)) := ho
    obtain ⟨pp, cp, rfl⟩ := len_of_row ho1
    clear ho ho1 hg i4
    go_wp2_with fail
    refine (line_some i5.rep (id := b) (e := ⟨b, y, ⟨-1, false, -1, 0, false⟩⟩) (by simp [find, hne])).mono ?_
    rintro e w8 ⟨rfl, rfl⟩
    cases t2
    · go_wp2_with fail
      refine (unbind_ok i5.rep (id := a) (e := ⟨a, x, ⟨p, false, -1, 0, true⟩⟩) (by simp [find]) p hp rfl).mono ?_
      rintro e w9 ⟨rfl, hp1⟩
      have i6 : In w.heap.size w w9 c ⟨m, [⟨a, x, ⟨-1, false, -1, 0, true⟩⟩, ⟨b, y, ⟨-1, false, -1, 0, false⟩⟩], ((List.replicate 16 (0 : Int)).set p (a + 1)).set p 0, [(a : Int)], rv⟩ := by
        have := i5.post hp1
        simpa [upd, hne] using this
      clear hp1 i5
      go_wp2_with fail
      refine (pending_any i6.rep (by exact (show (1 : Nat) ≤ 1048576 by decide))).mono ?_
      rintro e w10 ⟨v, rfl, ho, hg⟩
      have i8 := i6.grown (below_of_grown hg)
      have ho1 : w10.ownsRow w9.heap.size 3 1 v 1 ([(a : Int)].map (Value.int .i64)) := ho
      obtain ⟨pp, cp, rfl⟩ := len_of_row ho1
      clear ho ho1 hg i6
      go_wp2_with fail
      refine (raise_none i8.rep p hp (by exact get_set_same _ _ _ (by simpa using hp))).mono ?_
      rintro e w20 ⟨rfl, rfl⟩
      go_wp2_with fail
      refine (bind_ok i8.rep (id := b) (e := ⟨b, y, ⟨-1, false, -1, 0, false⟩⟩) (by simp [find, hne]) p hp rfl (by exact get_set_same _ _ _ (by simpa using hp)) (by omega) (by omega)).mono ?_
      rintro e w21 ⟨rfl, hp1⟩
      have i9 := i8.post hp1
      clear hp1 i8
      go_wp2_with fail
      refine (raise_some i9.rep p hp b (by exact get_set_same _ _ _ (by simpa using hp)) (by omega) (by omega) 0 _ (trigger_new i9.rep (id := b) (e := ⟨b, y, ⟨p, false, -1, 0, false⟩⟩) (by simp [find, upd, hne, hne2]) rfl (by simp))).mono ?_
      rintro e w22 ⟨rfl, rv3, hp1⟩
      have i10 := i9.post hp1
      clear hp1 i9
      go_wp2_with fail
      refine (line_some i10.rep (id := b) (e := ⟨b, y, ⟨p, false, -1, 0, true⟩⟩) (by simp [find, upd, hne, hne2])).mono ?_
      rintro e w23 ⟨rfl, rfl⟩
      go_wp2_with fail
      go_ret
      exact ⟨rfl, i10.bel⟩
    · go_wp2_with fail
      refine (remove_bound i5.rep (id := a) (e := ⟨a, x, ⟨p, false, -1, 0, true⟩⟩) (by simp [find]) p hp rfl (by exact (show (1 : Nat) ≤ 1048576 by decide))).mono ?_
      rintro e w9 ⟨rfl, rv2, hp1⟩
      have i6 : In w.heap.size w w9 c ⟨m, [⟨b, y, ⟨-1, false, -1, 0, false⟩⟩], ((List.replicate 16 (0 : Int)).set p (a + 1)).set p 0, [], rv2⟩ := by
        have := i5.post hp1
        simpa [rem, flt] using this
      clear hp1 i5
      go_wp2_with fail
      refine (pending_any i6.rep (by exact (show (0 : Nat) ≤ 1048576 by decide))).mono ?_
      rintro e w10 ⟨v, rfl, ho, hg⟩
      have i8 := i6.grown (below_of_grown hg)
      have ho1 : w10.ownsRow w9.heap.size 3 1 v 0 [] := ho
      obtain ⟨pp, cp, rfl⟩ := len_of_row ho1
      clear ho ho1 hg i6
      go_wp2_with fail
      refine (raise_none i8.rep p hp (by exact get_set_same _ _ _ (by simpa using hp))).mono ?_
      rintro e w20 ⟨rfl, rfl⟩
      go_wp2_with fail
      refine (bind_ok i8.rep (id := b) (e := ⟨b, y, ⟨-1, false, -1, 0, false⟩⟩) (by simp [find, hne]) p hp rfl (by exact get_set_same _ _ _ (by simpa using hp)) (by omega) (by omega)).mono ?_
      rintro e w21 ⟨rfl, hp1⟩
      have i9 := i8.post hp1
      clear hp1 i8
      go_wp2_with fail
      refine (raise_some i9.rep p hp b (by exact get_set_same _ _ _ (by simpa using hp)) (by omega) (by omega) 0 _ (trigger_new i9.rep (id := b) (e := ⟨b, y, ⟨p, false, -1, 0, false⟩⟩) (by simp [find, upd, hne, hne2]) rfl (by simp))).mono ?_
      rintro e w22 ⟨rfl, rv3, hp1⟩
      have i10 := i9.post hp1
      clear hp1 i9
      go_wp2_with fail
      refine (line_some i10.rep (id := b) (e := ⟨b, y, ⟨p, false, -1, 0, true⟩⟩) (by simp [find, upd, hne, hne2])).mono ?_
      rintro e w23 ⟨rfl, rfl⟩
      go_wp2_with fail
      go_ret
      exact ⟨rfl, i10.bel⟩
end Go.Proofs.Ytekgfdfganelmaa
