/- The document's example, as the statements of this layer ask it: it answers true, in whatever memory. No condition. -/
import Derived.Test.YtekgfdfganelmaaIrqI
import Derived.Test.YtekgfdfganelmaaSame
import Derived.Deep.RegionWith
namespace Go.Proofs.Ytekgfdfganelmaa
open Go.RowKit

/-- A controller all of whose blocks are new since w0 (from B on), and nothing below B has turned since. -/
structure In (B : Nat) (w0 w : World) (c : Nat) (g : G) : Prop where
  rep : Rep w c g
  own : ∀ b, fp c g b → B ≤ b
  bel : Below B w0 w
  le : B ≤ w.heap.size
theorem In.post {B : Nat} {w0 w w' : World} {c : Nat} {g g' : G} (h : In B w0 w c g) (p : Post c w g g' w') : In B w0 w' c g' :=
  ⟨p.1, fun b hb => by rcases p.2.2 b hb with h' | h'; exact h.own b h'; exact Nat.le_trans h.le h', h.bel.trans (p.2.1.below h.le h.own), Nat.le_trans h.le p.2.1.size⟩
theorem In.drew {B : Nat} {w0 w : World} {c : Nat} {g : G} (h : In B w0 w c g) : In B w0 w.drew c g := ⟨h.rep.drew, h.own, h.bel.drew, h.le⟩
theorem In.alloc {B : Nat} {w0 w : World} {c : Nat} {g : G} (h : In B w0 w c g) (o : Obj) : In B w0 (w.alloc o) c g := ⟨h.rep.alloc o, h.own, h.bel.alloc h.le o, by simp; have := h.le; omega⟩
theorem In.grown {B : Nat} {w0 w w' : World} {c : Nat} {g : G} (h : In B w0 w c g) (hb : Below w.heap.size w w') : In B w0 w' c g :=
  ⟨h.rep.same fun b hb' => hb.block b (h.rep.lt hb'), h.own, h.bel.trans (hb.mono h.le), Nat.le_trans h.le hb.size⟩
theorem below_of_grown {w w' : World} (h : w.grownBy w' none) : Below w.heap.size w w' := (Below.refl _ _).grown h (Nat.le_refl _) (fun k e => by cases e)
theorem below_of_chg {w w' : World} (h : Chg (fun _ => False) w w') : Below w.heap.size w w' := h.below (Nat.le_refl _) (fun _ h => h.elim)

theorem mask_new {w : World} {c : Nat} {g : G} (h : Rep w c g) (on : Bool) (l : List Int) (hlen : l.length ≤ 1048576) :
    Calls Try.prog 13 #[.pointer (some ⟨c, 0, none⟩), .bool on, .slice (some ⟨w.heap.size, 0, none⟩) l.length l.length] (w.alloc (.cells (l.map (Value.int .i64)).toArray 3)) (MaskPost on l c (w.alloc (.cells (l.map (Value.int .i64)).toArray 3)) g) := by
  refine mask_any (h.alloc _) on l w.heap.size 0 l.length ?_ (by simp) (fun hf => by have := h.lt hf; omega) hlen
  intro j hj
  rw [Nat.zero_add]
  exact (Cells.new w 3 (l.map (Value.int .i64))).cell j _ (by simp [hj])

set_option maxHeartbeats 2000000 in
theorem alive_any (w : World) : Calls Try.prog 8 #[] w fun e w' => e = .returned (.bool true) ∧ Below w.heap.size w w' := by
  go_enter Try.func8, Try.ntmps8
  go_wp2_with fail
  refine (new_any w).mono ?_
  rintro e w1 ⟨c, m, rfl, hr, hch, hfp⟩
  have i0 : In w.heap.size w w1 c (G.new m) := ⟨hr, hfp, hch.below (Nat.le_refl _) (fun _ h => h.elim), hch.size⟩
  clear hr hch hfp
  go_wp2_with fail
  refine (add_ok i0.rep (id := 3) (by decide) rfl).mono ?_
  rintro e w2 ⟨rfl, b, hp⟩
  have i1 : In w.heap.size w w2 c ⟨m, [⟨3, b, ⟨-1, false, -1, 0, false⟩⟩], List.replicate 16 0, [], .slice none 0 0⟩ := i0.post hp
  clear hp i0
  go_wp2_with fail
  refine (bind_ok i1.rep (id := 3) (e := ⟨3, b, ⟨-1, false, -1, 0, false⟩⟩) rfl 2 (by decide) rfl rfl (by decide) (by decide)).mono ?_
  rintro e w3 ⟨rfl, hp⟩
  have i2 : In w.heap.size w w3 c ⟨m, [⟨3, b, ⟨2, false, -1, 0, false⟩⟩], (List.replicate 16 0).set 2 4, [], .slice none 0 0⟩ := i1.post hp
  clear hp i1
  go_wp2_with fail
  refine (attach_ok i2.rep (id := 3) (e := ⟨3, b, ⟨2, false, -1, 0, false⟩⟩) rfl 7 (by decide)).mono ?_
  rintro e w4 ⟨rfl, hp⟩
  have i3 : In w.heap.size w w4 c ⟨m, [⟨3, b, ⟨2, false, 7, 0, false⟩⟩], (List.replicate 16 0).set 2 4, [], .slice none 0 0⟩ := i2.post hp
  clear hp i2
  go_wp2_with fail
  refine (raise_some i3.rep 2 (by decide) 3 rfl (by decide) (by decide) 0 _ (trigger_new i3.rep (id := 3) (e := ⟨3, b, ⟨2, false, 7, 0, false⟩⟩) rfl rfl (show (0 : Nat) < 1048576 by decide))).mono ?_
  rintro e w5 ⟨rfl, rv, hp⟩
  have i4 : In w.heap.size w w5 c ⟨m, [⟨3, b, ⟨2, false, 7, 0, true⟩⟩], (List.replicate 16 0).set 2 4, [3], rv⟩ := i3.post hp
  clear hp i3
  go_wp2_with fail
  refine (raise_some i4.rep 2 (by decide) 3 rfl (by decide) (by decide) 0 _ (trigger_lost i4.rep (id := 3) (e := ⟨3, b, ⟨2, false, 7, 0, true⟩⟩) rfl rfl (show (0 : Int) ≤ 0 by decide) (show (0 : Int) < 4611686018427387904 by decide))).mono ?_
  rintro e w6 ⟨rfl, hp⟩
  have i5 : In w.heap.size w w6 c ⟨m, [⟨3, b, ⟨2, false, 7, 1, true⟩⟩], (List.replicate 16 0).set 2 4, [3], rv⟩ := i4.post hp
  clear hp i4
  go_wp2_with fail
  refine (first_any c _ 7 (by intro id hid; simp at hid; subst hid; exact ⟨_, rfl⟩) (by exact (show (1 : Nat) ≤ 1048576 by decide)) _ i5.rep).mono ?_
  rintro e w7 ⟨rfl, hb⟩
  have i6 := i5.grown hb
  clear hb i5
  have e1 : (rl ⟨m, [⟨3, b, ⟨2, false, 7, 1, true⟩⟩], (List.replicate 16 0).set 2 4, [3], rv⟩ 7).headD (-1) = 3 := rfl
  rw [e1]
  clear e1
  go_wp2_with fail
  refine (lost_some i6.rep (id := 3) (e := ⟨3, b, ⟨2, false, 7, 1, true⟩⟩) rfl).mono ?_
  rintro e w8 ⟨rfl, rfl⟩
  go_wp2_with fail
  refine (mask_new i6.rep true [3] (by decide)).mono ?_
  rintro e w8 ⟨rfl, hp⟩
  have i7 : In w.heap.size w w8 c ⟨m, [⟨3, b, ⟨2, true, 7, 1, true⟩⟩], (List.replicate 16 0).set 2 4, [3], rv⟩ := (i6.alloc _).post hp
  clear hp i6
  have e1 : (mall true [3] [⟨3, b, ⟨2, false, 7, 1, true⟩⟩] 0).2 = 1 := rfl
  rw [e1]
  clear e1
  go_wp2_with fail
  refine (first_any c _ 7 (by intro id hid; simp at hid; subst hid; exact ⟨_, rfl⟩) (by exact (show (1 : Nat) ≤ 1048576 by decide)) _ i7.rep).mono ?_
  rintro e w9 ⟨rfl, hb⟩
  have i8 := i7.grown hb
  clear hb i7
  have e1 : (rl ⟨m, [⟨3, b, ⟨2, true, 7, 1, true⟩⟩], (List.replicate 16 0).set 2 4, [3], rv⟩ 7).headD (-1) = -1 := rfl
  rw [e1]
  clear e1
  go_wp2_with fail
  refine (take_state i8.rep (id := 3) (e := ⟨3, b, ⟨2, true, 7, 1, true⟩⟩) rfl rfl).mono ?_
  rintro e w10 ⟨rfl, rfl⟩
  go_wp2_with fail
  refine (mask_new i8.rep false [3, 3] (by decide)).mono ?_
  rintro e w10 ⟨rfl, hp⟩
  have i9 : In w.heap.size w w10 c ⟨m, [⟨3, b, ⟨2, false, 7, 1, true⟩⟩], (List.replicate 16 0).set 2 4, [3], rv⟩ := (i8.alloc _).post hp
  clear hp i8
  have e1 : (mall false [3, 3] [⟨3, b, ⟨2, true, 7, 1, true⟩⟩] 0).2 = 1 := rfl
  rw [e1]
  clear e1
  go_wp2_with fail
  refine (pending_any i9.rep (by exact (show (1 : Nat) ≤ 1048576 by decide))).mono ?_
  rintro e w11 ⟨v, rfl, ho, hg⟩
  have i10 := i9.grown (below_of_grown hg)
  clear hg i9
  go_wp2_with fail
  have hs : (w11.alloc (.cells #[.int .i64 3] 3)).ownsRow 0 3 1 (.slice (some ⟨w11.heap.size, 0, none⟩) 1 1) 1 [.int .i64 3] :=
    ⟨rfl, .inr ⟨w11.heap.size, 1, #[.int .i64 3], rfl, Nat.zero_le _, Cells.new w11 3 [.int .i64 3], Nat.le_refl _, by unfold maxLen; omega, rfl, rfl⟩⟩
  refine (same_any _ v _ [3] [3] _ 0 (ho.alloc _) hs (by decide) (by decide)).mono ?_
  rintro e w12 ⟨rfl, hc⟩
  have i11 := (i10.alloc (.cells #[.int .i64 3] 3)).grown (below_of_chg hc)
  clear hc i10 ho hs
  have e1 : decide (([3] : List Int) = [3]) = true := rfl
  rw [e1]
  clear e1
  go_wp2_with fail
  refine (take_ok i11.rep (id := 3) (e := ⟨3, b, ⟨2, false, 7, 1, true⟩⟩) rfl rfl (by exact (show (1 : Nat) ≤ 1048576 by decide))).mono ?_
  rintro e w13 ⟨rfl, rv2, hp⟩
  have i12 : In w.heap.size w w13 c ⟨m, [⟨3, b, ⟨2, false, 7, 1, false⟩⟩], (List.replicate 16 0).set 2 4, [], rv2⟩ := i11.post hp
  clear hp i11
  go_wp2_with fail
  refine (line_some i12.rep (id := 3) (e := ⟨3, b, ⟨2, false, 7, 1, false⟩⟩) rfl).mono ?_
  rintro e w14 ⟨rfl, rfl⟩
  go_wp2_with fail
  refine (owner_some i12.rep (id := 3) (e := ⟨3, b, ⟨2, false, 7, 1, false⟩⟩) rfl).mono ?_
  rintro e w14 ⟨rfl, rfl⟩
  go_wp2_with fail
  refine (trigger_none i12.rep (id := 4) rfl).mono ?_
  rintro e w14 ⟨rfl, rfl⟩
  go_wp2_with fail
  refine (raise_range c 16 (by decide)).mono ?_
  rintro e w14 ⟨rfl, rfl⟩
  go_wp2_with fail
  go_ret
  exact ⟨rfl, i12.bel⟩
end Go.Proofs.Ytekgfdfganelmaa
