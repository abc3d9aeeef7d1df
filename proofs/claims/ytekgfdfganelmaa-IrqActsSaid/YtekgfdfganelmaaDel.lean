/- slices.DeleteFunc at []int, with a predicate that holds at one number. Conditions: the slice owns its block. -/
import Derived.Test.YtekgfdfganelmaaBase
import Derived.Maps.AppendAt
namespace Go.Proofs.Ytekgfdfganelmaa
open Go.RowKit

set_option maxHeartbeats 400000 in
theorem off1_any (x id : Int) (b : Nat) (w : World) (h : w.cell? ⟨b, 0, none⟩ = some (.int .i64 id)) :
    Calls Try.prog 49 #[.int .i64 x, .pointer (some ⟨b, 0, none⟩)] w fun e w' => e = .returned (.bool (x == id)) ∧ w = w' := by
  go_enter Try.func49, Try.ntmps49
  go_wp2
  go_ret
  exact ⟨rfl, rfl⟩

/-- What IndexFunc tells: the first place at which id stands, or -1. -/
def Index (xs : List Int) (id : Int) (e : Ending) : Prop :=
  (∃ k : Nat, k < xs.length ∧ e = .returned (.int .i64 k) ∧ xs[k]?.getD 0 = id ∧ ∀ j, j < k → xs[j]?.getD 0 ≠ id) ∨ (e = .returned (.int .i64 (-1)) ∧ ∀ j, j < xs.length → xs[j]?.getD 0 ≠ id)

def pred (b : Nat) : Value := .func (.func 49) #[] #[.pointer (some ⟨b, 0, none⟩)]

set_option maxHeartbeats 1000000 in
theorem index_nil (id : Int) (b : Nat) (w : World) (h : w.cell? ⟨b, 0, none⟩ = some (.int .i64 id)) :
    Calls Try.prog 54 #[.slice none 0 0, pred b] w fun e w' => e = .returned (.int .i64 (-1)) ∧ w = w' := by
  unfold pred
  go_enter Try.func54, Try.ntmps54
  go_wp2_with fail
  go_loop [5, 8] (fun _ k => k = .int .i64 0) (fun _ _ => 0)
  case atStart => rfl
  case round =>
    obtain rfl := hrel
    go_wp2_with fail
    go_ret
    exact ⟨rfl, rfl⟩

set_option maxHeartbeats 1000000 in
theorem index_some (xs : List Int) (id : Int) (b g cap : Nat) (w : World) (h : w.cell? ⟨b, 0, none⟩ = some (.int .i64 id)) (hm : xs.length ≤ 4611686018427387904)
    (hc : ∀ k, k < xs.length → w.cell? ⟨g, k, none⟩ = some (.int .i64 (xs[k]?.getD 0))) :
    Calls Try.prog 54 #[.slice (some ⟨g, 0, none⟩) xs.length cap, pred b] w fun e w' => Index xs id e ∧ w = w' := by
  unfold pred
  go_enter Try.func54, Try.ntmps54
  go_wp2_with fail
  go_loop [5, 8] (fun _ i => ∃ k : Nat, k ≤ xs.length ∧ i = .int .i64 k ∧ ∀ j, j < k → xs[j]?.getD 0 ≠ id) (fun _ i => xs.length - (intOf i).toNat)
  case atStart => exact ⟨0, Nat.zero_le _, rfl, by intro j hj; omega⟩
  case round =>
    obtain ⟨k, hk, rfl, hpre⟩ := hrel
    have Hp : Hid (∀ j, j < k → xs[j]?.getD 0 ≠ id) := hpre
    clear hpre
    by_cases hlt : k < xs.length
    · have hck := hc k hlt
      have hh := h
      clear hc h
      generalize hx : xs[k]?.getD 0 = x at hck
      have Hx : Hid (xs[k]?.getD 0 = x) := hx
      clear hx
      by_cases hx : x = id
      · have hb : (x == id) = true := by simpa using hx
        have Hxi : Hid (x = id) := hx
        clear hx
        go_wp2_with (go_at_call 49; refine (off1_any _ id b _ hh).mono ?_; rintro e w' ⟨rfl, rfl⟩)
        go_ret
        exact ⟨.inl ⟨k, hlt, rfl, Hx.out.trans Hxi.out, Hp.out⟩, rfl⟩
      · have hb : (x == id) = false := by simpa using hx
        have Hxi : Hid (x ≠ id) := hx
        clear hx
        go_wp2_with (go_at_call 49; refine (off1_any _ id b _ hh).mono ?_; rintro e w' ⟨rfl, rfl⟩)
        go_round
        case rel =>
          refine ⟨k + 1, by omega, by go_num, fun j hj => ?_⟩
          by_cases e : j = k
          · subst e; rw [Hx.out]; exact Hxi.out
          · exact Hp.out j (by omega)
        case measure => simp [intOf]; omega
    · clear hc
      go_wp2_with fail
      go_ret
      exact ⟨.inr ⟨rfl, fun j hj => Hp.out j (by omega)⟩, rfl⟩

def flt (xs : List Int) (id : Int) : List Int := xs.filter fun x => x != id
theorem flt_none {xs : List Int} {id : Int} (h : ∀ j, j < xs.length → xs[j]?.getD 0 ≠ id) : flt xs id = xs := by
  unfold flt
  rw [List.filter_eq_self]
  intro x hx
  obtain ⟨j, hj, rfl⟩ := List.getElem_of_mem hx
  have := h j hj
  simpa [hj] using this
theorem flt_take_succ (xs : List Int) (id : Int) (j : Nat) (hj : j < xs.length) :
    flt (xs.take (j + 1)) id = if xs[j]?.getD 0 = id then flt (xs.take j) id else flt (xs.take j) id ++ [xs[j]?.getD 0] := by
  rw [List.take_succ_eq_append_getElem hj]
  unfold flt
  rw [List.filter_append]
  by_cases h : xs[j] = id <;> simp [h, hj]
theorem flt_len (xs : List Int) (id : Int) (j : Nat) : (flt (xs.take j) id).length ≤ j := by
  have := List.length_filter_le (fun x => x != id) (xs.take j)
  have h2 := List.length_take_le j xs
  unfold flt; omega

/-- What DeleteFunc leaves: the block holds what stays, at its head. -/
def Deleted (w : World) (g cap : Nat) (ys : List Int) (e : Ending) (w' : World) : Prop :=
  e = .returned (.slice (some ⟨g, 0, none⟩) ys.length cap) ∧ (∃ cs, Cells w' g 3 cs ∧ cs.length = cap ∧ cs.take ys.length = ys.map (Value.int .i64)) ∧ w.grownBy w' (some g)
def DelRel (xs : List Int) (id : Int) (g cap : Nat) (w : World) (k0 : Nat) (iv jv : Value) (wr : World) : Prop :=
  ∃ j cs, jv = .int .i64 (j : Nat) ∧ iv = .int .i64 ((flt (xs.take j) id).length : Nat) ∧ k0 < j ∧ j ≤ xs.length ∧ (flt (xs.take j) id).length < j ∧ Cells wr g 3 cs ∧ cs.length = cap ∧
    cs.take (flt (xs.take j) id).length = (flt (xs.take j) id).map (Value.int .i64) ∧ (∀ m, j ≤ m → m < xs.length → cs[m]? = some (.int .i64 (xs[m]?.getD 0))) ∧ w.grownBy wr (some g)
theorem zero3 (w : World) : (zeroValue 3).run Try.prog w = .ok (.int .i64 0) w := by kernel_rfl

set_option maxHeartbeats 2000000 in
theorem delete_some (xs : List Int) (id : Int) (b g cap : Nat) (w : World) (cs0 : List Value) (h : w.cell? ⟨b, 0, none⟩ = some (.int .i64 id)) (hne : b ≠ g) (hc : Cells w g 3 cs0) (hcap : xs.length ≤ cap) (hcl : cs0.length = cap)
    (htake : cs0.take xs.length = xs.map (Value.int .i64)) (hm : xs.length ≤ 1048576) :
    Calls Try.prog 48 #[.slice (some ⟨g, 0, none⟩) xs.length cap, pred b] w (Deleted w g cap (flt xs id)) := by
  have hcell : ∀ k, k < xs.length → cs0[k]? = some (.int .i64 (xs[k]?.getD 0)) := by
    intro k hk
    have h1 : (cs0.take xs.length)[k]? = (xs.map (Value.int .i64))[k]? := by rw [htake]
    rw [List.getElem?_take, if_pos hk] at h1
    rw [h1]; simp [hk]
  have hix := index_some xs id b g cap w h (by omega) (fun k hk => hc.cell k _ (hcell k hk))
  unfold pred at hix ⊢
  go_enter Try.func48, Try.ntmps48
  go_wp2_with fail
  refine hix.mono ?_
  rintro e w' ⟨⟨k, hk, rfl, hxk, hpre⟩ | ⟨rfl, hall⟩, rfl⟩
  case inr =>
    have hfl := flt_none hall
    go_wp2
    go_ret
    rw [hfl]
    exact ⟨rfl, ⟨cs0, hc, hcl, htake⟩, ⟨rfl, rfl, rfl, Nat.le_refl _, fun _ _ _ => rfl⟩⟩
  case inl =>
    have hft : flt (xs.take k) id = xs.take k := flt_none (by
      intro j hj
      have hjk : j < k := by simp at hj; omega
      have := hpre j hjk
      simpa [List.getElem?_take, hjk] using this)
    have hft1 : flt (xs.take (k + 1)) id = xs.take k := by rw [flt_take_succ xs id k hk, if_pos hxk, hft]
    have hrel0 : Hid (DelRel xs id g cap w k (.int .i64 k) (.int .i64 ((k : Int) + 1)) w) := by
      refine ⟨k + 1, cs0, by go_num, ?_, by omega, by omega, ?_, hc, hcl, ?_, fun m _ hm => hcell m hm, ⟨rfl, rfl, rfl, Nat.le_refl _, fun _ _ _ => rfl⟩⟩
      · rw [hft1]; simp; omega
      · rw [hft1]; simp; omega
      · rw [hft1]
        have h1 := congrArg (List.take k) htake
        rw [List.take_take, ← List.map_take] at h1
        have e1 : (List.take k xs).length = k := by simp; omega
        rw [e1, ← h1]; congr 1; omega
    have hbad : ((k : Int) == -1) = false := by simp
    clear hcell hix hft hft1 hxk hpre hc htake hcl
    go_wp2_with fail
    go_loopw [5, 6] (fun iv jv wr => DelRel xs id g cap w k iv jv wr) (fun _ jv _ => xs.length - (intOf jv).toNat)
    case atStart => exact hrel0.out
    case round =>
      clear hrel0
      obtain ⟨j, cs, rfl, rfl, hkj, hj, hij, hc, hcl, hpre, hpost, hg⟩ := hrel
      generalize hi : (flt (List.take j xs) id).length = i at hij hpre
      have Hi : Hid ((flt (List.take j xs) id).length = i) := hi
      clear hi
      have hb0 : wr.cell? ⟨b, 0, none⟩ = some (.int .i64 id) := hg.cell h (by simpa using hne)
      have Hpre : Hid (List.take i cs = List.map (Value.int IntKind.i64) (flt (List.take j xs) id)) := hpre
      have Hpost : Hid (∀ (m : Nat), j ≤ m → m < xs.length → cs[m]? = some (Value.int IntKind.i64 (xs[m]?.getD 0))) := hpost
      have Hcl : Hid (cs.length = cap) := hcl
      clear hpre hpost h hcl
      by_cases hlt : j < xs.length
      · have hcj := hc.cell j _ (Hpost.out j (Nat.le_refl _) hlt)
        have hci := hc.cell i (cs[i]?.getD undef) (by have := Hcl.out; rw [List.getElem?_eq_getElem (by omega)]; rfl)
        generalize hu : cs[i]?.getD undef = u at hci
        clear hu
        have hfi := hc.free i
        generalize hx : xs[j]?.getD 0 = x at hcj
        have Hx : Hid (xs[j]?.getD 0 = x) := hx
        clear hx
        have hcs : Hid (Cells wr g 3 cs) := hc
        clear hc
        have hfs := flt_take_succ xs id j hlt
        by_cases hx : x = id
        · have Hf : Hid (flt (List.take (j + 1) xs) id = flt (List.take j xs) id) := by rw [hfs, if_pos (Hx.out.trans hx)]; exact rfl
          have hbx : (x == id) = true := by simpa using hx
          clear hx hfs
          go_wp2_with (go_at_call 49; refine (off1_any _ id b _ hb0).mono ?_; rintro e w' ⟨rfl, rfl⟩)
          go_roundw
          case rel =>
            refine ⟨j + 1, cs, by go_num, ?_, by omega, by omega, ?_, hcs.out, Hcl.out, ?_, fun m hm1 hm2 => Hpost.out m (by omega) hm2, hg⟩
            · rw [Hf.out, Hi.out]
            · rw [Hf.out, Hi.out]; omega
            · rw [Hf.out, Hi.out]; exact Hpre.out
          case measure => simp [intOf]; omega
        · have Hf : Hid (flt (List.take (j + 1) xs) id = flt (List.take j xs) id ++ [x]) := by rw [hfs, if_neg (by rw [Hx.out]; exact hx), Hx.out]; exact rfl
          have hbx : (x == id) = false := by simpa using hx
          clear hx hfs
          go_wp2_with (go_at_call 49; refine (off1_any _ id b _ hb0).mono ?_; rintro e w' ⟨rfl, rfl⟩)
          go_roundw
          case rel =>
            refine ⟨j + 1, cs.set i (.int .i64 x), by go_num, ?_, by omega, by omega, ?_, hcs.out.set _ _, by simpa using Hcl.out, ?_, fun m hm1 hm2 => ?_, ?_⟩
            · rw [Hf.out]; simp [Hi.out]
            · rw [Hf.out]; simp [Hi.out]; omega
            · rw [Hf.out]
              have e1 : (flt (List.take j xs) id ++ [x]).length = i + 1 := by simp [Hi.out]
              have hil : i < cs.length := by have := Hcl.out; omega
              rw [e1, List.take_succ_eq_append_getElem (by simpa using hil), List.take_set_of_le (Nat.le_refl _), Hpre.out]
              simp
            · rw [List.getElem?_set_ne (by omega)]; exact Hpost.out m (by omega) hm2
            · exact ⟨hg.os, hg.tape, hg.output, by simpa using hg.size, fun q hq hqn => (Below.heap_setCell _ _ _ _ (fun e => hqn (by simp [e]))).trans (hg.block q hq hqn)⟩
          case measure => simp [intOf]; omega
      · obtain rfl : j = xs.length := by omega
        have hlen1 : i < cap := by omega
        have hci : ((cap : Int) == i) = false := by simp; omega
        have hic : ¬ (cap = i) := by omega
        have hcs : Hid (Cells wr g 3 cs) := hc
        clear hc
        go_wp2_with (refine wpList_clear_cells _ rfl (.tmp 38) 31 3 rfl Try.underlying31 (.int .i64 0) zero3 rfl rfl g i (xs.length - i) (cap - i) rfl (by omega) 3 cs hcs.out (by have := Hcl.out; omega) ?_; intro w2 hc2 hg2)
        go_ret
        have hxl : List.take xs.length xs = xs := List.take_of_length_le (Nat.le_refl _)
        have Hi' := Hi.out
        have Hpre' := Hpre.out
        have Hcl' := Hcl.out
        rw [hxl] at Hi' Hpre'
        refine ⟨by rw [Hi']; rfl, ⟨_, hc2, ?_, ?_⟩, ?_⟩
        · simp; omega
        · rw [Hi', List.append_assoc, List.take_append_of_le_length (by simp; omega), List.take_take, Nat.min_self, Hpre']
        · exact ⟨hg2.os.trans hg.os, hg2.tape.trans hg.tape, hg2.output.trans hg.output, Nat.le_trans hg.size hg2.size, fun q hq hqn => (hg2.block q (Nat.lt_of_lt_of_le hq hg.size) hqn).trans (hg.block q hq hqn)⟩
end Go.Proofs.Ytekgfdfganelmaa
