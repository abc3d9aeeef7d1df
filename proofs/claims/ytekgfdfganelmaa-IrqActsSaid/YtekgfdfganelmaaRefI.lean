/- Walk of the document's Mask. Condition: no list is longer than 1048576; the numbers lie outside the document's blocks. -/
import Derived.Test.YtekgfdfganelmaaRefG
namespace Go.Proofs.Ytekgfdfganelmaa
open Go.RowKit

theorem RPost.trans {w w1 w2 : World} {r : Nat} {g g1 g2 : RG} (h : RPost r w g g1 w1) (k : RPost r w1 g1 g2 w2) : RPost r w g g2 w2 := by
  refine ⟨k.1, h.2.1.trans k.2.1 h.2.2, fun b hb => ?_⟩
  rcases k.2.2 b hb with hb | hb
  · exact h.2.2 b hb
  · exact .inr (Nat.le_trans h.2.1.size hb)
def rstep (on : Bool) (p : List Rc × Nat) (id : Int) : List Rc × Nat := match atI p.1 id with
  | none => p
  | some k => if (nth p.1 k).masked = on then p else (p.1.set k { nth p.1 k with masked := on }, p.2 + 1)
def rmall (on : Bool) (l : List Int) (L : List Rc) : List Rc × Nat := l.foldl (rstep on) (L, 0)
theorem rmall_snoc (on : Bool) (l : List Int) (L : List Rc) (i : Nat) (hi : i < l.length) : rmall on (l.take (i + 1)) L = rstep on (rmall on (l.take i) L) (l[i]?.getD 0) := by
  unfold rmall
  rw [List.take_succ_eq_append_getElem hi, List.foldl_append, List.getElem?_eq_getElem hi]
  rfl
theorem rstep_len (on : Bool) (p : List Rc × Nat) (id : Int) : (rstep on p id).1.length = p.1.length := by
  unfold rstep
  split
  · rfl
  · split <;> simp

def RMRel (on : Bool) (l : List Int) (r : Nat) (w : World) (g : RG) (nv iv : Value) (wr : World) : Prop :=
  ∃ (i m : Nat) (L : List Rc), iv = .int .i64 i ∧ nv = .int .i64 m ∧ i ≤ l.length ∧ rmall on (l.take i) g.L = (L, m) ∧ L.length = g.L.length ∧ m ≤ i ∧ RPost r w g { g with L := L } wr
def RMPost (on : Bool) (l : List Int) (r : Nat) (w : World) (g : RG) (e : Ending) (w' : World) : Prop :=
  e = .returned (.int .i64 (rmall on l g.L).2) ∧ RPost r w g { g with L := (rmall on l g.L).1 } w'

set_option maxHeartbeats 2000000 in
theorem rMask_any {w : World} {r : Nat} {g : RG} (h : RRep w r g) (on : Bool) (l : List Int) (la : Option Addr) (cap : Nat) (hlen : g.L.length ≤ 1048576) (hln : l.length ≤ 1048576)
    (hl : ∀ j, j < l.length → ∃ gl ol, la = some ⟨gl, ol, none⟩ ∧ gl < w.heap.size ∧ ¬ rfp r g gl ∧ w.cell? ⟨gl, ol + j, none⟩ = some (.int .i64 (l[j]?.getD 0))) :
    Calls Try.prog 42 #[.pointer (some ⟨r, 0, none⟩), .bool on, .slice la l.length cap] w (RMPost on l r w g) := by
  have HL : Hid (∀ j, j < l.length → ∃ gl ol, la = some ⟨gl, ol, none⟩ ∧ gl < w.heap.size ∧ ¬ rfp r g gl ∧ w.cell? ⟨gl, ol + j, none⟩ = some (.int .i64 (l[j]?.getD 0))) := hl
  have H0 : Hid (RRep w r g) := h
  clear hl h
  generalize hn : l.length = n at hln
  have HN : Hid (l.length = n) := hn
  clear hn
  go_enter Try.func42, Try.ntmps42
  go_wp2_with fail
  go_loopw [7, 8] (fun nv iv wr => RMRel on l r w g nv iv wr) (fun _ iv _ => n - (intOf iv).toNat)
  case atStart => exact ⟨0, 0, g.L, rfl, rfl, Nat.zero_le _, rfl, rfl, Nat.le_refl _, RPost.refl H0.out⟩
  case round =>
    obtain ⟨i, m, L, rfl, rfl, hi, hm, hLl, hmi, hp⟩ := hrel
    rw [HN.out] at hi
    have HM : Hid (rmall on (l.take i) g.L = (L, m)) := hm
    have HP : Hid (RPost r w g { g with L := L } wr) := hp
    have HLL : Hid (L.length = g.L.length) := hLl
    have hLb : L.length ≤ 1048576 := by omega
    clear hm
    by_cases hlt : i < n
    · obtain ⟨gl, ol, rfl, hg1, hg2, hc⟩ := HL.out i (by rw [HN.out]; exact hlt)
      have hc' : wr.cell? ⟨gl, ol + i, none⟩ = some (.int .i64 (l[i]?.getD 0)) := by
        unfold World.cell?
        have := hp.2.1.block gl hg1 hg2
        dsimp only
        rw [this]
        exact hc
      clear hc hg1 hg2
      have HS : Hid (rmall on (l.take (i + 1)) g.L = rstep on (L, m) (l[i]?.getD 0)) := by
        show _ = _
        rw [rmall_snoc on l g.L i (by rw [HN.out]; exact hlt), HM.out]
      generalize l[i]?.getD 0 = x at hc' HS
      have k1 := rAt_any hp.1 x hLb
      dsimp only at k1
      cases hk : atI L x with
      | none =>
        rw [hk] at k1; simp only [numOf] at k1
        have HS2 : Hid (rmall on (l.take (i + 1)) g.L = (L, m)) := by
          show _ = _
          rw [HS.out]; unfold rstep; simp only [hk]
        clear hk hp HS hLl
        go_wp2_with fail
        refine k1.mono ?_
        rintro e w' ⟨rfl, rfl⟩
        clear k1
        go_wp2_with fail
        go_roundw
        case rel => exact ⟨i + 1, m, L, by go_num, rfl, by rw [HN.out]; omega, HS2.out, HLL.out, by omega, HP.out⟩
        case measure => simp [intOf]; omega
      | some k =>
        rw [hk] at k1; simp only [numOf] at k1
        obtain ⟨hkl, _⟩ := atI_lt hk
        obtain ⟨a, capr, hv, hA⟩ := hp.1.open_recs
        obtain ⟨gb, rfl, _, _, _, _, c4⟩ := hA k hkl
        dsimp only at hv c4
        have h0 : wr.cell? ⟨r, 0, none⟩ = some (.slice (some ⟨gb, 0, none⟩) L.length capr) := by rw [← hv]; exact hp.1.ctl.cell 0 _ rfl
        have hfz := hp.1.recFree hv (k * 5 + 4)
        have HSET : Hid (RPost r w g { g with L := L.set k { nth L k with masked := on } } (wr.setCell ⟨gb, k * 5 + 4, none⟩ (.bool on))) := RPost.trans hp (RPost.setRec hp.1 hv hkl 4 (by omega) _ _ rfl)
        generalize hnl : L.length = nl at h0 hkl hLb
        by_cases hmk : (nth L k).masked = on
        · have HS2 : Hid (rmall on (l.take (i + 1)) g.L = (L, m)) := by
            show _ = _
            rw [HS.out]; unfold rstep; simp only [hk, hmk, if_true]
          rw [hmk] at c4
          clear hk hp HS hLl hA hv HSET hmk hnl
          go_wp2_with fail
          refine k1.mono ?_
          rintro e w' ⟨rfl, rfl⟩
          clear k1
          have hbn : (on != on) = false := by simp
          go_wp2_with fail
          go_roundw
          case rel => exact ⟨i + 1, m, L, by go_num, rfl, by rw [HN.out]; omega, HS2.out, HLL.out, by omega, HP.out⟩
          case measure => simp [intOf]; omega
        · have HS2 : Hid (rmall on (l.take (i + 1)) g.L = (L.set k { nth L k with masked := on }, m + 1)) := by
            show _ = _
            rw [HS.out]; unfold rstep; simp only [hk, hmk, if_false]
          have HLL2 : Hid ((L.set k { nth L k with masked := on }).length = g.L.length) := by show _ = _; rw [List.length_set]; exact HLL.out
          generalize hq : (nth L k).masked = mk at c4 hmk
          have hbn : (mk != on) = true := by simpa using hmk
          have hbn2 : (!mk == on) = true := by cases mk <;> cases on <;> simp_all
          clear hk hp HS hLl hA hv hmk hnl HP hq
          go_wp2_with fail
          refine k1.mono ?_
          rintro e w' ⟨rfl, rfl⟩
          clear k1
          go_wp2_with fail
          go_roundw
          case rel => exact ⟨i + 1, m + 1, _, by go_num, by go_num, by rw [HN.out]; omega, HS2.out, HLL2.out, by omega, HSET.out⟩
          case measure => simp [intOf]; omega
    · obtain rfl : i = n := by omega
      have HF : Hid (rmall on l g.L = (L, m)) := by
        show _ = _
        rw [← HM.out, List.take_of_length_le (by rw [HN.out]; exact Nat.le_refl _)]
      clear hp hLl
      go_wp2_with fail
      go_ret
      exact ⟨by rw [HF.out]; rfl, by rw [HF.out]; exact HP.out⟩
end Go.Proofs.Ytekgfdfganelmaa
