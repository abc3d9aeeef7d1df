/- Walks of the document's Trigger (whole) and Raise. Condition: no list is longer than 1048576; what was lost is within bounds. -/
import Derived.Test.YtekgfdfganelmaaRefF
namespace Go.Proofs.Ytekgfdfganelmaa
open Go.RowKit

set_option maxHeartbeats 1000000 in
theorem rTrigger_none {w : World} {r : Nat} {g : RG} (h : RRep w r g) (id : Int) (hlen : g.L.length ≤ 1048576) (hk : atI g.L id = none) :
    Calls Try.prog 44 #[.pointer (some ⟨r, 0, none⟩), .int .i64 id] w fun e w' => e = .returned (.int .i64 6) ∧ w = w' := by
  have k1 := rAt_any h id hlen
  rw [hk] at k1; simp only [numOf] at k1
  clear h hk hlen
  go_enter Try.func44, Try.ntmps44
  go_wp2_with fail
  refine k1.mono ?_
  rintro e w' ⟨rfl, rfl⟩
  clear k1
  go_wp2_with fail
  go_ret
  exact ⟨rfl, rfl⟩

set_option maxHeartbeats 1000000 in
theorem rTrigger_lost {w : World} {r : Nat} {g : RG} (h : RRep w r g) (id : Int) (hlen : g.L.length ≤ 1048576) (hlen2 : g.row.length ≤ 1048576) {k j : Nat} (hk : atI g.L id = some k) (hw : rowI g.row id = some j)
    (hl0 : 0 ≤ (nth g.L k).lost) (hl1 : (nth g.L k).lost < 4611686018427387904) :
    Calls Try.prog 44 #[.pointer (some ⟨r, 0, none⟩), .int .i64 id] w fun e w' => e = .returned (.int .i64 0) ∧ RPost r w g { g with L := g.L.set k { nth g.L k with lost := (nth g.L k).lost + 1 } } w' := by
  have k1 := rAt_any h id hlen
  have k2 := rWaits_any h id hlen2
  rw [hk] at k1
  rw [hw] at k2
  simp only [numOf] at k1 k2
  obtain ⟨hkl, _⟩ := atI_lt hk
  obtain ⟨a, cap, hv, hA⟩ := h.open_recs
  obtain ⟨gb, rfl, _, _, _, c3, _⟩ := hA k hkl
  have h0 : w.cell? ⟨r, 0, none⟩ = some (.slice (some ⟨gb, 0, none⟩) g.L.length cap) := by rw [← hv]; exact h.ctl.cell 0 _ rfl
  have hfz := h.recFree hv (k * 5 + 3)
  have HS : Hid (RPost r w g { g with L := g.L.set k { nth g.L k with lost := (nth g.L k).lost + 1 } } (w.setCell ⟨gb, k * 5 + 3, none⟩ (.int .i64 ((nth g.L k).lost + 1)))) := RPost.setRec h hv hkl 3 (by omega) _ _ rfl
  clear h hk hA hv hw
  generalize hn : g.L.length = n at h0 hkl hlen
  clear hn
  have HS' : Hid (∀ lo, lo = (nth g.L k).lost → RPost r w g { g with L := g.L.set k { nth g.L k with lost := (nth g.L k).lost + 1 } } (w.setCell ⟨gb, k * 5 + 3, none⟩ (.int .i64 (lo + 1)))) := fun lo e => by rw [e]; exact HS.out
  have HE : Hid (∃ lo, lo = (nth g.L k).lost) := ⟨_, rfl⟩
  obtain ⟨lo, hlo⟩ : ∃ lo, lo = (nth g.L k).lost := ⟨_, rfl⟩
  have HL := HS'.out lo hlo
  have HLO : Hid (RPost r w g { g with L := g.L.set k { nth g.L k with lost := (nth g.L k).lost + 1 } } (w.setCell ⟨gb, k * 5 + 3, none⟩ (.int .i64 (lo + 1)))) := HL
  rw [← hlo] at c3 hl0 hl1
  clear HS HS' HE HL hlo
  go_enter Try.func44, Try.ntmps44
  go_wp2_with fail
  refine k1.mono ?_
  rintro e w' ⟨rfl, rfl⟩
  clear k1
  go_wp2_with fail
  refine k2.mono ?_
  rintro e w' ⟨rfl, rfl⟩
  clear k2
  go_wp2_with fail
  go_ret
  exact ⟨rfl, HLO.out⟩

set_option maxHeartbeats 1000000 in
theorem rRaise_no {w : World} {r : Nat} {g : RG} (h : RRep w r g) (l : Int) (hlen : g.L.length ≤ 1048576) (hv : onV g.L l < 0) :
    Calls Try.prog 43 #[.pointer (some ⟨r, 0, none⟩), .int .i64 l] w fun e w' => e = .returned (.int .i64 (onV g.L l)) ∧ w = w' := by
  have k1 := rOn_any h l hlen
  generalize onV g.L l = ov at k1 hv ⊢
  clear h hlen
  go_enter Try.func43, Try.ntmps43
  go_wp2_with fail
  refine k1.mono ?_
  rintro e w' ⟨rfl, rfl⟩
  clear k1
  go_wp2_with fail
  go_ret
  exact ⟨rfl, rfl⟩
set_option maxHeartbeats 1000000 in
theorem rRaise_yes {w : World} {r : Nat} {g : RG} (h : RRep w r g) (l : Int) (hlen : g.L.length ≤ 1048576) (hv : 0 ≤ onV g.L l) (x : Int) (Q : World → Prop)
    (ht : Calls Try.prog 44 #[.pointer (some ⟨r, 0, none⟩), .int .i64 (onV g.L l)] w fun e w' => e = .returned (.int .i64 x) ∧ Q w') :
    Calls Try.prog 43 #[.pointer (some ⟨r, 0, none⟩), .int .i64 l] w fun e w' => e = .returned (.int .i64 (onV g.L l)) ∧ Q w' := by
  have k1 := rOn_any h l hlen
  generalize onV g.L l = ov at k1 hv ht ⊢
  clear h hlen
  go_enter Try.func43, Try.ntmps43
  go_wp2_with fail
  refine k1.mono ?_
  rintro e w' ⟨rfl, rfl⟩
  clear k1
  go_wp2_with fail
  refine ht.mono ?_
  rintro e w' ⟨rfl, hq⟩
  have HQ : Hid (Q w') := hq
  clear ht hq
  go_wp2_with fail
  go_ret
  exact ⟨rfl, HQ.out⟩
end Go.Proofs.Ytekgfdfganelmaa
