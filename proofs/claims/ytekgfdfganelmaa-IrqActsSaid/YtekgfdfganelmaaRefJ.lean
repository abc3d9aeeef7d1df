/- Walks of the document's Take and Add. Condition: no list is longer than 1048576. -/
import Derived.Test.YtekgfdfganelmaaRefH
import Derived.Test.YtekgfdfganelmaaRefI
namespace Go.Proofs.Ytekgfdfganelmaa
open Go.RowKit

set_option maxHeartbeats 1000000 in
theorem rTake_none {w : World} {r : Nat} {g : RG} (h : RRep w r g) (id : Int) (hlen : g.L.length ≤ 1048576) (hk : atI g.L id = none) :
    Calls Try.prog 45 #[.pointer (some ⟨r, 0, none⟩), .int .i64 id] w fun e w' => e = .returned (.int .i64 6) ∧ w = w' := by
  have k1 := rAt_any h id hlen
  rw [hk] at k1; simp only [numOf] at k1
  clear h hk hlen
  go_enter Try.func45, Try.ntmps45
  go_wp2_with fail
  refine k1.mono ?_
  rintro e w' ⟨rfl, rfl⟩
  clear k1
  go_wp2_with fail
  go_ret
  exact ⟨rfl, rfl⟩
set_option maxHeartbeats 1000000 in
theorem rTake_state {w : World} {r : Nat} {g : RG} (h : RRep w r g) (id : Int) (hlen : g.L.length ≤ 1048576) (hlen2 : g.row.length ≤ 1048576) {k : Nat} (hk : atI g.L id = some k) (hr : rdyB g.L g.row id = false) :
    Calls Try.prog 45 #[.pointer (some ⟨r, 0, none⟩), .int .i64 id] w fun e w' => e = .returned (.int .i64 12) ∧ w = w' := by
  have k1 := rAt_any h id hlen
  have k2 := rReady_any h id hlen hlen2
  rw [hk] at k1; simp only [numOf] at k1
  rw [hr] at k2
  clear h hk hlen hr hlen2
  go_enter Try.func45, Try.ntmps45
  go_wp2_with fail
  refine k1.mono ?_
  rintro e w' ⟨rfl, rfl⟩
  clear k1
  go_wp2_with fail
  refine k2.mono ?_
  rintro e w' ⟨rfl, rfl⟩
  clear k2
  go_wp2_with fail
  go_ret
  exact ⟨rfl, rfl⟩
set_option maxHeartbeats 1000000 in
theorem rTake_ok {w : World} {r : Nat} {g : RG} (h : RRep w r g) (id : Int) (hlen : g.L.length ≤ 1048576) (hlen2 : g.row.length ≤ 1048576) {k j : Nat} (hk : atI g.L id = some k) (hr : rdyB g.L g.row id = true) (hj : rowI g.row id = some j) (hjl : j < g.row.length) :
    Calls Try.prog 45 #[.pointer (some ⟨r, 0, none⟩), .int .i64 id] w fun e w' => e = .returned (.int .i64 0) ∧ ∃ rv', RPost r w g { g with row := g.row.take j ++ g.row.drop (j + 1), rv := rv' } w' := by
  have k1 := rAt_any h id hlen
  have k2 := rReady_any h id hlen hlen2
  have k3 := rOff_some h id hlen2 hj hjl
  rw [hk] at k1; simp only [numOf] at k1
  rw [hr] at k2
  clear h hk hlen hr hlen2 hj hjl
  go_enter Try.func45, Try.ntmps45
  go_wp2_with fail
  refine k1.mono ?_
  rintro e w' ⟨rfl, rfl⟩
  clear k1
  go_wp2_with fail
  refine k2.mono ?_
  rintro e w' ⟨rfl, rfl⟩
  clear k2
  go_wp2_with fail
  refine k3.mono ?_
  rintro e w' ⟨rfl, hp⟩
  have HP : Hid (∃ rv', RPost r w g { g with row := g.row.take j ++ g.row.drop (j + 1), rv := rv' } w') := hp
  clear k3 hp
  go_wp2_with fail
  go_ret
  exact ⟨rfl, HP.out⟩

set_option maxHeartbeats 1000000 in
theorem rAdd_arg {w : World} (r : Nat) (id : Int) (hid : id < 0) :
    Calls Try.prog 37 #[.pointer (some ⟨r, 0, none⟩), .int .i64 id] w fun e w' => e = .returned (.int .i64 1) ∧ w = w' := by
  go_enter Try.func37, Try.ntmps37
  go_wp2_with fail
  go_ret
  exact ⟨rfl, rfl⟩
set_option maxHeartbeats 1000000 in
theorem rAdd_twice {w : World} {r : Nat} {g : RG} (h : RRep w r g) (id : Int) (hid : 0 ≤ id) (hlen : g.L.length ≤ 1048576) {k : Nat} (hk : atI g.L id = some k) :
    Calls Try.prog 37 #[.pointer (some ⟨r, 0, none⟩), .int .i64 id] w fun e w' => e = .returned (.int .i64 7) ∧ w = w' := by
  have k1 := rAt_any h id hlen
  rw [hk] at k1; simp only [numOf] at k1
  clear h hk hlen
  go_enter Try.func37, Try.ntmps37
  go_wp2_with fail
  refine k1.mono ?_
  rintro e w' ⟨rfl, rfl⟩
  clear k1
  go_wp2_with fail
  go_ret
  exact ⟨rfl, rfl⟩

theorem RPost.newL {w w1 : World} {r : Nat} {g : RG} (h : RRep w r g) (hc : Chg (fun _ => False) w w1) {v : Value} {L : List Rc} (hr : w1.ownsRow w.heap.size 73 5 v L.length (flat L)) :
    RPost r w g { g with lv := v, L := L } (w1.setCell ⟨r, 0, none⟩ v) := by
  have h1 := h.chg hc (fun _ x => x.elim)
  refine ⟨⟨h1.ctl.set 0 v, ownsRow_set (ownsRow_down hr) _ _ fun e => ?_, ownsRow_set h1.row _ _ fun e => h1.ne.2.1 _ e rfl⟩, (hc.mono fun _ x => x.elim).set _ _ (.inl (.inl rfl)), ?_⟩
  · have := (hr.lt _ e).1
    have := h.ctl.lt
    simp at *
    omega
  · rintro b (rfl | hb | hb)
    · exact .inl (.inl rfl)
    · exact .inr (hr.lt _ hb).1
    · exact .inl (.inr (.inr hb))
def Rc.fresh (id : Int) : Rc := ⟨id, -1, -1, 0, false⟩
end Go.Proofs.Ytekgfdfganelmaa
