/- Walk of the document's Trigger. Condition: no list is longer than 1048576. -/
import Derived.Test.YtekgfdfganelmaaRefE
import Derived.Test.YtekgfdfganelmaaIrqB
import Derived.Maps.AppendAt
import Derived.Laws.AppendOwnNone
namespace Go.Proofs.Ytekgfdfganelmaa
open Go.RowKit

theorem ownsRow_down {w : World} {b : Nat} {e : TypeId} {size : Nat} {v : Value} {n : Nat} {xs : List Value} (h : w.ownsRow b e size v n xs) : w.ownsRow 0 e size v n xs := by
  refine ⟨h.1, h.2.imp id ?_⟩
  rintro ⟨g, cap, cur, h1, _, h2⟩
  exact ⟨g, cap, cur, h1, Nat.zero_le _, h2⟩
theorem RPost.newRow {w w1 : World} {r : Nat} {g : RG} (h : RRep w r g) (hc : Chg (fun _ => False) w w1) {v : Value} {row : List Int} (hr : w1.ownsRow w.heap.size 3 1 v row.length (row.map (Value.int .i64))) :
    RPost r w g { g with rv := v, row := row } (w1.setCell ⟨r, 1, none⟩ v) := by
  have h1 := h.chg hc (fun _ x => x.elim)
  refine ⟨⟨h1.ctl.set 1 v, ownsRow_set h1.recs _ _ fun e => h1.ne.1 _ e rfl, ownsRow_set (ownsRow_down hr) _ _ fun e => ?_⟩, (hc.mono fun _ x => x.elim).set _ _ (.inl (.inl rfl)), ?_⟩
  · have := (hr.lt _ e).1
    have := h.ctl.lt
    simp at *
    omega
  · rintro b (rfl | hb | hb)
    · exact .inl (.inl rfl)
    · exact .inl (.inr (.inl hb))
    · exact .inr (hr.lt _ hb).1
def trigL (L : List Rc) (row : List Int) (id : Int) : List Rc := match atI L id with
  | none => L
  | some k => if (rowI row id).isSome then L.set k { nth L k with lost := (nth L k).lost + 1 } else L
def trigR (L : List Rc) (row : List Int) (id : Int) : List Int := if (atI L id).isSome && (rowI row id).isNone then row ++ [id] else row
def trigN (L : List Rc) (id : Int) : Int := if (atI L id).isSome then 0 else 6
def TRes (r : Nat) (w : World) (g : RG) (id : Int) (e : Ending) (w' : World) : Prop :=
  e = .returned (.int .i64 (trigN g.L id)) ∧ ∃ rv', RPost r w g { g with L := trigL g.L g.row id, row := trigR g.L g.row id, rv := rv' } w'

theorem empty_owns (w : World) (e : TypeId) (size : Nat) : (w.alloc (.cells #[] e)).ownsRow w.heap.size e size (.slice (some ⟨w.heap.size, 0, none⟩) 0 0) 0 [] := by
  refine ⟨by simp, .inr ⟨w.heap.size, 0, #[], rfl, Nat.le_refl _, ?_, Nat.le_refl _, Nat.zero_le _, by simp, by simp⟩⟩
  show (w.heap.push _)[w.heap.size]? = _
  simp
theorem RRep.alloc {w : World} {r : Nat} {g : RG} (h : RRep w r g) (o : Obj) : RRep (w.alloc o) r g := h.same fun b hb => Below.heap_alloc _ _ _ (h.lt hb)
theorem RRep.rcell {w w2 : World} {r : Nat} {g : RG} (h : RRep w r g) (hc : Chg (fun _ => False) w w2) : w2.cell? ⟨r, 1, none⟩ = some g.rv ∧ w2.frozen? ⟨r, 1, none⟩ = false ∧ w2.cell? ⟨r, 0, none⟩ = some g.lv ∧ w2.frozen? ⟨r, 0, none⟩ = false := by
  have h1 := h.chg hc (fun _ x => x.elim)
  exact ⟨h1.ctl.cell 1 _ rfl, h1.ctl.free 1, h1.ctl.cell 0 _ rfl, h1.ctl.free 0⟩

set_option maxHeartbeats 2000000 in
theorem rTrigger_new {w : World} {r : Nat} {g : RG} (h : RRep w r g) (id : Int) (hlen : g.L.length ≤ 1048576) (hlen2 : g.row.length < 1048576) {k : Nat} (hk : atI g.L id = some k) (hw : rowI g.row id = none) :
    Calls Try.prog 44 #[.pointer (some ⟨r, 0, none⟩), .int .i64 id] w fun e w' => e = .returned (.int .i64 0) ∧ ∃ rv', RPost r w g { g with row := g.row ++ [id], rv := rv' } w' := by
  have k1 := rAt_any h id hlen
  have k2 := rWaits_any h id (by omega)
  rw [hk] at k1
  rw [hw] at k2
  simp only [numOf] at k1 k2
  have hk0 : decide ((k : Int) < 0) = false := by simp
  have HP : Hid (∀ v w1, Chg (fun _ => False) w w1 → w1.ownsRow w.heap.size 3 1 v (g.row.length + 1) (g.row.map (Value.int .i64) ++ [.int .i64 id]) → RPost r w g { g with rv := v, row := g.row ++ [id] } (w1.setCell ⟨r, 1, none⟩ v)) := fun v w1 hc hr => RPost.newRow h hc (by simpa using hr)
  have HC : Hid (∀ w2, Chg (fun _ => False) w w2 → w2.cell? ⟨r, 1, none⟩ = some g.rv ∧ w2.frozen? ⟨r, 1, none⟩ = false ∧ w2.cell? ⟨r, 0, none⟩ = some g.lv ∧ w2.frozen? ⟨r, 0, none⟩ = false) := fun w2 hc => h.rcell hc
  have hr1 := h.ctl.cell 1 _ rfl
  have hrl := h.ctl.lt
  have hE := empty_owns w 3 1
  obtain ⟨i0, hi, hz0, hz1, hz2⟩ := info_parts Try.info3
  rcases h.row.2 with ⟨hv, h0⟩ | ⟨gb, cap, cur, hv, _⟩
  · have hrow : g.row = [] := List.eq_nil_of_length_eq_zero h0
    rw [hv] at hr1
    clear hk hw
    rw [hrow] at HP ⊢
    simp only [List.map_nil, List.nil_append, List.length_nil, Nat.zero_add] at HP ⊢
    clear hrow h0 hv hlen2 h
    have hN : ∀ j u, [Value.int .i64 id][j]? = some u → ((w.alloc (.cells #[] 3)).alloc (.cells #[.int .i64 id] 3)).cell? ((⟨w.heap.size + 1, 0, none⟩ : Addr).add j) = some u := by
      have := cell_one_new (w.alloc (.cells #[] 3)) (.int .i64 id) 3
      have e : (w.alloc (.cells #[] 3)).heap.size = w.heap.size + 1 := by simp
      rw [e] at this
      exact this
    go_enter Try.func44, Try.ntmps44
    go_wp2_with fail
    refine k1.mono ?_
    rintro e w' ⟨rfl, rfl⟩
    clear k1
    go_wp2_with fail
    refine k2.mono ?_
    rintro e w' ⟨rfl, rfl⟩
    clear k2
    go_wp2_with (at_builtin; first
      | (refine wpList_append_own_none rfl _ _ 31 rfl w.heap.size 3 i0 1 Try.underlying31 hi _ 0 [] rfl hE rfl ?_)
      | (refine wpList_append_own_at _ rfl _ _ 31 rfl w.heap.size 3 i0 (.int .i64 0) 1 8 Try.underlying31 hi hz0 hz1 hz2 rfl (by decide) (.slice (some ⟨w.heap.size, 0, none⟩) 0 0) 0 [] rfl (hE.alloc _) _ 1 1 [.int .i64 id] rfl rfl hN (by simp [Value.oneCell']) (by unfold maxLen; omega) (by omega) (by simp; omega) ?_; intro v2 w2 hown2 hgrow2 _ _; obtain ⟨gg, cp, rfl⟩ := ownsRow_succ hown2; have hc2 : Chg (fun _ => False) w w2 := (((Chg.refl _ w).alloc _).alloc _).grown hgrow2 (fun k hk => .inr (by cases hk; exact Nat.le_refl _)); obtain ⟨c1, c2, _, _⟩ := HC.out w2 hc2))
    go_ret
    exact ⟨rfl, _, HP.out _ _ hc2 (by simpa using hown2)⟩
  · have hcells : ∀ j u, (g.row.map (Value.int .i64))[j]? = some u → (w.alloc (.cells #[] 3)).cell? ((⟨gb, 0, none⟩ : Addr).add j) = some u := (h.alloc _).row.cells (by rw [hv]; rfl)
    rw [hv] at hr1
    clear h hk hw hv
    have hl1 : (g.row.map (Value.int .i64)).length = g.row.length * 1 := by simp
    have hoc : ∀ u ∈ g.row.map (Value.int .i64), u.oneCell' = true := by intro u hu; obtain ⟨x, _, rfl⟩ := List.mem_map.1 hu; rfl
    have HR : Hid (RPost r w g { g with rv := g.rv, row := g.row ++ [id] } w → True) := fun _ => trivial
    generalize g.row.map (Value.int .i64) = xs at HP hcells hl1 hoc
    generalize g.row.length = n at hr1 hlen2 HP hl1
    clear HR
    go_enter Try.func44, Try.ntmps44
    go_wp2_with fail
    refine k1.mono ?_
    rintro e w' ⟨rfl, rfl⟩
    clear k1
    go_wp2_with fail
    refine k2.mono ?_
    rintro e w' ⟨rfl, rfl⟩
    clear k2
    go_wp2_with (at_builtin; first
      | (refine wpList_append_own_at _ rfl _ _ 31 rfl w.heap.size 3 i0 (.int .i64 0) 1 8 Try.underlying31 hi hz0 hz1 hz2 rfl (by decide) (.slice (some ⟨w.heap.size, 0, none⟩) 0 0) 0 [] rfl hE ⟨gb, 0, none⟩ n cap xs rfl hl1 hcells hoc (by unfold maxLen; omega) (by omega) (by simp) ?_; intro v1 w1 hown1 hgrow1 _ _; have hown1' : w1.ownsRow w.heap.size 3 1 v1 n xs := by simpa using hown1)
      | (refine wpList_append_own_at _ rfl _ _ 31 rfl w.heap.size 3 i0 (.int .i64 0) 1 8 Try.underlying31 hi hz0 hz1 hz2 rfl (by decide) v1 n xs rfl (hown1'.alloc _) _ 1 1 [.int .i64 id] rfl rfl (cell_one_new _ _ _) (by simp [Value.oneCell']) (by unfold maxLen; omega) (by omega) (by have := hgrow1.size; simp at this ⊢; omega) ?_; intro v2 w2 hown2 hgrow2 _ _; obtain ⟨gg, cp, rfl⟩ := ownsRow_succ hown2; have hc2 : Chg (fun _ => False) w w2 := ((((Chg.refl _ w).alloc _).grown hgrow1 (fun k hk => .inr (by cases hk; exact Nat.le_refl _))).alloc _).grown hgrow2 (fun k hk => .inr (hown1'.lt k hk).1); obtain ⟨c1, c2, _, _⟩ := HC.out w2 hc2))
    go_ret
    exact ⟨rfl, _, HP.out _ _ hc2 hown2⟩
end Go.Proofs.Ytekgfdfganelmaa
