/- First: a thread's first irq that is ready. Conditions: the controller's blocks hold what Rep says; what stands in the row is known. -/
import Derived.Test.YtekgfdfganelmaaIrqH
namespace Go.Proofs.Ytekgfdfganelmaa
open Go.RowKit Go.Shelf
attribute [local go_sem] Oper.semAt_some

set_option maxHeartbeats 400000 in
theorem ready_make (c : Nat) (t : Int) (w : World) : Calls Try.prog 33 #[.pointer (some ⟨c, 0, none⟩), .int .i64 t] w fun r w' =>
    r = .returned (.func (.func 50) #[] #[.pointer (some ⟨w.heap.size, 0, none⟩), .pointer (some ⟨w.heap.size + 1, 0, none⟩)]) ∧ w' = (w.alloc (.cells #[.pointer (some ⟨c, 0, none⟩)] 24)).alloc (.cells #[.int .i64 t] 3) := by
  go_enter Try.func33, Try.ntmps33
  go_wp2
  go_ret
  exact ⟨rfl, rfl⟩

set_option maxHeartbeats 1000000 in
theorem iter_nil (F : Fence) (hF : Hid (F = Fence.wide)) (n : Nat) (l c bc bt : Nat) (g : G) (hrow : g.row = []) (hrv : g.rv = .slice none 0 0) (J : List Int → World → Prop)
    (W : World) (h : Rep W c g) (hbc : Cells W bc 24 [.pointer (some ⟨c, 0, none⟩)])
    (h0 : J [] W) :
    CallsIn F n Try.prog 50 #[.func (.yield l) #[] #[], .pointer (some ⟨bc, 0, none⟩), .pointer (some ⟨bt, 0, none⟩)] W fun e W' => (∃ v, e = .returned v) ∧ J [] W' := by
  have h50 : F.fn 50 := by rw [hF.out]; trivial
  have hro : F.round = none := by rw [hF.out]; rfl
  have k0 := hbc.cell 0 _ rfl
  have k17 := h.c17
  rw [hrv] at k17
  clear h hbc hrv hrow
  refine callsIn_of_wp Try.func50 rfl h50 ?_ hro
  simp only [Try.ntmps50, List.size_toArray, List.length_cons, List.length_nil, Nat.reduceAdd, Nat.reduceSub, Array.replicate_succ, Array.replicate_zero, List.push_toArray, List.append_toArray, List.nil_append, List.cons_append]
  gi_wp2
  gi_loopw [12] (fun i wr => i = .int .i64 0 ∧ J [] wr) (fun _ _ => 0)
  case atStart => exact ⟨rfl, h0⟩
  case round =>
    obtain ⟨rfl, hJ⟩ := hrel
    gi_wp2
    go_end0
    exact ⟨⟨_, rfl⟩, hJ⟩

theorem ready_stops (F : Fence) (hF : Hid (F = Fence.wide)) (n : Nat) (hn : 1 ≤ n) (c bc bt : Nat) (g : G) (t : Int) (hkn : Known g) (hlen : g.row.length ≤ 1048576) (w : World) (h : Rep w c g)
    (hbc : Cells w bc 24 [.pointer (some ⟨c, 0, none⟩)]) (hbt : Cells w bt 3 [.int .i64 t]) :
    SeqStopsK F n Try.prog 50 #[.pointer (some ⟨bc, 0, none⟩), .pointer (some ⟨bt, 0, none⟩)] (fun x : Int => #[.int .i64 x]) (KpF (fun b => fp c g b ∨ b = bc ∨ b = bt)) (fun xs => xs = rl g t) (fun pre => pre ≠ [] ∧ pre <+: rl g t) (g.row.length + 1) w := by
  intro l J Jx W hW hJ hJx hY h0
  have hr : Rep W c g := h.same fun b hb => hW.block b (h.lt hb)
  have hc' : Cells W bc 24 [.pointer (some ⟨c, 0, none⟩)] := hbc.same (hW.block _ hbc.lt)
  have ht' : Cells W bt 3 [.int .i64 t] := hbt.same (hW.block _ hbt.lt)
  rcases h.row.2 with ⟨hrv, hn0⟩ | ⟨gb, cap, cur, hrv, _⟩
  · have hr0 : g.row = [] := List.eq_nil_of_length_eq_zero hn0
    refine (iter_nil F hF n l c bc bt g hr0 hrv J W hr hc' h0).mono ?_
    rintro e W' ⟨he, hj⟩
    exact ⟨he, .inl ⟨[], by simp [rl, hr0], hj⟩⟩
  · exact iter_some F hF n hn l c bc bt gb cap g t hkn hlen hrv J Jx W hr hc' ht' hJ hY h0

def Told (w : World) (x : Int) (r : Ending) (w' : World) : Prop := r = .returned (.int .i64 x) ∧ Below w.heap.size w w'
set_option maxHeartbeats 1000000 in
theorem first_in (F : Fence) (hF : Hid (F = Fence.wide)) (n : Nat) (hn : 4 ≤ n) (c : Nat) (g : G) (t : Int) (hkn : Known g) (hlen : g.row.length ≤ 1048576) (w : World) (h : Rep w c g) :
    CallsIn F n Try.prog 16 #[.pointer (some ⟨c, 0, none⟩), .int .i64 t] w (Told w ((rl g t).headD (-1))) := by
  have h16 : F.fn 16 := by rw [hF.out]; trivial
  have h33 : F.fn 33 := by rw [hF.out]; trivial
  have h50 : F.fn 50 := by rw [hF.out]; trivial
  have hro : F.round = none := by rw [hF.out]; rfl
  have h1 : 1 ≤ n := by omega
  have hmake : CallsIn F (n - 1) Try.prog 33 #[.pointer (some ⟨c, 0, none⟩), .int .i64 t] (w.alloc (.cells #[.int .i64 0] 3)) fun r w' =>
    r = .returned (.func (.func 50) #[] #[.pointer (some ⟨w.heap.size + 1, 0, none⟩), .pointer (some ⟨w.heap.size + 1 + 1, 0, none⟩)]) ∧ w' = ((w.alloc (.cells #[.int .i64 0] 3)).alloc (.cells #[.pointer (some ⟨c, 0, none⟩)] 24)).alloc (.cells #[.int .i64 t] 3) := by
      rw [hF.out]
      have := (callsIn_wide (n := n - 1)).2 (ready_make c t (w.alloc (.cells #[.int .i64 0] 3)))
      rw [World.size_alloc] at this
      exact this
  refine callsIn_of_wp_marks Try.func16 rfl h16 ?_ hro
  simp only [Try.ntmps16, List.size_toArray, List.length_cons, List.length_nil, Nat.reduceAdd, Nat.reduceSub, Array.replicate_succ, Array.replicate_zero, List.push_toArray, List.append_toArray, List.nil_append, List.cons_append]
  gi_wp2_with (gi_at_call 33; refine hmake.mono ?_; rintro e w' ⟨rfl, rfl⟩)
  have hrep : Rep (((w.alloc (.cells #[.int .i64 0] 3)).alloc (.cells #[.pointer (some ⟨c, 0, none⟩)] 24)).alloc (.cells #[.int .i64 t] 3)) c g := ((h.alloc _).alloc _).alloc _
  have hbel : Below w.heap.size w (((w.alloc (.cells #[.int .i64 0] 3)).alloc (.cells #[.pointer (some ⟨c, 0, none⟩)] 24)).alloc (.cells #[.int .i64 t] 3)) := (((Below.refl _ _).alloc (Nat.le_refl _) _).alloc (by simp) _).alloc (by simp; omega) _
  have hres : Cells (((w.alloc (.cells #[.int .i64 0] 3)).alloc (.cells #[.pointer (some ⟨c, 0, none⟩)] 24)).alloc (.cells #[.int .i64 t] 3)) w.heap.size 3 [.int .i64 0] := ((Cells.new w 3 [.int .i64 0]).alloc _).alloc _
  have hbc : Cells (((w.alloc (.cells #[.int .i64 0] 3)).alloc (.cells #[.pointer (some ⟨c, 0, none⟩)] 24)).alloc (.cells #[.int .i64 t] 3)) (w.heap.size + 1) 24 [.pointer (some ⟨c, 0, none⟩)] := by
    have := (Cells.new (w.alloc (.cells #[.int .i64 0] 3)) 24 [.pointer (some ⟨c, 0, none⟩)]).alloc (.cells #[.int .i64 t] 3)
    rw [World.size_alloc] at this; exact this
  have hbt : Cells (((w.alloc (.cells #[.int .i64 0] 3)).alloc (.cells #[.pointer (some ⟨c, 0, none⟩)] 24)).alloc (.cells #[.int .i64 t] 3)) (w.heap.size + 1 + 1) 3 [.int .i64 t] := by
    have := Cells.new ((w.alloc (.cells #[.int .i64 0] 3)).alloc (.cells #[.pointer (some ⟨c, 0, none⟩)] 24)) 3 [.int .i64 t]
    rw [World.size_alloc, World.size_alloc] at this; exact this
  have hsz : (((w.alloc (.cells #[.int .i64 0] 3)).alloc (.cells #[.pointer (some ⟨c, 0, none⟩)] 24)).alloc (.cells #[.int .i64 t] 3)).heap.size = w.heap.size + 3 := by simp
  generalize (((w.alloc (.cells #[.int .i64 0] 3)).alloc (.cells #[.pointer (some ⟨c, 0, none⟩)] 24)).alloc (.cells #[.int .i64 t] 3)) = w3 at hrep hbel hres hbc hbt hsz ⊢
  have Hsz : Hid (w3.heap.size = w.heap.size + 3) := hsz
  have hfplt : ∀ b, (fp c g b ∨ b = w.heap.size + 1 ∨ b = w.heap.size + 1 + 1) → b < w3.heap.size ∧ b ≠ w.heap.size := by
    intro b hb
    rcases hb with hb | rfl | rfl
    · have := h.lt hb; omega
    · omega
    · omega
  clear hsz hmake
  refine wpIn_rangeFunc_ownF hro h1 (gf := 50) (lb := #[.pointer (some ⟨w.heap.size + 1, 0, none⟩), .pointer (some ⟨w.heap.size + 1 + 1, 0, none⟩)]) rfl h50 (enters_of Try.func50 (by kernel_rfl) rfl)
    (ready_stops F hF (n - 1) (by omega) c (w.heap.size + 1) (w.heap.size + 1 + 1) g t hkn hlen w3 hrep hbc hbt)
    (fun h k b hb => (k b hb).trans (h b hb))
    (fun W l o o' hl _ _ _ b hb => World.putObj_heap_other (by have := (hfplt b hb).1; omega))
    (Below.refl _ _) (fun _ => rfl)
    (fun pre W => (pre = [] ∧ W.cell? ⟨w.heap.size, 0, none⟩ = some (.int .i64 0) ∧ W.frozen? ⟨w.heap.size, 0, none⟩ = false) ∧ Below w.heap.size w W)
    (fun cd pre W => (cd = .ret ∧ ∃ x, pre = [x] ∧ W.cell? ⟨w.heap.size, 0, none⟩ = some (.int .i64 x)) ∧ Below w.heap.size w W)
    (OwnFrom.and (Own.from (fun s A B row hs hg hr => ⟨hs.1, cell_kept hs.2.1 hg hr, (frozen_kept hs.2.1 hg hr).trans hs.2.2⟩) _) (ownFrom_below (Nat.le_refl _) (by have := Hsz.out; omega)))
    (fun cd => OwnFrom.and (Own.from (fun s A B row hs hg hr => ⟨hs.1, by obtain ⟨x, hx, hc⟩ := hs.2; exact ⟨x, hx, cell_kept hc hg hr⟩⟩) _) (ownFrom_below (Nat.le_refl _) (by have := Hsz.out; omega)))
    ⟨⟨rfl, hres.cell 0 _ rfl, hres.free 0⟩, hbel⟩
    (fun x => { tmps := #[.pointer (some ⟨c, 0, none⟩), .int .i64 t, undef, undef, .pointer (some ⟨w.heap.size, 0, none⟩), .int .i64 x, .pointer (some ⟨c, 0, none⟩), .bool true, .pointer (some ⟨c, 0, none⟩), .int .i64 t,
      .func (.func 50) #[] #[.pointer (some ⟨w.heap.size + 1, 0, none⟩), .pointer (some ⟨w.heap.size + 1 + 1, 0, none⟩)], .int .i64 x, undef], defers := [] }) ?assign ?body ?done ?stop
  case assign =>
    intro l x W K hK
    gi_wp2
    exact hK
  case body =>
    rintro l pre x W ⟨⟨rfl, hc, hf⟩, hb⟩ _
    clear hrep hres hbc hbt hfplt hkn h
    gi_wp2
    exact ⟨KeepsOthers.setCell _ _ _, ⟨rfl, x, rfl, World.cell?_setCell_same' _ _ _ (by rw [hc]; rfl)⟩, hb.setCell (p := ⟨w.heap.size, 0, none⟩) (Nat.le_refl _) _⟩
  case done =>
    rintro D xs W hD rfl ⟨⟨hnil, hc, hf⟩, hb⟩ hK
    have HN : Hid (rl g t = []) := hnil
    clear hrep hres hbc hbt hfplt hkn h hnil
    gi_wp2
    have hK2 : (W.setCell ⟨w.heap.size, 0, none⟩ (.int .i64 (-1))).heap[D]? = some (.deferred (some [])) := (KeepsOthers.setCell _ _ _).same D _ hK rfl
    refine ⟨by simp, .inl ⟨_, _, rfl, run_takeDeferred hK2, ?_⟩⟩
    have hcs : (W.setCell ⟨w.heap.size, 0, none⟩ (.int .i64 (-1))).cell? ⟨w.heap.size, 0, none⟩ = some (.int .i64 (-1)) := World.cell?_setCell_same' _ _ _ (by rw [hc]; rfl)
    have hcp : ((W.setCell ⟨w.heap.size, 0, none⟩ (.int .i64 (-1))).putObj D (.deferred none)).cell? ⟨w.heap.size, 0, none⟩ = some (.int .i64 (-1)) := cell_kept hcs (grownBy_putObj' _ D (.deferred none)) (fun r e => by cases e; exact ⟨_, hK2, rfl⟩)
    refine ⟨.int .i64 (-1), by simp [results, Try.results16, go_sem, hcp], by rw [HN.out]; rfl, ?_⟩
    exact (hb.setCell (p := ⟨w.heap.size, 0, none⟩) (Nat.le_refl _) _).trans (belowK_b (w := w3) (by have := Hsz.out; omega) _ D _ _ hD hK2 rfl rfl)
  case stop =>
    rintro D cd pre W hD ⟨_, hpre⟩ ⟨⟨rfl, x, rfl, hc⟩, hb⟩ hK
    have HN : Hid ((rl g t).headD (-1) = x) := by
      obtain ⟨s, hs⟩ := hpre
      show _ = _
      rw [← hs]; rfl
    clear hrep hres hbc hbt hfplt hkn h hpre
    gi_wp2
    refine ⟨by simp, .inl ⟨_, _, rfl, run_takeDeferred hK, ?_⟩⟩
    have hcp : (W.putObj D (.deferred none)).cell? ⟨w.heap.size, 0, none⟩ = some (.int .i64 x) := cell_kept hc (grownBy_putObj' _ D (.deferred none)) (fun r e => by cases e; exact ⟨_, hK, rfl⟩)
    refine ⟨.int .i64 x, by simp [results, Try.results16, go_sem, hcp], by rw [HN.out], ?_⟩
    exact hb.trans (belowK_b (w := w3) (by have := Hsz.out; omega) W D _ _ hD hK rfl rfl)
theorem first_any (c : Nat) (g : G) (t : Int) (hkn : Known g) (hlen : g.row.length ≤ 1048576) (w : World) (h : Rep w c g) :
    Calls Try.prog 16 #[.pointer (some ⟨c, 0, none⟩), .int .i64 t] w (Told w ((rl g t).headD (-1))) :=
  (callsIn_wide (n := 4)).1 (first_in Fence.wide rfl 4 (Nat.le_refl _) c g t hkn hlen w h)
end Go.Proofs.Ytekgfdfganelmaa
