/- Walks of the irq controller's functions: the iterator over a thread's ready irqs. Conditions: the controller's blocks hold what Rep says. -/
import Derived.RangeFuncNested
import Derived.RangeFuncBound
import Derived.RangeFuncCalls
import Derived.RangeFuncLeaves
import Derived.RangeFuncOne
import Derived.Shelf.Abstract
import Derived.Shelf.RegionOpen
import Derived.OwnWalkIn
import Derived.TacticsInMore
import Derived.LoopNIn
import Derived.LoopIn
import Derived.Test.YtekgfdfganelmaaIrqG
namespace Go.Proofs.Ytekgfdfganelmaa
open Go.RowKit Go.Shelf
attribute [local go_sem] Oper.semAt_some

/-- Is an id's irq ready, for a thread? -/
def isr (E : List Ent) (t : Int) (id : Int) : Bool := match find E id with | some e => e.q.rdy && e.q.thread == t | none => false
/-- A thread's ready irqs, as they stand in the row. -/
def rl (g : G) (t : Int) : List Int := g.row.filter (isr g.E t)
def KpF (FP : Nat → Prop) (W W' : World) : Prop := ∀ b, FP b → W'.heap[b]? = W.heap[b]?
def Known (g : G) : Prop := ∀ id ∈ g.row, ∃ e, find g.E id = some e
theorem rl_take_succ (g : G) (t : Int) (k : Nat) (hk : k < g.row.length) (x : Int) (hx : g.row[k]?.getD 0 = x) :
    (g.row.take (k + 1)).filter (isr g.E t) = (g.row.take k).filter (isr g.E t) ++ if isr g.E t x then [x] else [] := by
  rw [List.take_succ_eq_append_getElem hk, List.filter_append]
  have : g.row[k] = x := by simpa [hk] using hx
  rw [this]
  cases h : isr g.E t x <;> simp [h]
theorem rl_prefix (g : G) (t : Int) (k : Nat) : (g.row.take k).filter (isr g.E t) <+: rl g t := by
  unfold rl
  conv => rhs; rw [← List.take_append_drop k g.row, List.filter_append]
  exact List.prefix_append _ _

set_option maxHeartbeats 4000000 in
theorem iter_some (F : Fence) (hF : Hid (F = Fence.wide)) (n : Nat) (hn : 1 ≤ n) (l c bc bt gb cap : Nat) (g : G) (t : Int) (hkn : Known g) (hlen : g.row.length ≤ 1048576) (hrv : g.rv = .slice (some ⟨gb, 0, none⟩) g.row.length cap) (J Jx : List Int → World → Prop)
    (W : World) (h : Rep W c g) (hbc : Cells W bc 24 [.pointer (some ⟨c, 0, none⟩)]) (hbt : Cells W bt 3 [.int .i64 t])
    (hJ : AbidesFrom W.heap.size J)
    (hY : ∀ pre x W1, J pre W1 → pre.length < g.row.length + 1 → YieldAt F (n - 1) Try.prog l #[.int .i64 x] W1 fun e W' =>
      (e = .returned (.bool true) ∧ J (pre ++ [x]) W' ∧ KpF (fun b => fp c g b ∨ b = bc ∨ b = bt) W1 W') ∨ (e = .returned (.bool false) ∧ Jx (pre ++ [x]) W'))
    (h0 : J [] W) :
    CallsIn F n Try.prog 50 #[.func (.yield l) #[] #[], .pointer (some ⟨bc, 0, none⟩), .pointer (some ⟨bt, 0, none⟩)] W fun e W' => (∃ v, e = .returned v) ∧
      ((∃ xs, xs = rl g t ∧ J xs W') ∨ (∃ pre, (pre ≠ [] ∧ pre <+: rl g t) ∧ Jx pre W')) := by
  have h50 : F.fn 50 := by rw [hF.out]; trivial
  have hnone : ∀ (f : FuncId), (none : Option FuncId) = some f → F.fn f := fun _ h => nomatch h
  have h31 : F.fn 31 := by rw [hF.out]; trivial
  have hro : F.round = none := by rw [hF.out]; rfl
  have k0 := hbc.cell 0 _ rfl
  have k17 := h.c17
  rw [hrv] at k17
  refine callsIn_of_wp Try.func50 rfl h50 ?_ hro
  simp only [Try.ntmps50, List.size_toArray, List.length_cons, List.length_nil, Nat.reduceAdd, Nat.reduceSub, Array.replicate_succ, Array.replicate_zero, List.push_toArray, List.append_toArray, List.nil_append, List.cons_append]
  have hrow : ∀ k, k < g.row.length → W.cell? ⟨gb, k, none⟩ = some (.int .i64 (g.row[k]?.getD 0)) := by
    intro k hk
    have := row_cells h (gb := gb) (by rw [hrv]; rfl) k (.int .i64 (g.row[k]?.getD 0)) (by simp [hk])
    unfold Addr.add at this
    by_cases hk0 : k = 0
    · subst hk0; simpa using this
    · simpa [hk0] using this
  have hbclt := hbc.lt
  have hbtlt := hbt.lt
  gi_wp2
  gi_loopw [12] (fun i wr => ∃ k : Nat, k ≤ g.row.length ∧ i = .int .i64 k ∧ J ((g.row.take k).filter (isr g.E t)) wr ∧ KpF (fun b => fp c g b ∨ b = bc ∨ b = bt) W wr)
    (fun i _ => g.row.length - (intOf i).toNat)
  case atStart => exact ⟨0, Nat.zero_le _, rfl, h0, fun _ _ => rfl⟩
  case round =>
    obtain ⟨k, hk, rfl, hJs, hkp⟩ := hrel
    have hr : Rep wr c g := h.same fun b hb => hkp b (.inl hb)
    have hbc' : wr.cell? ⟨bc, 0, none⟩ = some (.pointer (some ⟨c, 0, none⟩)) := (hbc.same (hkp _ (.inr (.inl rfl)))).cell 0 _ rfl
    have hbt' : wr.cell? ⟨bt, 0, none⟩ = some (.int .i64 t) := (hbt.same (hkp _ (.inr (.inr rfl)))).cell 0 _ rfl
    have hc0 := hr.c0
    have hc17 := hr.c17
    rw [hrv] at hc17
    by_cases hlt : k < g.row.length
    · have hcx : wr.cell? ⟨gb, k, none⟩ = some (.int .i64 (g.row[k]?.getD 0)) := (World.cell?_of_block (w := W) (hkp gb (.inl (.inr (.inr (.inl (by rw [hrv]; rfl))))))).trans (hrow k hlt)
      obtain ⟨e, hf⟩ := hkn (g.row[k]?.getD 0) (by simp [hlt])
      have hs := rl_take_succ g t k hlt _ rfl
      generalize g.row[k]?.getD 0 = x at hcx hf hs
      have hl := hr.look_some hf
      obtain ⟨_, k1, k2, _, k4, _⟩ := irq_cells hr hf
      have hcall : CallsIn F (n - 1) Try.prog 31 #[.pointer (some ⟨e.b, 0, none⟩)] wr.drew fun r w' => r = .returned (.bool e.q.rdy) ∧ wr.drew = w' := by rw [hF.out]; exact (callsIn_wide (n := n - 1)).2 (rdy_call hr.drew hf)
      have hisr : isr g.E t x = (e.q.rdy && e.q.thread == t) := by simp [isr, hf]
      rw [hisr] at hs
      have hJd : J ((g.row.take k).filter (isr g.E t)) wr.drew := hJ _ wr wr.drew none hJs ⟨rfl, rfl, rfl, Nat.le_refl _, fun _ _ _ => rfl⟩ (fun r e => by cases e)
      clear hrow h hkn hr hf hisr
      by_cases hrd : e.q.rdy = true
      · rw [hrd] at hcall
        by_cases hth : e.q.thread = t
        · have hbb : (e.q.thread == t) = true := by simpa using hth
          rw [hrd, hbb] at hs
          have Hs : Hid ((g.row.take (k + 1)).filter (isr g.E t) = (g.row.take k).filter (isr g.E t) ++ [x]) := by rw [hs]; show _ = _; simp
          have Hlen : Hid (((g.row.take k).filter (isr g.E t)).length < g.row.length + 1) := by
            have h1 := List.length_filter_le (isr g.E t) (g.row.take k)
            have h2 := List.length_take_le k g.row
            show _ < _; omega
          obtain ⟨fn, tmps, assign, body, hy, hR0⟩ := hY _ x wr.drew hJd Hlen.out
          have hR := hR0.mono (R' := fun e W' => ∃ bv, e = .returned (.bool bv) ∧ ((bv = true ∧ J ((g.row.take k).filter (isr g.E t) ++ [x]) W' ∧ KpF (fun b => fp c g b ∨ b = bc ∨ b = bt) wr.drew W') ∨ (bv = false ∧ Jx ((g.row.take k).filter (isr g.E t) ++ [x]) W'))) (by
            rintro e W' (⟨rfl, h1, h2⟩ | ⟨rfl, h1⟩)
            · exact ⟨true, rfl, .inl ⟨rfl, h1, h2⟩⟩
            · exact ⟨false, rfl, .inr ⟨rfl, h1⟩⟩)
          clear hrd hs hth hY hR0
          gi_wp2
          gi_region_with (first | (gi_at_call 31; refine hcall.mono ?_; rintro e w' ⟨rfl, rfl⟩) | (with_reducible refine And.intro hnone ?_) | ((with_reducible refine hR.mono ?_); rintro e W3 ⟨bv, rfl, hres⟩))
          all_goals rcases hres with ⟨rfl, hJ3, hk3⟩ | ⟨rfl, hJx3⟩
          all_goals gi_wp2
          all_goals first
            | (go_roundw
               case rel => exact ⟨k + 1, by omega, by go_num, by rw [Hs.out]; exact hJ3, fun b hb => (hk3 b hb).trans (hkp b hb)⟩
               case measure => simp [intOf]; omega)
            | (refine bodyPost_ret (results_none rfl _ _ _) rfl ?_
               exact ⟨⟨_, rfl⟩, .inr ⟨_, ⟨by simp, by rw [← Hs.out]; exact rl_prefix g t (k + 1)⟩, hJx3⟩⟩)
        · have hbb : (e.q.thread == t) = false := by simpa using hth
          rw [hrd, hbb] at hs
          have Hs : Hid ((g.row.take (k + 1)).filter (isr g.E t) = (g.row.take k).filter (isr g.E t)) := by rw [hs]; show _ = _; simp
          clear hrd hs hth
          gi_wp2
          gi_region_with (first | (gi_at_call 31; refine hcall.mono ?_; rintro e w' ⟨rfl, rfl⟩) | (with_reducible refine And.intro hnone ?_))
          all_goals gi_wp2
          all_goals go_roundw
          all_goals first | exact ⟨k + 1, by omega, by go_num, by rw [Hs.out]; exact hJd, hkp⟩ | (simp [intOf]; omega)
      · have hrd' : e.q.rdy = false := by simpa using hrd
        rw [hrd'] at hcall hs
        have Hs : Hid ((g.row.take (k + 1)).filter (isr g.E t) = (g.row.take k).filter (isr g.E t)) := by rw [hs]; show _ = _; simp
        clear hrd hrd' hs
        gi_wp2
        gi_region_with (first | (gi_at_call 31; refine hcall.mono ?_; rintro e w' ⟨rfl, rfl⟩) | (with_reducible refine And.intro hnone ?_))
        all_goals gi_wp2
        all_goals go_roundw
        all_goals first | exact ⟨k + 1, by omega, by go_num, by rw [Hs.out]; exact hJd, hkp⟩ | (simp [intOf]; omega)
    · obtain rfl : k = g.row.length := by omega
      gi_wp2
      go_end0
      rw [List.take_length] at hJs
      exact ⟨⟨_, rfl⟩, .inl ⟨_, rfl, hJs⟩⟩
end Go.Proofs.Ytekgfdfganelmaa
