/- Walks of the irq controller's functions: Unbind, Remove, Pending, Mask. Conditions: the controller's blocks hold what Rep says. -/
import Derived.Test.YtekgfdfganelmaaIrqE
namespace Go.Proofs.Ytekgfdfganelmaa
open Go.RowKit

set_option maxHeartbeats 400000 in
theorem unbind_none {w : World} {c : Nat} {g : G} (h : Rep w c g) {id : Int} (hf : find g.E id = none) :
    Calls Try.prog 22 #[.pointer (some ⟨c, 0, none⟩), .int .i64 id] w fun r w' => r = .returned (.int .i64 6) ∧ w = w' := by
  go_enter Try.func22, Try.ntmps22
  go_wp2_with (go_at_call 29; refine (at_none h hf).mono ?_; rintro e w' ⟨rfl, rfl⟩)
  go_ret
  exact ⟨rfl, rfl⟩
set_option maxHeartbeats 400000 in
theorem unbind_state {w : World} {c : Nat} {g : G} (h : Rep w c g) {id : Int} {e : Ent} (hf : find g.E id = some e) (hb : e.q.line = -1) :
    Calls Try.prog 22 #[.pointer (some ⟨c, 0, none⟩), .int .i64 id] w fun r w' => r = .returned (.int .i64 12) ∧ w = w' := by
  have hcall := at_some h hf
  obtain ⟨k0, _⟩ := irq_cells h hf
  rw [hb] at k0
  clear h hf hb
  go_enter Try.func22, Try.ntmps22
  go_wp2_with (first | (go_at_call 29; refine hcall.mono ?_; rintro e w' ⟨rfl, rfl⟩) | (go_at_call 36; refine (bound_any k0).mono ?_; rintro e w' ⟨rfl, rfl⟩))
  go_ret
  exact ⟨rfl, rfl⟩
set_option maxHeartbeats 400000 in
theorem unbind_ok {w : World} {c : Nat} {g : G} (h : Rep w c g) {id : Int} {e : Ent} (hf : find g.E id = some e) (k : Nat) (hk : k < 16) (hb : e.q.line = k) :
    Calls Try.prog 22 #[.pointer (some ⟨c, 0, none⟩), .int .i64 id] w fun r w' => r = .returned (.int .i64 0) ∧ Post c w g { g with E := upd g.E id { e.q with line := -1 }, lines := g.lines.set k 0 } w' := by
  have hcall := at_some h hf
  obtain ⟨k0, _, _, _, _, kf⟩ := irq_cells h hf
  have kf0 := kf 0
  have hln := h.line k hk
  generalize g.lines[k]?.getD 0 = x at hln
  have hcf := h.f17 (1 + k)
  have hp1 := (Post.setLine h k 0 hk).drew
  have hp2 := hp1.trans (Post.setIrq hp1.1 (id := id) (e := e) hf 0 (.int .i64 (-1)) { e.q with line := -1 } rfl)
  have hne : c ≠ e.b := h.cne (find_mem hf).1
  rw [hb] at k0
  clear h hf hb kf hp1
  go_enter Try.func22, Try.ntmps22
  go_wp2_with (first | (go_at_call 29; refine hcall.mono ?_; rintro e w' ⟨rfl, rfl⟩) | (go_at_call 36; refine (bound_any k0).mono ?_; rintro e w' ⟨rfl, rfl⟩))
  go_region
  all_goals go_wp2
  all_goals go_ret
  all_goals exact ⟨rfl, hp2⟩

theorem Post.rem {w w' : World} {c : Nat} {g : G} (h : Rep w c g) (id : Int) (hm : MapInt w' g.m (del (kvs g.E) id)) (hg : w.grownBy w' (some g.m)) : Post c w g { g with E := rem g.E id } w' := by
  have hblk : ∀ k, k < w.heap.size → k ≠ g.m → w'.heap[k]? = w.heap[k]? := fun k hk hne => hg.block k hk (by simpa using hne)
  refine ⟨⟨h.ctl.same (hblk c h.ctl.lt h.mne.1), h.len, ?_, fun e he => (h.irq e (mem_rem he)).same (hblk _ (h.irq e (mem_rem he)).lt (h.mne.2.1 e (mem_rem he))), ownsRow_same h.row fun b hb => hblk b (h.lt (.inr (.inr (.inl hb)))) (h.mne.2.2 b hb), h.nd.sublist (rem_sublist _ _), h.ids.sublist (rem_sublist _ _)⟩, ?_, ?_⟩
  · show MapInt w' g.m (kvs (Ytekgfdfganelmaa.rem g.E id)); rw [← del_kvs]; exact hm
  · exact ⟨hg.os, hg.tape, hg.output, hg.size, fun k hk hne => hblk k hk (fun e => hne (.inr (.inl e)))⟩
  · rintro b (rfl | rfl | hb | ⟨x, hx, rfl⟩)
    · exact .inl (.inl rfl)
    · exact .inl (.inr (.inl rfl))
    · exact .inl (.inr (.inr (.inl hb)))
    · exact .inl (.inr (.inr (.inr ⟨x, mem_rem hx, rfl⟩)))
set_option maxHeartbeats 400000 in
theorem remove_none {w : World} {c : Nat} {g : G} (h : Rep w c g) {id : Int} (hf : find g.E id = none) :
    Calls Try.prog 21 #[.pointer (some ⟨c, 0, none⟩), .int .i64 id] w fun r w' => r = .returned (.int .i64 6) ∧ w = w' := by
  go_enter Try.func21, Try.ntmps21
  go_wp2_with (go_at_call 29; refine (at_none h hf).mono ?_; rintro e w' ⟨rfl, rfl⟩)
  go_ret
  exact ⟨rfl, rfl⟩
def Removed (c : Nat) (w : World) (g : G) (id : Int) (lines : List Int) (w' : World) : Prop := ∃ rv', Post c w g { g with E := rem g.E id, row := flt g.row id, lines := lines, rv := rv' } w'
set_option maxHeartbeats 400000 in
theorem remove_free {w : World} {c : Nat} {g : G} (h : Rep w c g) {id : Int} {e : Ent} (hf : find g.E id = some e) (hb : e.q.line = -1) (hlen : g.row.length ≤ 1048576) :
    Calls Try.prog 21 #[.pointer (some ⟨c, 0, none⟩), .int .i64 id] w fun r w' => r = .returned (.int .i64 0) ∧ Removed c w g id g.lines w' := by
  have hcall := at_some h hf
  obtain ⟨k0, _⟩ := irq_cells h hf
  rw [hb] at k0
  have hoff := off_any h id hlen
  have H : Hid (∀ w1 w', (∃ rv', Post c w g { g with row := flt g.row id, rv := rv' } w1) → MapInt w' g.m (del (kvs g.E) id) → w1.grownBy w' (some g.m) → Removed c w g id g.lines w') :=
    fun w1 w' ⟨rv, hp⟩ hm hg => ⟨rv, hp.trans (Post.rem hp.1 id hm hg)⟩
  clear hf hb
  go_enter Try.func21, Try.ntmps21
  go_wp2_with (first | (go_at_call 29; refine hcall.mono ?_; rintro e w' ⟨rfl, rfl⟩) | (go_at_call 36; refine (bound_any k0).mono ?_; rintro e w' ⟨rfl, rfl⟩) | (go_at_call 32; refine hoff.mono ?_; rintro e w1 ⟨rfl, rv, hp⟩; have hc0 := hp.1.c0; have hmm := hp.1.map) | (refine wpList_delete_int _ rfl _ _ 52 3 3 56 rfl Try.underlying52 Try.underlying3 g.m (kvs g.E) hmm id rfl rfl ?_; intro w2 hm2 hg2))
  go_ret
  exact ⟨rfl, H.out _ _ ⟨rv, hp⟩ hm2 hg2⟩
set_option maxHeartbeats 800000 in
theorem remove_bound {w : World} {c : Nat} {g : G} (h : Rep w c g) {id : Int} {e : Ent} (hf : find g.E id = some e) (k : Nat) (hk : k < 16) (hb : e.q.line = k) (hlen : g.row.length ≤ 1048576) :
    Calls Try.prog 21 #[.pointer (some ⟨c, 0, none⟩), .int .i64 id] w fun r w' => r = .returned (.int .i64 0) ∧ Removed c w g id (g.lines.set k 0) w' := by
  have hcall := at_some h hf
  obtain ⟨k0, _⟩ := irq_cells h hf
  rw [hb] at k0
  have hln := h.line k hk
  generalize g.lines[k]?.getD 0 = x at hln
  have hcf := h.f17 (1 + k)
  have hp0 := (Post.setLine h k 0 hk).drew
  have hoff := off_any hp0.1 id hlen
  have H : Hid (∀ w1 w', (∃ rv', Post c (w.setCell ⟨c, 1 + k, none⟩ (.int .i64 0)).drew { g with lines := g.lines.set k 0 } { g with lines := g.lines.set k 0, row := flt g.row id, rv := rv' } w1) → MapInt w' g.m (del (kvs g.E) id) → w1.grownBy w' (some g.m) → Removed c w g id (g.lines.set k 0) w') :=
    fun w1 w' ⟨rv, hp⟩ hm hg => ⟨rv, (hp0.trans hp).trans (Post.rem hp.1 id hm hg)⟩
  clear hf hb hp0
  go_enter Try.func21, Try.ntmps21
  go_wp2_with (first | (go_at_call 29; refine hcall.mono ?_; rintro e w' ⟨rfl, rfl⟩) | (go_at_call 36; refine (bound_any k0).mono ?_; rintro e w' ⟨rfl, rfl⟩))
  go_region
  all_goals go_wp2_with (first | (go_at_call 32; refine hoff.mono ?_; rintro e w1 ⟨rfl, rv, hp⟩; have hc0 := hp.1.c0; have hmm := hp.1.map) | (refine wpList_delete_int _ rfl _ _ 52 3 3 56 rfl Try.underlying52 Try.underlying3 g.m (kvs g.E) hmm id rfl rfl ?_; intro w2 hm2 hg2))
  all_goals go_ret
  all_goals exact ⟨rfl, H.out _ _ ⟨rv, hp⟩ hm2 hg2⟩
end Go.Proofs.Ytekgfdfganelmaa
