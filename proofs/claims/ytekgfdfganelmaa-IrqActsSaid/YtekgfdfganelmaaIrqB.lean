/- Walks of the irq controller's small functions. Conditions: the controller's blocks hold what Rep says. -/
import Derived.Test.YtekgfdfganelmaaIrqA
namespace Go.Proofs.Ytekgfdfganelmaa
open Go.RowKit

def Post (c : Nat) (w : World) (g g' : G) (w' : World) : Prop := Rep w' c g' ∧ Chg (fp c g) w w' ∧ ∀ b, fp c g' b → fp c g b ∨ w.heap.size ≤ b

theorem Rep.c0 {w : World} {c : Nat} {g : G} (h : Rep w c g) : w.cell? ⟨c, 0, none⟩ = some (.map (some g.m)) := h.ctl.cell 0 _ rfl
theorem Rep.c17 {w : World} {c : Nat} {g : G} (h : Rep w c g) : w.cell? ⟨c, 17, none⟩ = some g.rv := h.ctl.cell 17 _ (by simp [h.len])
theorem Rep.f17 {w : World} {c : Nat} {g : G} (h : Rep w c g) (i : Nat) : w.frozen? ⟨c, i, none⟩ = false := h.ctl.free i
theorem zero56 (w : World) : (zeroValue 56).run Try.prog w = .ok (.pointer none) w := by kernel_rfl
theorem Rep.look_some {w : World} {c : Nat} {g : G} (h : Rep w c g) {id : Int} {e : Ent} (hf : find g.E id = some e) :
    (Instr.lookup 52 (.map (some g.m)) (.int .i64 id) false).run Try.prog w = .ok (.pointer (some ⟨e.b, 0, none⟩)) w := by
  rw [run_lookup_int h.map id false (.pointer none) Try.underlying52 Try.underlying3 (zero56 w)]
  simp [look_kvs, hf, ptr]
theorem Rep.look_none {w : World} {c : Nat} {g : G} (h : Rep w c g) {id : Int} (hf : find g.E id = none) :
    (Instr.lookup 52 (.map (some g.m)) (.int .i64 id) false).run Try.prog w = .ok (.pointer none) w := by
  rw [run_lookup_int h.map id false (.pointer none) Try.underlying52 Try.underlying3 (zero56 w)]
  simp [look_kvs, hf]

set_option maxHeartbeats 400000 in
theorem at_some {w : World} {c : Nat} {g : G} (h : Rep w c g) {id : Int} {e : Ent} (hf : find g.E id = some e) :
    Calls Try.prog 29 #[.pointer (some ⟨c, 0, none⟩), .int .i64 id] w fun r w' => r = .returned (.tuple #[.pointer (some ⟨e.b, 0, none⟩), .int .i64 0]) ∧ w = w' := by
  have h0 := h.c0
  have hl := h.look_some hf
  clear h hf
  go_enter Try.func29, Try.ntmps29
  go_wp2
  go_ret2
  exact ⟨rfl, rfl⟩
set_option maxHeartbeats 400000 in
theorem at_none {w : World} {c : Nat} {g : G} (h : Rep w c g) {id : Int} (hf : find g.E id = none) :
    Calls Try.prog 29 #[.pointer (some ⟨c, 0, none⟩), .int .i64 id] w fun r w' => r = .returned (.tuple #[.pointer none, .int .i64 6]) ∧ w = w' := by
  have h0 := h.c0
  have hl := h.look_none hf
  clear h hf
  go_enter Try.func29, Try.ntmps29
  go_wp2
  go_ret2
  exact ⟨rfl, rfl⟩

theorem irq_cells {w : World} {c : Nat} {g : G} (h : Rep w c g) {id : Int} {e : Ent} (hf : find g.E id = some e) :
    w.cell? ⟨e.b, 0, none⟩ = some (.int .i64 e.q.line) ∧ w.cell? ⟨e.b, 1, none⟩ = some (.bool e.q.masked) ∧ w.cell? ⟨e.b, 2, none⟩ = some (.int .i64 e.q.thread) ∧
    w.cell? ⟨e.b, 3, none⟩ = some (.int .i64 e.q.lost) ∧ w.cell? ⟨e.b, 4, none⟩ = some (.bool e.q.pending) ∧ ∀ i, w.frozen? ⟨e.b, i, none⟩ = false := by
  have k := h.irq e (find_mem hf).1
  exact ⟨k.cell 0 _ rfl, k.cell 1 _ rfl, k.cell 2 _ rfl, k.cell 3 _ rfl, k.cell 4 _ rfl, k.free⟩

theorem Post.setIrq {w : World} {c : Nat} {g : G} (h : Rep w c g) {id : Int} {e : Ent} (hf : find g.E id = some e) (i : Nat) (v : Value) (q : Irq) (hq : e.q.cells.set i v = q.cells) :
    Post c w g { g with E := upd g.E id q } (w.setCell ⟨e.b, i, none⟩ v) := by
  refine ⟨h.setIrq hf i v q hq, (Chg.refl _ _).set _ _ (.inl (.inr (.inr (.inr ⟨e, (find_mem hf).1, rfl⟩)))), ?_⟩
  rintro b (rfl | rfl | hb | ⟨x, hx, rfl⟩)
  · exact .inl (.inl rfl)
  · exact .inl (.inr (.inl rfl))
  · exact .inl (.inr (.inr (.inl hb)))
  · obtain ⟨y, hy, hyb, _⟩ := mem_upd hx
    exact .inl (.inr (.inr (.inr ⟨y, hy, hyb⟩)))
theorem Post.trans {w w1 w2 : World} {c : Nat} {g g1 g2 : G} (h : Post c w g g1 w1) (k : Post c w1 g1 g2 w2) : Post c w g g2 w2 := by
  obtain ⟨r1, c1, f1⟩ := h
  obtain ⟨r2, c2, f2⟩ := k
  have hs := c1.size
  exact ⟨r2, c1.trans c2 f1, fun b hb => by rcases f2 b hb with h' | h'; exact f1 b h'; exact .inr (by omega)⟩
theorem Post.refl {w : World} {c : Nat} {g : G} (h : Rep w c g) : Post c w g g w := ⟨h, Chg.refl _ _, fun _ hb => .inl hb⟩

-- Trigger
set_option maxHeartbeats 400000 in
theorem trigger_none {w : World} {c : Nat} {g : G} (h : Rep w c g) {id : Int} (hf : find g.E id = none) :
    Calls Try.prog 12 #[.pointer (some ⟨c, 0, none⟩), .int .i64 id] w fun r w' => r = .returned (.int .i64 6) ∧ w = w' := by
  go_enter Try.func12, Try.ntmps12
  go_wp2_with (go_at_call 29; refine (at_none h hf).mono ?_; rintro e w' ⟨rfl, rfl⟩)
  go_ret
  exact ⟨rfl, rfl⟩
set_option maxHeartbeats 400000 in
theorem trigger_lost {w : World} {c : Nat} {g : G} (h : Rep w c g) {id : Int} {e : Ent} (hf : find g.E id = some e) (hp : e.q.pending = true) (hl : 0 ≤ e.q.lost) (hl2 : e.q.lost < 4611686018427387904) :
    Calls Try.prog 12 #[.pointer (some ⟨c, 0, none⟩), .int .i64 id] w fun r w' => r = .returned (.int .i64 0) ∧ Post c w g { g with E := upd g.E id { e.q with lost := e.q.lost + 1 } } w' := by
  have hpost := Post.setIrq h hf 3 (.int .i64 (e.q.lost + 1)) { e.q with lost := e.q.lost + 1 } rfl
  obtain ⟨_, _, _, k3, k4, kf⟩ := irq_cells h hf
  rw [hp] at k4
  have kf3 := kf 3
  clear kf
  have hcall := at_some h hf
  clear h hf hp
  go_enter Try.func12, Try.ntmps12
  go_wp2_with (go_at_call 29; refine hcall.mono ?_; rintro e w' ⟨rfl, rfl⟩)
  go_ret
  exact ⟨rfl, hpost⟩

theorem Try.info3 : (Try.prog.info? 3).map (fun i => (i.zero, i.size, i.bytes)) = some (some (.int .i64 0), 1, 8) := by kernel_rfl

theorem Post.append {w w1 : World} {c : Nat} {g : G} (h : Rep w c g) {rv' : Value} {row' : List Int} (hr : w1.ownsRow 0 3 1 rv' row'.length (row'.map (Value.int .i64))) (hg : w.grownBy w1 g.rv.ownBlock)
    (ho : rv'.ownBlock = g.rv.ownBlock ∨ ∃ k, rv'.ownBlock = some k ∧ w.heap.size ≤ k) : Post c w g { g with rv := rv', row := row' } (w1.setCell ⟨c, 17, none⟩ rv') := by
  have hb : ∀ b, b = c ∨ b = g.m ∨ (∃ e ∈ g.E, e.b = b) → w1.heap[b]? = w.heap[b]? := by
    intro b hb
    have hlt : b < w.heap.size := h.lt (by rcases hb with h | h | h; exact .inl h; exact .inr (.inl h); exact .inr (.inr (.inr h)))
    refine hg.block b hlt fun e => ?_
    rcases hb with rfl | rfl | ⟨x, hx, rfl⟩
    · exact (h.rne e.symm).1 rfl
    · exact h.mne.2.2 _ e.symm rfl
    · exact (h.rne e.symm).2 x hx rfl
  have r1 : Rep w1 c { g with rv := g.rv, row := g.row } ∨ True := .inr trivial
  clear r1
  have hc1 : Cells w1 c 55 (.map (some g.m) :: (g.lines.map (Value.int .i64) ++ [g.rv])) := h.ctl.same (hb c (.inl rfl))
  have hi1 : ∀ e ∈ g.E, Cells w1 e.b 62 e.q.cells := fun e he => (h.irq e he).same (hb _ (.inr (.inr ⟨e, he, rfl⟩)))
  refine ⟨⟨?_, h.len, MapIs.set (MapIs.same h.map (hb _ (.inr (.inl rfl)))) _ _, fun e he => (hi1 e he).set_other _ _ (h.cne he).symm, ownsRow_set hr _ _ fun hb => ?_, h.nd, h.ids⟩, ?_, ?_⟩
  · have := hc1.set 17 rv'
    simpa [List.set_append, h.len] using this
  · obtain ⟨cs, hc⟩ := ownsRow_block hr hb
    exact hc1.type_ne hc (by decide) rfl
  · exact ((Chg.refl _ _).grown hg fun k hk => .inl (.inr (.inr (.inl hk)))).set _ _ (.inl (.inl rfl))
  · rintro b (rfl | rfl | hb | ⟨x, hx, rfl⟩)
    · exact .inl (.inl rfl)
    · exact .inl (.inr (.inl rfl))
    · rcases ho with ho | ⟨k, hk, hle⟩
      · exact .inl (.inr (.inr (.inl (ho ▸ hb))))
      · have hb' : rv'.ownBlock = some b := hb
        rw [hk] at hb'; cases hb'; exact .inr hle
    · exact .inl (.inr (.inr (.inr ⟨x, hx, rfl⟩)))

theorem Rep.cell_grown {w w2 : World} {c : Nat} {g : G} (h : Rep w c g) (hg : w.grownBy w2 g.rv.ownBlock) : w2.cell? ⟨c, 17, none⟩ = some g.rv ∧ w2.frozen? ⟨c, 17, none⟩ = false := by
  have hc : Cells w2 c 55 (.map (some g.m) :: (g.lines.map (Value.int .i64) ++ [g.rv])) := h.ctl.same (hg.block c h.ctl.lt fun e => (h.rne e.symm).1 rfl)
  exact ⟨hc.cell 17 _ (by simp [h.len]), hc.free 17⟩

set_option maxHeartbeats 400000 in
theorem trigger_new {w : World} {c : Nat} {g : G} (h : Rep w c g) {id : Int} {e : Ent} (hf : find g.E id = some e) (hp : e.q.pending = false) (hlen : g.row.length < 1048576) :
    Calls Try.prog 12 #[.pointer (some ⟨c, 0, none⟩), .int .i64 id] w fun r w' => r = .returned (.int .i64 0) ∧ ∃ rv', Post c w g { g with E := upd g.E id { e.q with pending := true }, row := g.row ++ [id], rv := rv' } w' := by
  have hpost := Post.setIrq h hf 4 (.bool true) { e.q with pending := true } rfl
  obtain ⟨_, _, _, k3, k4, kf⟩ := irq_cells h hf
  rw [hp] at k4
  have kf3 := kf 4
  clear kf
  have hcall := at_some h hf
  clear hf hp
  obtain ⟨i0, hi, hz0, hz1, hz2⟩ := info_parts Try.info3
  generalize hw1 : w.setCell ⟨e.b, 4, none⟩ (.bool true) = w1 at hpost
  have h1 := hpost.1
  have h17 := h1.c17
  have hf17 := h1.f17 17
  have hrow := h1.row
  go_enter Try.func12, Try.ntmps12
  go_wp2_with (first | (at_builtin; refine wpList_append_own_at _ rfl _ _ 31 rfl 0 3 i0 (.int .i64 0) 1 8 Try.underlying31 hi hz0 hz1 hz2 rfl (by decide) g.rv g.row.length (g.row.map (Value.int .i64)) rfl (hrow.alloc _) _ 1 1 [.int .i64 id] rfl rfl (cell_one_new _ _ _) (by simp [Value.oneCell']) (by unfold maxLen; omega) (by omega) (by omega) ?_; intro v' w2 hown' hgrow _ hat; obtain ⟨gg, cap, rfl⟩ := ownsRow_succ hown'; have hgrow' := grown_alloc hgrow; have h17' := (h1.cell_grown hgrow').1; have hf17' := (h1.cell_grown hgrow').2) | (go_at_call 29; refine hcall.mono ?_; rintro e w' ⟨rfl, rfl⟩))
  go_ret
  refine ⟨rfl, _, hpost.trans (Post.append h1 (row' := g.row ++ [id]) (by simpa using hown') hgrow' ?_)⟩
  rcases hat with hat | hat
  · exact .inl hat
  · exact .inr ⟨_, hat, by simp⟩
end Go.Proofs.Ytekgfdfganelmaa
