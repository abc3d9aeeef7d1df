/- Walks of the irq controller's functions: Pending, Mask. Conditions: the controller's blocks hold what Rep says. -/
import Derived.Test.YtekgfdfganelmaaIrqF
namespace Go.Proofs.Ytekgfdfganelmaa
open Go.RowKit

theorem grown_none {w w2 : World} {o : Obj} (h : (w.alloc o).grownBy w2 (some w.heap.size)) : w.grownBy w2 none :=
  ⟨h.os, h.tape, h.output, by have := h.size; simp at this; omega, fun k hk _ => (h.block k (by simp; omega) (by simp; omega)).trans (Below.heap_alloc _ _ _ hk)⟩
set_option maxHeartbeats 400000 in
theorem clone_nil (w : World) : Calls Try.prog 34 #[.slice none 0 0] w fun r w' => r = .returned (.slice none 0 0) ∧ w = w' := by
  have hnil := fun (w : World) => Lib.run_eql_slice_nil (P := Try.prog) w 31 3 none 0 0 0 0 Try.underlying31
  go_enter Try.func34, Try.ntmps34
  go_wp2
  go_ret
  exact ⟨rfl, rfl⟩
def Cloned (w : World) (xs : List Int) (r : Ending) (w' : World) : Prop := ∃ v, r = .returned v ∧ w'.ownsRow w.heap.size 3 1 v xs.length (xs.map (Value.int .i64)) ∧ w.grownBy w' none
set_option maxHeartbeats 400000 in
theorem clone_some (w : World) (xs : List Int) (g cap : Nat) (hc : ∀ j u, (xs.map (Value.int .i64))[j]? = some u → w.cell? ((⟨g, 0, none⟩ : Addr).add j) = some u) (hg : g < w.heap.size) (hlen : xs.length ≤ 1048576) :
    Calls Try.prog 34 #[.slice (some ⟨g, 0, none⟩) xs.length cap] w (Cloned w xs) := by
  have hnil := fun (w : World) => Lib.run_eql_slice_nil (P := Try.prog) w 31 3 (some ⟨g, 0, none⟩) xs.length cap 0 0 Try.underlying31
  obtain ⟨i0, hi, hz0, hz1, hz2⟩ := info_parts Try.info3
  have hown : (w.alloc (.cells #[] 3)).ownsRow w.heap.size 3 1 (.slice (some ⟨w.heap.size, 0, none⟩) 0 0) 0 [] :=
    ⟨by simp, .inr ⟨w.heap.size, 0, #[], rfl, Nat.le_refl _, by show (w.heap.push _)[w.heap.size]? = _; simp, Nat.le_refl _, Nat.zero_le _, rfl, rfl⟩⟩
  have hc2 : ∀ j u, (xs.map (Value.int .i64))[j]? = some u → (w.alloc (.cells #[] 3)).cell? ((⟨g, 0, none⟩ : Addr).add j) = some u := by
    intro j u hj
    rw [World.cell?_alloc_lt]
    · exact hc j u hj
    · unfold Addr.add; split <;> exact hg
  have hx : (xs.map (Value.int .i64)).length = xs.length * 1 := by simp
  have h1 : ∀ u ∈ xs.map (Value.int .i64), u.oneCell' = true := by simp [Value.oneCell']
  clear hc
  have Hx : Hid (∀ v' w', w'.ownsRow w.heap.size 3 1 v' (0 + xs.length) ([] ++ xs.map (Value.int .i64)) → (w.alloc (.cells #[] 3)).grownBy w' (some w.heap.size) → Cloned w xs (.returned v') w') :=
    fun v' w' h hg => ⟨v', rfl, by simpa using h, grown_none hg⟩
  generalize hys : xs.map (Value.int .i64) = ys at *
  clear hys
  go_enter Try.func34, Try.ntmps34
  go_wp2_with (at_builtin; refine wpList_append_own _ rfl _ _ 31 rfl w.heap.size 3 i0 (.int .i64 0) 1 8 Try.underlying31 hi hz0 hz1 hz2 rfl (by decide) (.slice (some ⟨w.heap.size, 0, none⟩) 0 0) 0 [] rfl hown _ _ _ ys rfl hx hc2 h1 (by unfold maxLen; omega) (by omega) (by simp) ?_; intro v' w2 hown' hgrow _)
  go_ret
  exact Hx.out _ _ hown' hgrow
theorem row_cells {w : World} {c : Nat} {g : G} (h : Rep w c g) {gb : Nat} (hb : g.rv.ownBlock = some gb) : ∀ j u, (g.row.map (Value.int .i64))[j]? = some u → w.cell? ((⟨gb, 0, none⟩ : Addr).add j) = some u := h.row.cells hb
set_option maxHeartbeats 400000 in
theorem pending_any {w : World} {c : Nat} {g : G} (h : Rep w c g) (hlen : g.row.length ≤ 1048576) :
    Calls Try.prog 17 #[.pointer (some ⟨c, 0, none⟩)] w (Cloned w g.row) := by
  have h17 := h.c17
  rcases h.row.2 with ⟨hrv, hn⟩ | ⟨gb, cap, cur, hrv, _, hgb, hnc, hcm, hcs, htake⟩
  · have hr0 : g.row = [] := List.eq_nil_of_length_eq_zero hn
    have hcall := clone_nil w
    rw [hrv] at h17
    rw [hr0]
    clear h hrv hr0 hn
    go_enter Try.func17, Try.ntmps17
    go_wp2_with (go_at_call 34; refine hcall.mono ?_; rintro e w' ⟨rfl, rfl⟩)
    go_ret
    exact ⟨_, rfl, World.ownsRow_nil _ _ _ _, ⟨rfl, rfl, rfl, Nat.le_refl _, fun _ _ _ => rfl⟩⟩
  · have hcall := clone_some w g.row gb cap (row_cells h (by rw [hrv]; rfl)) (lt_of_block hgb) hlen
    rw [hrv] at h17
    clear h hrv hgb hcs htake
    go_enter Try.func17, Try.ntmps17
    go_wp2_with (go_at_call 34; refine hcall.mono ?_; rintro e w' ⟨v, rfl, ho, hg⟩)
    go_ret
    exact ⟨v, rfl, ho, hg⟩

-- Mask
def mstep (on : Bool) (E : List Ent) (id : Int) : List Ent × Nat :=
  match find E id with
  | none => (E, 0)
  | some e => (upd E id { e.q with masked := on }, if e.q.masked = on then 0 else 1)
def mall (on : Bool) : List Int → List Ent → Nat → List Ent × Nat
  | [], E, n => (E, n)
  | id :: r, E, n => mall on r (mstep on E id).1 (n + (mstep on E id).2)
def MaskRel (on : Bool) (l : List Int) (c : Nat) (w : World) (g : G) (nv iv : Value) (wr : World) : Prop :=
  ∃ k n E, iv = .int .i64 (k : Nat) ∧ nv = .int .i64 (n : Nat) ∧ k ≤ l.length ∧ n ≤ k ∧ Post c w g { g with E := E } wr ∧ mall on (l.drop k) E n = mall on l g.E 0
def MaskPost (on : Bool) (l : List Int) (c : Nat) (w : World) (g : G) (e : Ending) (w' : World) : Prop :=
  e = .returned (.int .i64 ((mall on l g.E 0).2 : Nat)) ∧ Post c w g { g with E := (mall on l g.E 0).1 } w'
set_option maxHeartbeats 1000000 in
theorem mask_any {w : World} {c : Nat} {g : G} (h : Rep w c g) (on : Bool) (l : List Int) (gl ol cap : Nat) (hl : ∀ j, j < l.length → w.cell? ⟨gl, ol + j, none⟩ = some (.int .i64 (l[j]?.getD 0))) (hgl : gl < w.heap.size) (hfp : ¬ fp c g gl) (hlen : l.length ≤ 1048576) :
    Calls Try.prog 13 #[.pointer (some ⟨c, 0, none⟩), .bool on, .slice (some ⟨gl, ol, none⟩) l.length cap] w (MaskPost on l c w g) := by
  have H0 : Hid (MaskRel on l c w g (.int .i64 0) (.int .i64 0) w) := ⟨0, 0, g.E, rfl, rfl, Nat.zero_le _, Nat.zero_le _, Post.refl h, rfl⟩
  have Hl : Hid (∀ j, j < l.length → w.cell? ⟨gl, ol + j, none⟩ = some (.int .i64 (l[j]?.getD 0))) := hl
  clear h hl
  go_enter Try.func13, Try.ntmps13
  go_wp2_with fail
  go_loopw [7, 14] (fun nv iv wr => MaskRel on l c w g nv iv wr) (fun _ iv _ => l.length - (intOf iv).toNat)
  case atStart => exact H0.out
  case round =>
    clear H0
    obtain ⟨k, n, E, rfl, rfl, hk, hn, hp, hm⟩ := hrel
    have Hm : Hid (mall on (l.drop k) E n = mall on l g.E 0) := hm
    clear hm
    by_cases hlt : k < l.length
    · have hck : wr.cell? ⟨gl, ol + k, none⟩ = some (.int .i64 (l[k]?.getD 0)) := (World.cell?_of_block (w := w) (hp.2.1.block gl hgl hfp)).trans (Hl.out k hlt)
      have hd : l.drop k = l[k]?.getD 0 :: l.drop (k + 1) := by rw [List.drop_eq_getElem_cons hlt]; simp [hlt]
      generalize l[k]?.getD 0 = x at hck hd
      have Hm2 : Hid (mall on (l.drop (k + 1)) (mstep on E x).1 (n + (mstep on E x).2) = mall on l g.E 0) := by have := Hm.out; rw [hd] at this; exact this
      clear hd Hm Hl
      cases hf : find E x with
      | none =>
        have hs : mstep on E x = (E, 0) := by simp [mstep, hf]
        have Hm3 : Hid (mall on (l.drop (k + 1)) E n = mall on l g.E 0) := by have := Hm2.out; rw [hs] at this; exact this
        have hcall := at_none hp.1 (id := x) hf
        clear hs Hm2 hf
        go_wp2_with (go_at_call 29; refine hcall.mono ?_; rintro e w' ⟨rfl, rfl⟩)
        go_roundw
        case rel => exact ⟨k + 1, n, E, by go_num, rfl, by omega, by omega, hp, Hm3.out⟩
        case measure => simp [intOf]; omega
      | some e =>
        have hs : mstep on E x = (upd E x { e.q with masked := on }, if e.q.masked = on then 0 else 1) := by simp [mstep, hf]
        have Hm3 : Hid (mall on (l.drop (k + 1)) (upd E x { e.q with masked := on }) (n + if e.q.masked = on then 0 else 1) = mall on l g.E 0) := by have := Hm2.out; rw [hs] at this; exact this
        have hcall := at_some hp.1 (id := x) hf
        obtain ⟨_, k1, _, _, _, kf⟩ := irq_cells hp.1 (id := x) hf
        have kf1 := kf 1
        have hp2 : Hid (Post c w g { g with E := upd E x { e.q with masked := on } } (wr.setCell ⟨e.b, 1, none⟩ (.bool on))) := hp.trans (Post.setIrq hp.1 (id := x) (e := e) hf 1 (.bool on) { e.q with masked := on } rfl)
        have hcall2 := mask1_any (on := on) k1 kf1
        clear hs Hm2 hf kf hp
        by_cases hmo : e.q.masked = on
        · have hb : (e.q.masked != on) = false := by simpa using hmo
          rw [hb] at hcall2
          have Hm4 : Hid (mall on (l.drop (k + 1)) (upd E x { e.q with masked := on }) n = mall on l g.E 0) := by have := Hm3.out; rw [if_pos hmo] at this; exact this
          clear hb hmo Hm3 k1
          go_wp2_with (first | (go_at_call 29; refine hcall.mono ?_; rintro e w' ⟨rfl, rfl⟩) | (go_at_call 30; refine hcall2.mono ?_; rintro e w' ⟨rfl, rfl⟩))
          go_roundw
          case rel => exact ⟨k + 1, n, _, by go_num, rfl, by omega, by omega, hp2.out, Hm4.out⟩
          case measure => simp [intOf]; omega
        · have hb : (e.q.masked != on) = true := by simpa using hmo
          rw [hb] at hcall2
          have Hm4 : Hid (mall on (l.drop (k + 1)) (upd E x { e.q with masked := on }) (n + 1) = mall on l g.E 0) := by have := Hm3.out; rw [if_neg hmo] at this; exact this
          clear hb hmo Hm3 k1
          go_wp2_with (first | (go_at_call 29; refine hcall.mono ?_; rintro e w' ⟨rfl, rfl⟩) | (go_at_call 30; refine hcall2.mono ?_; rintro e w' ⟨rfl, rfl⟩))
          go_roundw
          case rel => exact ⟨k + 1, n + 1, _, by go_num, by go_num, by omega, by omega, hp2.out, Hm4.out⟩
          case measure => simp [intOf]; omega
    · obtain rfl : k = l.length := by omega
      have hm := Hm.out
      rw [List.drop_length] at hm
      have Hm2 : Hid (mall on l g.E 0 = (E, n)) := hm.symm
      clear hm Hm Hl
      go_wp2_with fail
      go_ret
      unfold MaskPost
      rw [Hm2.out]
      exact ⟨rfl, hp⟩
end Go.Proofs.Ytekgfdfganelmaa
