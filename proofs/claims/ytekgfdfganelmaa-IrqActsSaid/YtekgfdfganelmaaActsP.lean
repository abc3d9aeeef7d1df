/- The two controllers, entry by entry: plain lists. No condition. -/
import Derived.Test.YtekgfdfganelmaaActsA
import Derived.Test.YtekgfdfganelmaaRefK
import Derived.Test.YtekgfdfganelmaaCountP
namespace Go.Proofs.Ytekgfdfganelmaa
open Go.RowKit

def toRc (e : Ent) : Rc := ⟨e.id, e.q.line, e.q.thread, e.q.lost, e.q.masked⟩
def img (E : List Ent) : List Rc := E.map toRc
theorem nth_img {E : List Ent} {k : Nat} {e : Ent} (h : E[k]? = some e) : nth (img E) k = toRc e := by simp [nth, img, h]
theorem upd_none {E : List Ent} {id : Int} (q : Irq) (h : ∀ e ∈ E, e.id ≠ id) : upd E id q = E := by
  unfold upd
  conv => rhs; rw [← List.map_id E]
  exact List.map_congr_left fun e he => by simp [h e he]
/-- Where the entry of a number stands. -/
theorem find_at {E : List Ent} (hids : E.Pairwise (fun a b => a.id ≠ b.id)) {id : Int} {e : Ent} (hf : find E id = some e) :
    ∃ k, E[k]? = some e ∧ (∀ j x, j < k → E[j]? = some x → x.id ≠ id) ∧ (∀ q, upd E id q = E.set k { e with q := q }) ∧ rem E id = E.take k ++ E.drop (k + 1) := by
  induction E with
  | nil => simp [find] at hf
  | cons x r ih =>
    obtain ⟨h1, h2⟩ := List.pairwise_cons.1 hids
    by_cases hx : id = x.id
    · subst hx
      simp [find] at hf
      subst hf
      refine ⟨0, rfl, fun j y hj => by omega, fun q => ?_, by simp [rem]⟩
      have := upd_none (E := r) (id := x.id) q (fun e he => (h1 e he).symm)
      simp only [upd, List.map_cons, if_true, List.set_cons_zero]
      exact congrArg _ this
    · simp only [find, hx, if_false] at hf
      obtain ⟨k, a, b, c, d⟩ := ih h2 hf
      refine ⟨k + 1, by simpa using a, ?_, fun q => ?_, ?_⟩
      · intro j y hj hy
        cases j with
        | zero => simp at hy; subst hy; exact fun e => hx e.symm
        | succ j => exact b j y (by omega) (by simpa using hy)
      · have hx' : ¬ x.id = id := fun e => hx e.symm
        have := c q
        simp only [upd, List.map_cons, hx', if_false, List.set_cons_succ] at this ⊢
        rw [this]
      · simp [rem, hx, d]
theorem atI_none' {E : List Ent} {id : Int} (hf : find E id = none) : atI (img E) id = none := by
  unfold atI img
  rw [List.findIdx?_eq_none_iff]
  intro q hq
  obtain ⟨e, he, rfl⟩ := List.mem_map.1 hq
  simpa [toRc] using find_none hf e he
theorem atI_some' {E : List Ent} {id : Int} {k : Nat} {e : Ent} (hk : E[k]? = some e) (hid : e.id = id) (hp : ∀ j x, j < k → E[j]? = some x → x.id ≠ id) : atI (img E) id = some k := by
  have hkl : k < E.length := (List.getElem?_eq_some_iff.1 hk).1
  refine atI_some (by simpa [img] using hkl) (by rw [nth_img hk]; exact hid) fun j hj => ?_
  have hj' : j < E.length := by omega
  have hje := List.getElem?_eq_getElem hj'
  rw [nth_img hje]
  exact hp j _ hj hje
theorem img_set (E : List Ent) (k : Nat) (e : Ent) : img (E.set k e) = (img E).set k (toRc e) := by simp [img, List.map_set]
theorem img_cut (E : List Ent) (k : Nat) : img (E.take k ++ E.drop (k + 1)) = (img E).take k ++ (img E).drop (k + 1) := by simp [img, List.map_take, List.map_drop]
theorem img_len (E : List Ent) : (img E).length = E.length := by simp [img]

/-- A number's entry, and the document's record of it. -/
theorem both {E : List Ent} (hids : E.Pairwise (fun a b => a.id ≠ b.id)) {id : Int} {e : Ent} (hf : find E id = some e) :
    ∃ k, atI (img E) id = some k ∧ k < (img E).length ∧ nth (img E) k = toRc e ∧ (∀ q, img (upd E id q) = (img E).set k (toRc { e with q := q })) ∧ img (rem E id) = (img E).take k ++ (img E).drop (k + 1) := by
  obtain ⟨k, a, b, c, d⟩ := find_at hids hf
  refine ⟨k, atI_some' a (find_mem hf).2 b, ?_, nth_img a, fun q => by rw [c q, img_set], by rw [d, img_cut]⟩
  rw [img_len]; exact (List.getElem?_eq_some_iff.1 a).1

/-- What one entry says, at a number. -/
structure OneOk (lines row : List Int) (t : Nat) (id : Int) (q : Irq) : Prop where
  pend : q.pending = decide (id ∈ row)
  id0 : 0 ≤ id
  id1 : id ≤ 9223372036854775807
  line : q.line = -1 ∨ ∃ p : Nat, p < 16 ∧ q.line = p ∧ lines[p]?.getD 0 = wrap64 (id + 1)
  thr : -1 ≤ q.thread
  lost0 : 0 ≤ q.lost
  lost1 : q.lost ≤ t
structure SI (E : List Ent) (lines row : List Int) (t : Nat) : Prop where
  nd : row.Nodup
  sub : ∀ id ∈ row, ∃ e, find E id = some e
  ok : ∀ id e, find E id = some e → OneOk lines row t id e.q
  lns : ∀ p : Nat, p < 16 → lines[p]?.getD 0 = 0 ∨ ∃ id e, find E id = some e ∧ e.q.line = p
  len16 : List.length lines = 16
  lenE : E.length ≤ t
  lenR : row.length ≤ t

section
variable {E : List Ent} {lines row : List Int} {t : Nat}
theorem OneOk.mono {id : Int} {q : Irq} (h : OneOk lines row t id q) : OneOk lines row (t + 1) id q := { h with lost1 := by have := h.lost1; omega }
theorem SI.mono (h : SI E lines row t) : SI E lines row (t + 1) :=
  { h with ok := fun id e hf => (h.ok id e hf).mono, lenE := by have := h.lenE; omega, lenR := by have := h.lenR; omega }
theorem SI.new : SI [] (List.replicate 16 0) [] 0 :=
  ⟨by simp, by simp, by simp [find], fun p hp => .inl (by rw [List.getElem?_replicate]; simp [hp]), by simp, by simp, by simp⟩
/-- An entry is turned. -/
theorem SI.up (h : SI E lines row t) {id : Int} {e : Ent} (hf : find E id = some e) (q : Irq) {lines' row' : List Int} (hnd : row'.Nodup) (hsub : ∀ x, x ≠ id → (x ∈ row' ↔ x ∈ row)) (hp : q.pending = decide (id ∈ row'))
    (hl0 : lines'.length = 16) (hl1 : ∀ x p, x ≠ id → p < 16 → lines[p]?.getD 0 = wrap64 (x + 1) → 0 ≤ x → x ≤ 9223372036854775807 → lines'[p]?.getD 0 = wrap64 (x + 1))
    (hl2 : ∀ p : Nat, p < 16 → lines'[p]?.getD 0 = 0 ∨ q.line = p ∨ (lines'[p]?.getD 0 = lines[p]?.getD 0 ∧ e.q.line ≠ p))
    (hl3 : q.line = -1 ∨ ∃ p : Nat, p < 16 ∧ q.line = p ∧ lines'[p]?.getD 0 = wrap64 (id + 1))
    (ht : -1 ≤ q.thread) (h0 : 0 ≤ q.lost) {t' : Nat} (htt : t ≤ t') (h1 : q.lost ≤ t') (hR : row'.length ≤ t') : SI (upd E id q) lines' row' t' := by
  have o := h.ok id e hf
  refine ⟨hnd, ?_, ?_, ?_, hl0, by simp [upd]; have := h.lenE; omega, hR⟩
  · intro x hx
    by_cases e1 : x = id
    · subst e1; exact ⟨_, find_upd_same hf q⟩
    · rw [find_upd_other e1]; exact h.sub x ((hsub x e1).1 hx)
  · intro x y hy
    by_cases e1 : x = id
    · subst e1
      rw [find_upd_same hf q] at hy
      cases hy
      exact ⟨hp, o.id0, o.id1, hl3, ht, h0, by simpa using h1⟩
    · rw [find_upd_other e1] at hy
      have k := h.ok x y hy
      refine ⟨?_, k.id0, k.id1, ?_, k.thr, k.lost0, by have := k.lost1; omega⟩
      · rw [k.pend]; simp [hsub x e1]
      · rcases k.line with k1 | ⟨p, a, b, c⟩
        · exact .inl k1
        · exact .inr ⟨p, a, b, hl1 x p e1 a c k.id0 k.id1⟩
  · intro p hp
    rcases hl2 p hp with a | a | ⟨a, b⟩
    · exact .inl a
    · exact .inr ⟨id, _, find_upd_same hf q, a⟩
    · rcases h.lns p hp with c | ⟨x, y, c, d⟩
      · exact .inl (a.trans c)
      · right
        refine ⟨x, y, ?_, d⟩
        have e1 : x ≠ id := by
          rintro rfl
          rw [hf] at c; cases c; exact b d
        rw [find_upd_other e1]; exact c
/-- The row stays, and the lines. -/
theorem SI.turn (h : SI E lines row t) {id : Int} {e : Ent} (hf : find E id = some e) (q : Irq) (hp : q.pending = e.q.pending) (hl : q.line = e.q.line) (ht : -1 ≤ q.thread) (h0 : 0 ≤ q.lost) {t' : Nat} (htt : t ≤ t') (h1 : q.lost ≤ t') : SI (upd E id q) lines row t' := by
  have o := h.ok id e hf
  refine h.up hf q h.nd (fun _ _ => Iff.rfl) (by rw [hp]; exact o.pend) h.len16 (fun _ _ _ _ a _ _ => a) ?_ (by rw [hl]; exact o.line) ht h0 htt h1 (by have := h.lenR; omega)
  intro p _
  by_cases e1 : e.q.line = p
  · exact .inr (.inl (by rw [hl, e1]))
  · exact .inr (.inr ⟨rfl, e1⟩)
theorem SI.add (h : SI E lines row t) {id : Int} (hf : find E id = none) (b : Nat) (h0 : 0 ≤ id) (h1 : id ≤ 9223372036854775807) : SI (E ++ [⟨id, b, .fresh⟩]) lines row (t + 1) := by
  have key : ∀ x y, find E x = some y → find (E ++ [⟨id, b, .fresh⟩]) x = some y := fun x y hy => by rw [find_append, hy]
  refine ⟨h.nd, ?_, ?_, ?_, h.len16, by simp; have := h.lenE; omega, by have := h.lenR; omega⟩
  · intro x hx
    obtain ⟨y, hy⟩ := h.sub x hx
    exact ⟨y, key x y hy⟩
  · intro x y hy
    rw [find_append] at hy
    cases hx : find E x with
    | some z => rw [hx] at hy; cases hy; exact (h.ok x y hx).mono
    | none =>
      rw [hx] at hy
      by_cases e1 : x = id
      · subst e1
        simp at hy; subst hy
        have hnr : x ∉ row := fun hx' => by
          obtain ⟨z, hz⟩ := h.sub x hx'
          rw [hx] at hz; cases hz
        exact ⟨by simp [Irq.fresh, hnr], h0, h1, .inl rfl, by simp [Irq.fresh], by simp [Irq.fresh], by simp [Irq.fresh]; omega⟩
      · simp [e1] at hy
  · intro p hp
    rcases h.lns p hp with a | ⟨x, y, a, c⟩
    · exact .inl a
    · exact .inr ⟨x, y, key x y a, c⟩
theorem SI.remove (h : SI E lines row t) (hids : E.Pairwise (fun a b => a.id ≠ b.id)) {id : Int} {e : Ent} (hf : find E id = some e) {lines' row' : List Int} (hrow : row' = flt row id) (hl0 : lines'.length = 16)
    (hl1 : ∀ x p, x ≠ id → p < 16 → lines[p]?.getD 0 = wrap64 (x + 1) → 0 ≤ x → x ≤ 9223372036854775807 → lines'[p]?.getD 0 = wrap64 (x + 1))
    (hl2 : ∀ p : Nat, p < 16 → lines'[p]?.getD 0 = 0 ∨ (lines'[p]?.getD 0 = lines[p]?.getD 0 ∧ e.q.line ≠ p)) : SI (rem E id) lines' row' (t + 1) := by
  subst hrow
  have hfr := find_rem hids id
  have hmem : ∀ x, x ∈ flt row id ↔ x ∈ row ∧ x ≠ id := by intro x; simp [flt]
  refine ⟨h.nd.filter _, ?_, ?_, ?_, hl0, ?_, ?_⟩
  · intro x hx
    obtain ⟨a, b⟩ := (hmem x).1 hx
    rw [hfr, if_neg b]; exact h.sub x a
  · intro x y hy
    rw [hfr] at hy
    by_cases e1 : x = id
    · rw [if_pos e1] at hy; cases hy
    · rw [if_neg e1] at hy
      have k := h.ok x y hy
      refine ⟨?_, k.id0, k.id1, ?_, k.thr, k.lost0, by have := k.lost1; omega⟩
      · rw [k.pend]; simp [hmem, e1]
      · rcases k.line with k1 | ⟨p, a, b, c⟩
        · exact .inl k1
        · exact .inr ⟨p, a, b, hl1 x p e1 a c k.id0 k.id1⟩
  · intro p hp
    rcases hl2 p hp with a | ⟨a, b⟩
    · exact .inl a
    · rcases h.lns p hp with c | ⟨x, y, c, d⟩
      · exact .inl (a.trans c)
      · right
        refine ⟨x, y, ?_, d⟩
        rw [hfr, if_neg]; exact c
        rintro rfl
        rw [hf] at c; cases c; exact b d
  · have := (rem_sublist E id).length_le; have := h.lenE; omega
  · have := flt_le row id; have := h.lenR; omega

/-! What the document's functions say of the image. -/
theorem rowI_mem (row : List Int) (id : Int) : (rowI row id).isSome = decide (id ∈ row) := by
  unfold rowI
  rw [List.findIdx?_isSome, Bool.eq_iff_iff]
  simp
theorem rdy_img (hids : E.Pairwise (fun a b => a.id ≠ b.id)) (h : SI E lines row t) {id : Int} {e : Ent} (hf : find E id = some e) : rdyB (img E) row id = e.q.rdy := by
  obtain ⟨k, h1, h2, h3, h4, h5⟩ := both hids hf
  have o := h.ok id e hf
  unfold rdyB
  rw [h1]
  dsimp only
  rw [h3, rowI_mem, ← o.pend]
  have : decide (0 ≤ e.q.thread) = (e.q.thread != -1) := by
    have := o.thr
    by_cases e1 : e.q.thread = -1
    · rw [e1]; rfl
    · have a : 0 ≤ e.q.thread := by omega
      simp [a, e1]
  show (e.q.pending && !e.q.masked && decide (0 ≤ e.q.thread)) = (e.q.pending && !e.q.masked && e.q.thread != -1)
  rw [← this]
theorem rdy_img_none {id : Int} (hf : find E id = none) : rdyB (img E) row id = false := by
  unfold rdyB; rw [atI_none' hf]
theorem fst_img (hids : E.Pairwise (fun a b => a.id ≠ b.id)) (h : SI E lines row t) (th : Int) : fstV (img E) row th = (row.filter (isr E th)).headD (-1) := by
  have key : ∀ x, isr E th x = fstB (img E) row th x := by
    intro x
    unfold isr fstB
    cases hf : find E x with
    | none => rw [rdy_img_none hf]; rfl
    | some e =>
      obtain ⟨k, h1, h2, h3, h4, h5⟩ := both hids hf
      rw [rdy_img hids h hf, h1]
      dsimp only
      rw [h3]; rfl
  unfold fstV
  rw [show (isr E th) = fstB (img E) row th from funext key, ← List.head?_filter]
  cases (List.filter (fstB (img E) row th) row) <;> rfl
theorem find_of_mem (hids : E.Pairwise (fun a b => a.id ≠ b.id)) {e : Ent} (he : e ∈ E) : find E e.id = some e := by
  cases hf : find E e.id with
  | none => exact absurd rfl (find_none hf e he)
  | some x =>
    obtain ⟨hx, hxid⟩ := find_mem hf
    rw [key_inj Ent.id hids hx he hxid]
theorem on_img_no (hids : E.Pairwise (fun a b => a.id ≠ b.id)) (h : SI E lines row t) (l : Int) (hl : ∀ p : Nat, p < 16 → l = p → lines[p]?.getD 0 = 0) : onV (img E) l = -1 := by
  unfold onV
  rw [onI_none]
  rintro j hj ⟨h0, h1⟩
  have hj' : j < E.length := by rw [img_len] at hj; exact hj
  have hje := List.getElem?_eq_getElem hj'
  rw [nth_img hje] at h1
  have hm : E[j] ∈ E := List.getElem_mem hj'
  have o := h.ok _ _ (find_of_mem hids hm)
  have h1' : E[j].q.line = l := h1
  rcases o.line with a | ⟨p, hp, a, c⟩
  · omega
  · have := hl p hp (by omega)
    rw [this] at c
    exact wrap_ne _ o.id0 o.id1 c.symm
theorem on_img_yes (hids : E.Pairwise (fun a b => a.id ≠ b.id)) (h : SI E lines row t) (p : Nat) (hp : p < 16) (hl : lines[p]?.getD 0 ≠ 0) : ∃ id e, find E id = some e ∧ e.q.line = p ∧ lines[p]?.getD 0 = wrap64 (id + 1) ∧ onV (img E) p = id := by
  rcases h.lns p hp with a | ⟨id, e, hf, hel⟩
  · exact absurd a hl
  have o := h.ok id e hf
  have hw : lines[p]?.getD 0 = wrap64 (id + 1) := by
    rcases o.line with a | ⟨q, hq, a, c⟩
    · omega
    · have : q = p := by omega
      rw [← this]; exact c
  refine ⟨id, e, hf, hel, hw, ?_⟩
  obtain ⟨k, hk, hkp, _, _⟩ := find_at hids hf
  have hkl : k < E.length := (List.getElem?_eq_some_iff.1 hk).1
  unfold onV
  rw [onI_some (k := k) (by omega) (by rw [img_len]; exact hkl) (by rw [nth_img hk]; exact hel)]
  · show (nth (img E) k).id = id
    rw [nth_img hk]; exact (find_mem hf).2
  · intro j hj he
    have hj' : j < E.length := by omega
    have hje := List.getElem?_eq_getElem hj'
    rw [nth_img hje] at he
    have hm : E[j] ∈ E := List.getElem_mem hj'
    have o2 := h.ok _ _ (find_of_mem hids hm)
    have he' : E[j].q.line = p := he
    have hw2 : lines[p]?.getD 0 = wrap64 (E[j].id + 1) := by
      rcases o2.line with a | ⟨q, hq, a, c⟩
      · omega
      · have : q = p := by omega
        rw [← this]; exact c
    have := wrap_inj _ _ o2.id0 o2.id1 o.id0 o.id1 (hw2.symm.trans hw)
    exact hkp j _ hj hje this
/-- Masking, of both. -/
theorem mask_img (on : Bool) : ∀ (l : List Int) (E : List Ent) (n : Nat), E.Pairwise (fun a b => a.id ≠ b.id) → SI E lines row t →
    l.foldl (rstep on) (img E, n) = (img (mall on l E n).1, (mall on l E n).2) ∧ SI (mall on l E n).1 lines row t
  | [], E, n, _, h => ⟨rfl, h⟩
  | id :: r, E, n, hids, h => by
    unfold mall
    rw [List.foldl_cons]
    cases hf : find E id with
    | none =>
      have e1 : rstep on (img E, n) id = (img E, n) := by unfold rstep; dsimp only; rw [atI_none' hf]
      have e2 : mstep on E id = (E, 0) := by unfold mstep; rw [hf]
      rw [e1, e2]
      exact mask_img on r E n hids h
    | some e =>
      obtain ⟨k, h1, h2, h3, h4, h5⟩ := both hids hf
      have o := h.ok id e hf
      have e2 : mstep on E id = (upd E id { e.q with masked := on }, if e.q.masked = on then 0 else 1) := by unfold mstep; rw [hf]
      have hids' : (upd E id { e.q with masked := on }).Pairwise (fun a b => a.id ≠ b.id) := upd_pairwise id _ (fun a b a' b' _ e1 _ e2 hab => by rw [← e1, ← e2]; exact hab) hids
      have hS : SI (upd E id { e.q with masked := on }) lines row t := h.turn hf { e.q with masked := on } rfl rfl o.thr o.lost0 (Nat.le_refl _) o.lost1
      have e1 : rstep on (img E, n) id = (img (upd E id { e.q with masked := on }), n + if e.q.masked = on then 0 else 1) := by
        unfold rstep
        dsimp only
        rw [h1]
        dsimp only
        rw [h3, h4]
        by_cases hm : e.q.masked = on
        · have : (toRc e).masked = on := hm
          rw [if_pos this, if_pos hm]
          have e4 : toRc { e with q := { e.q with masked := on } } = toRc e := by unfold toRc; simp [hm]
          rw [e4, ← h3]
          have : (img E).set k (nth (img E) k) = img E := by
            apply List.ext_getElem?
            intro i
            rw [List.getElem?_set]
            split
            · rename_i hi; subst hi; exact (nth_some h2).symm
            · rfl
          rw [this]; rfl
        · have : ¬ (toRc e).masked = on := hm
          rw [if_neg this, if_neg hm]; rfl
      rw [e1, e2]
      exact mask_img on r _ _ hids' hS
theorem flt_cut {xs : List Int} (h : xs.Nodup) {id : Int} {j : Nat} (hj : rowI xs id = some j) : j < xs.length ∧ flt xs id = xs.take j ++ xs.drop (j + 1) := by
  induction xs generalizing j with
  | nil => simp [rowI] at hj
  | cons x r ih =>
    obtain ⟨h1, h2⟩ := List.nodup_cons.1 h
    unfold rowI at hj
    rw [List.findIdx?_cons] at hj
    by_cases hx : x = id
    · subst hx
      simp at hj
      subst hj
      refine ⟨by simp, ?_⟩
      have : List.filter (fun y => !(y == x)) r = r := by
        rw [List.filter_eq_self]
        intro a ha
        have : a ≠ x := fun e => h1 (e ▸ ha)
        simpa using this
      simp [flt]
      intro a ha e
      exact h1 (e ▸ ha)
    · simp [hx] at hj
      obtain ⟨i, hi, rfl⟩ := hj
      obtain ⟨a, b⟩ := ih h2 (j := i) hi
      refine ⟨by simp; omega, ?_⟩
      simp only [flt] at b ⊢
      simp [hx, b]
theorem flt_self {xs : List Int} {id : Int} (hj : rowI xs id = none) : flt xs id = xs := by
  have := rowI_mem xs id
  rw [hj] at this
  have hn : id ∉ xs := by simpa using this
  unfold flt
  rw [List.filter_eq_self]
  intro a ha
  have : a ≠ id := fun e => hn (e ▸ ha)
  simpa using this
end
end Go.Proofs.Ytekgfdfganelmaa
