/- Both controllers side by side: a method of the one, then the document's of the other: the same answer, and they stay alike. Condition: what AR says. -/
import Derived.Test.YtekgfdfganelmaaActsP
import Derived.Test.YtekgfdfganelmaaRefL
import Derived.Test.YtekgfdfganelmaaRefI
import Derived.Test.YtekgfdfganelmaaRefG
import Derived.Test.YtekgfdfganelmaaIrqG
import Derived.Test.YtekgfdfganelmaaCountC
namespace Go.Proofs.Ytekgfdfganelmaa
open Go.RowKit

/-- Two controllers all of whose blocks are new since w0; K: blocks that neither has, and what they hold. -/
structure Two (B : Nat) (w0 w : World) (c r : Nat) (g : G) (rg : RG) (K : List (Nat × Obj)) : Prop where
  inn : In B w0 w c g
  rrep : RRep w r rg
  rown : ∀ b, rfp r rg b → B ≤ b
  apart : ∀ b, fp c g b → ¬ rfp r rg b
  keep : ∀ p ∈ K, w.heap[p.1]? = some p.2 ∧ ¬ fp c g p.1 ∧ ¬ rfp r rg p.1
def Kept (K : List (Nat × Obj)) (w : World) : Prop := ∀ p ∈ K, w.heap[p.1]? = some p.2

section
variable {B : Nat} {w0 w w' : World} {c r : Nat} {g g' : G} {rg rg' : RG} {K : List (Nat × Obj)}
theorem Two.kept (h : Two B w0 w c r g rg K) : Kept K w := fun p hp => (h.keep p hp).1
theorem Two.klt (h : Two B w0 w c r g rg K) {p : Nat × Obj} (hp : p ∈ K) : p.1 < w.heap.size := lt_of_block (h.keep p hp).1
theorem Two.post (h : Two B w0 w c r g rg K) (p : Post c w g g' w') : Two B w0 w' c r g' rg K where
  inn := h.inn.post p
  rrep := h.rrep.chg p.2.1 h.apart
  rown := h.rown
  apart := fun b hb hr => by
    rcases p.2.2 b hb with h1 | h1
    · exact h.apart b h1 hr
    · have := h.rrep.lt hr; omega
  keep := fun q hq => by
    obtain ⟨a, b, d⟩ := h.keep q hq
    refine ⟨(p.2.1.block _ (h.klt hq) b).trans a, fun hf => ?_, d⟩
    rcases p.2.2 _ hf with h1 | h1
    · exact b h1
    · have := h.klt hq; omega
theorem Two.rpost (h : Two B w0 w c r g rg K) (p : RPost r w rg rg' w') : Two B w0 w' c r g rg' K where
  inn := ⟨h.inn.rep.chg p.2.1 (fun b hb hf => h.apart b hf hb), h.inn.own, h.inn.bel.trans (p.2.1.below h.inn.le h.rown), Nat.le_trans h.inn.le p.2.1.size⟩
  rrep := p.1
  rown := fun b hb => by
    rcases p.2.2 b hb with h1 | h1
    · exact h.rown b h1
    · exact Nat.le_trans h.inn.le h1
  apart := fun b hb hr => by
    rcases p.2.2 b hr with h1 | h1
    · exact h.apart b hb h1
    · have := h.inn.rep.lt hb; omega
  keep := fun q hq => by
    obtain ⟨a, b, d⟩ := h.keep q hq
    refine ⟨(p.2.1.block _ (h.klt hq) d).trans a, b, fun hf => ?_⟩
    rcases p.2.2 _ hf with h1 | h1
    · exact d h1
    · have := h.klt hq; omega
theorem Two.grown (h : Two B w0 w c r g rg K) (hb : Below w.heap.size w w') : Two B w0 w' c r g rg K where
  inn := h.inn.grown hb
  rrep := h.rrep.same fun b hb' => hb.block b (h.rrep.lt hb')
  rown := h.rown
  apart := h.apart
  keep := fun q hq => by
    obtain ⟨a, b, d⟩ := h.keep q hq
    exact ⟨(hb.block _ (h.klt hq)).trans a, b, d⟩
theorem below_drewN (w : World) (n : Nat) : Below w.heap.size w (w.drewN n) := ⟨rfl, rfl, rfl, Nat.le_refl _, fun _ _ => rfl⟩
theorem Two.drewN (h : Two B w0 w c r g rg K) (n : Nat) : Two B w0 (w.drewN n) c r g rg K := h.grown (below_drewN w n)
theorem Two.alloc (h : Two B w0 w c r g rg K) (o : Obj) : Two B w0 (w.alloc o) c r g rg ((w.heap.size, o) :: K) := by
  have h' := h.grown (w' := w.alloc o) ((Below.refl _ _).alloc (Nat.le_refl _) _)
  refine ⟨h'.inn, h'.rrep, h'.rown, h'.apart, ?_⟩
  intro p hp
  rcases List.mem_cons.1 hp with rfl | hp
  · refine ⟨by show (w.heap.push o)[w.heap.size]? = _; simp, fun hf => ?_, fun hf => ?_⟩
    · have := h.inn.rep.lt hf; simp at this
    · have := h.rrep.lt hf; simp at this
  · exact h'.keep p hp
theorem Two.tail {q : Nat × Obj} (h : Two B w0 w c r g rg (q :: K)) : Two B w0 w c r g rg K := ⟨h.inn, h.rrep, h.rown, h.apart, fun p hp => h.keep p (List.mem_cons_of_mem _ hp)⟩
end

/-- Both are alike, t acts on. -/
def AR (B : Nat) (w0 w : World) (c m r t : Nat) (K : List (Nat × Obj)) : Prop := ∃ E L row rv lv rv2, Two B w0 w c r ⟨m, E, L, row, rv⟩ ⟨img E, row, lv, rv2⟩ K ∧ SI E L row t
/-- The one has answered x; the other one's call answers the same then, and they are alike. -/
def Half (B : Nat) (w0 : World) (c m r t : Nat) (K : List (Nat × Obj)) (f : FuncId) (args : Array Value) (e : Ending) (w1 : World) : Prop :=
  ∃ x, e = .returned (.int .i64 x) ∧ Kept K w1 ∧ ∀ n, Calls Try.prog f args (w1.drewN n) fun e w2 => e = .returned (.int .i64 x) ∧ AR B w0 w2 c m r t K

section
variable {B : Nat} {w0 w : World} {c m r t : Nat} {K : List (Nat × Obj)}
theorem AR.tail {q : Nat × Obj} (h : AR B w0 w c m r t (q :: K)) : AR B w0 w c m r t K := by
  obtain ⟨E, L, row, rv, lv, rv2, h, s⟩ := h; exact ⟨E, L, row, rv, lv, rv2, h.tail, s⟩
theorem AR.alloc (h : AR B w0 w c m r t K) (o : Obj) : AR B w0 (w.alloc o) c m r t ((w.heap.size, o) :: K) := by
  obtain ⟨E, L, row, rv, lv, rv2, h, s⟩ := h; exact ⟨E, L, row, rv, lv, rv2, h.alloc o, s⟩
theorem AR.grown {w' : World} (h : AR B w0 w c m r t K) (hb : Below w.heap.size w w') : AR B w0 w' c m r t K := by
  obtain ⟨E, L, row, rv, lv, rv2, h, s⟩ := h; exact ⟨E, L, row, rv, lv, rv2, h.grown hb, s⟩
theorem AR.kept (h : AR B w0 w c m r t K) : Kept K w := by
  obtain ⟨E, L, row, rv, lv, rv2, h, s⟩ := h; exact h.kept
theorem AR.bel (h : AR B w0 w c m r t K) : Below B w0 w ∧ B ≤ w.heap.size := by
  obtain ⟨E, L, row, rv, lv, rv2, h, s⟩ := h; exact ⟨h.inn.bel, h.inn.le⟩

abbrev cp (c : Nat) : Value := .pointer (some ⟨c, 0, none⟩)

theorem add_pair (h : AR B w0 w c m r t K) (ht : t < 1000) (id : Int) (hid : id ≤ 9223372036854775807) :
    Calls Try.prog 10 #[cp c, .int .i64 id] w (Half B w0 c m r (t + 1) K 37 #[cp r, .int .i64 id]) := by
  obtain ⟨E, L, row, rv, lv, rv2, h, s⟩ := h
  have hids : E.Pairwise (fun a b => a.id ≠ b.id) := h.inn.rep.ids
  have hlE := s.lenE
  have hlen : (img E).length < 1048576 := by rw [img_len]; omega
  by_cases h0 : id < 0
  · refine (add_arg h.inn.rep h0).mono ?_
    rintro e w1 ⟨rfl, rfl⟩
    refine ⟨_, rfl, h.kept, fun n => (rAdd_arg r id h0).mono ?_⟩
    rintro e w2 ⟨rfl, rfl⟩
    exact ⟨rfl, E, L, row, rv, lv, rv2, h.drewN n, s.mono⟩
  · cases hf : find E id with
    | some e =>
      obtain ⟨k, h1, h2, h3, h4, h5⟩ := both hids hf
      refine (add_twice h.inn.rep (by omega) hf).mono ?_
      rintro e w1 ⟨rfl, rfl⟩
      refine ⟨_, rfl, h.kept, fun n => (rAdd_twice (h.drewN n).rrep id (by omega) (Nat.le_of_lt hlen) h1).mono ?_⟩
      rintro e w2 ⟨rfl, rfl⟩
      exact ⟨rfl, E, L, row, rv, lv, rv2, h.drewN n, s.mono⟩
    | none =>
      refine (add_ok h.inn.rep (by omega) hf).mono ?_
      rintro e w1 ⟨rfl, b, hp⟩
      have h' := h.post hp
      refine ⟨_, rfl, h'.kept, fun n => (rAdd_ok (h'.drewN n).rrep id (by omega) hlen (atI_none' hf)).mono ?_⟩
      rintro e w2 ⟨rfl, lv', hp2⟩
      refine ⟨rfl, E ++ [⟨id, b, .fresh⟩], L, row, rv, lv', rv2, ?_, s.add hf b (by omega) hid⟩
      have := (h'.drewN n).rpost hp2
      have e1 : img (E ++ [⟨id, b, .fresh⟩]) = img E ++ [.fresh id] := by simp [img, toRc, Rc.fresh, Irq.fresh]
      rw [e1]; exact this
theorem off_ref {w : World} {rg : RG} (h : RRep w r rg) (hnd : rg.row.Nodup) (id : Int) (hlen2 : rg.row.length ≤ 1048576) :
    Calls Try.prog 51 #[cp r, .int .i64 id] w fun e w' => e = .returned (.tuple #[]) ∧ ∃ rv', RPost r w rg { rg with row := flt rg.row id, rv := rv' } w' := by
  cases hk : rowI rg.row id with
  | none =>
    refine (rOff_none h id hlen2 hk).mono ?_
    rintro e w1 ⟨rfl, rfl⟩
    refine ⟨rfl, rg.rv, ?_⟩
    rw [flt_self hk]; exact RPost.refl h
  | some k =>
    obtain ⟨a, b⟩ := flt_cut hnd hk
    rw [b]; exact rOff_some h id hlen2 hk a
theorem remove_pair (h : AR B w0 w c m r t K) (ht : t < 1000) (id : Int) :
    Calls Try.prog 21 #[cp c, .int .i64 id] w (Half B w0 c m r (t + 1) K 38 #[cp r, .int .i64 id]) := by
  obtain ⟨E, L, row, rv, lv, rv2, h, s⟩ := h
  have hids : E.Pairwise (fun a b => a.id ≠ b.id) := h.inn.rep.ids
  have hlE := s.lenE
  have hlR := s.lenR
  have hlen : (img E).length ≤ 1048576 := by rw [img_len]; omega
  have hlen2 : row.length ≤ 1048576 := by omega
  cases hf : find E id with
  | none =>
    refine (remove_none h.inn.rep hf).mono ?_
    rintro e w1 ⟨rfl, rfl⟩
    refine ⟨_, rfl, h.kept, fun n => (rRemove_none (h.drewN n).rrep id hlen (atI_none' hf)).mono ?_⟩
    rintro e w2 ⟨rfl, rfl⟩
    exact ⟨rfl, E, L, row, rv, lv, rv2, h.drewN n, s.mono⟩
  | some x =>
    obtain ⟨k, h1, h2, h3, h4, h5⟩ := both hids hf
    have o := s.ok id x hf
    have fin : ∀ L', L'.length = 16 → (∀ y p, y ≠ id → p < 16 → L[p]?.getD 0 = wrap64 (y + 1) → 0 ≤ y → y ≤ 9223372036854775807 → L'[p]?.getD 0 = wrap64 (y + 1)) →
        (∀ p : Nat, p < 16 → L'[p]?.getD 0 = 0 ∨ (L'[p]?.getD 0 = L[p]?.getD 0 ∧ x.q.line ≠ p)) → ∀ w1, Removed c w ⟨m, E, L, row, rv⟩ id L' w1 →
        Half B w0 c m r (t + 1) K 38 #[cp r, .int .i64 id] (.returned (.int .i64 0)) w1 := by
      rintro L' a1 a2 a3 w1 ⟨rv', hp⟩
      have h' := h.post hp
      refine ⟨_, rfl, h'.kept, fun n => (rRemove_some (h'.drewN n).rrep id hlen h1 (flt row id) (off_ref (h'.drewN n).rrep s.nd id hlen2)).mono ?_⟩
      rintro e w2 ⟨rfl, lv', rv3, hp2⟩
      refine ⟨rfl, rem E id, L', flt row id, rv', lv', rv3, ?_, s.remove hids hf rfl a1 a2 a3⟩
      have := (h'.drewN n).rpost hp2
      rw [h5]; exact this
    rcases o.line with hb | ⟨p, hp, hb, hw⟩
    · refine (remove_free h.inn.rep hf hb hlen2).mono ?_
      rintro e w1 ⟨rfl, hr⟩
      exact fin L s.len16 (fun _ _ _ _ a _ _ => a) (fun p _ => .inr ⟨rfl, by omega⟩) w1 hr
    · refine (remove_bound h.inn.rep hf p hp hb hlen2).mono ?_
      rintro e w1 ⟨rfl, hr⟩
      refine fin (L.set p 0) (by simp [s.len16]) ?_ ?_ w1 hr
      · intro y q hy hq a b1 b2
        by_cases e1 : p = q
        · subst e1
          rw [hw] at a
          exact absurd (wrap_inj _ _ b1 b2 o.id0 o.id1 a.symm) hy
        · rw [List.getElem?_set_ne e1]; exact a
      · intro q hq
        by_cases e1 : p = q
        · subst e1
          left; simp [s.len16, hp]
        · right; rw [List.getElem?_set_ne e1]; exact ⟨rfl, by omega⟩
theorem bind_pair (h : AR B w0 w c m r t K) (ht : t < 1000) (id l : Int) :
    Calls Try.prog 18 #[cp c, .int .i64 id, .int .i64 l] w (Half B w0 c m r (t + 1) K 39 #[cp r, .int .i64 id, .int .i64 l]) := by
  obtain ⟨E, L, row, rv, lv, rv2, h, s⟩ := h
  have hids : E.Pairwise (fun a b => a.id ≠ b.id) := h.inn.rep.ids
  have hlE := s.lenE
  have hlR := s.lenR
  have hlen : (img E).length ≤ 1048576 := by rw [img_len]; omega
  have stay : ∀ x : Int, bindV (img E) id l = (img E, x) → ∀ w1, w = w1 → Half B w0 c m r (t + 1) K 39 #[cp r, .int .i64 id, .int .i64 l] (.returned (.int .i64 x)) w1 := by
    rintro x hx w1 rfl
    refine ⟨_, rfl, h.kept, fun n => (rBind_any (h.drewN n).rrep id l hlen).mono ?_⟩
    rintro e w2 ⟨rfl, hp2⟩
    rw [show (⟨img E, row, lv, rv2⟩ : RG).L = img E from rfl, hx] at hp2 ⊢
    exact ⟨rfl, E, L, row, rv, lv, rv2, (h.drewN n).rpost hp2, s.mono⟩
  cases hf : find E id with
  | none =>
    refine (bind_none h.inn.rep hf l).mono ?_
    rintro e w1 ⟨rfl, hw⟩
    exact stay 6 (by unfold bindV; rw [atI_none' hf]) w1 hw
  | some x =>
    obtain ⟨k, h1, h2, h3, h4, h5⟩ := both hids hf
    have o := s.ok id x hf
    by_cases hl : l < 0 ∨ 16 ≤ l
    · refine (bind_range h.inn.rep hf l hl).mono ?_
      rintro e w1 ⟨rfl, hw⟩
      exact stay 2 (by unfold bindV; rw [h1]; dsimp only; rw [if_pos (by omega)]) w1 hw
    · obtain ⟨p, rfl⟩ := Int.eq_ofNat_of_zero_le (show 0 ≤ l by omega)
      have hp : p < 16 := by omega
      by_cases hb : x.q.line = -1
      · by_cases hl0 : L[p]?.getD 0 = 0
        · refine (bind_ok2 h.inn.rep hf p hp hb hl0).mono ?_
          rintro e w1 ⟨rfl, hps⟩
          have h' := h.post hps
          refine ⟨_, rfl, h'.kept, fun n => (rBind_any (h'.drewN n).rrep id p hlen).mono ?_⟩
          rintro e w2 ⟨rfl, hp2⟩
          have hon : onV (img E) p = -1 := on_img_no hids s p fun q hq e => by
            have : p = q := by omega
            subst this; exact hl0
          have hx : bindV (img E) id p = (img (upd E id { x.q with line := p }), 0) := by
            unfold bindV; rw [h1]; dsimp only
            rw [if_neg (by omega), h3, if_neg (by show ¬ 0 ≤ x.q.line; omega), if_neg (by rw [hon]; omega), h4]
            rfl
          rw [show (⟨img E, row, lv, rv2⟩ : RG).L = img E from rfl, hx] at hp2 ⊢
          refine ⟨rfl, _, _, row, rv, lv, rv2, (h'.drewN n).rpost hp2, ?_⟩
          have hpl : p < L.length := by rw [s.len16]; exact hp
          refine s.up hf { x.q with line := p } s.nd (fun _ _ => Iff.rfl) o.pend (by simp [s.len16]) ?_ ?_ (.inr ⟨p, hp, rfl, by simp [hpl]⟩) o.thr o.lost0 (Nat.le_succ t) (by have := o.lost1; show x.q.lost ≤ _; omega) (by omega)
          · intro y q hy hq a b1 b2
            by_cases e1 : p = q
            · subst e1
              rw [hl0] at a
              exact absurd a.symm (wrap_ne y b1 b2)
            · rw [List.getElem?_set_ne e1]; exact a
          · intro q hq
            by_cases e1 : p = q
            · subst e1; exact .inr (.inl rfl)
            · right; right; rw [List.getElem?_set_ne e1]; exact ⟨rfl, by omega⟩
        · refine (bind_twice h.inn.rep hf p hp hb hl0).mono ?_
          rintro e w1 ⟨rfl, hw⟩
          refine stay 7 ?_ w1 hw
          obtain ⟨y, z, _, _, _, hy⟩ := on_img_yes hids s p hp hl0
          have oy := (s.ok y z ‹_›).id0
          unfold bindV; rw [h1]; dsimp only
          rw [if_neg (by omega), h3, if_neg (by show ¬ 0 ≤ x.q.line; omega), if_pos (by rw [hy]; exact oy)]
      · refine (bind_state h.inn.rep hf p (by omega) (by omega) hb).mono ?_
        rintro e w1 ⟨rfl, hw⟩
        refine stay 12 ?_ w1 hw
        unfold bindV; rw [h1]; dsimp only
        rw [if_neg (by omega), h3, if_pos (by show 0 ≤ x.q.line; rcases o.line with a | ⟨q, _, a, _⟩ <;> omega)]
theorem unbind_pair (h : AR B w0 w c m r t K) (ht : t < 1000) (id : Int) :
    Calls Try.prog 22 #[cp c, .int .i64 id] w (Half B w0 c m r (t + 1) K 40 #[cp r, .int .i64 id]) := by
  obtain ⟨E, L, row, rv, lv, rv2, h, s⟩ := h
  have hids : E.Pairwise (fun a b => a.id ≠ b.id) := h.inn.rep.ids
  have hlE := s.lenE
  have hlR := s.lenR
  have hlen : (img E).length ≤ 1048576 := by rw [img_len]; omega
  have stay : ∀ x : Int, unbindV (img E) id = (img E, x) → ∀ w1, w = w1 → Half B w0 c m r (t + 1) K 40 #[cp r, .int .i64 id] (.returned (.int .i64 x)) w1 := by
    rintro x hx w1 rfl
    refine ⟨_, rfl, h.kept, fun n => (rUnbind_any (h.drewN n).rrep id hlen).mono ?_⟩
    rintro e w2 ⟨rfl, hp2⟩
    rw [show (⟨img E, row, lv, rv2⟩ : RG).L = img E from rfl, hx] at hp2 ⊢
    exact ⟨rfl, E, L, row, rv, lv, rv2, (h.drewN n).rpost hp2, s.mono⟩
  cases hf : find E id with
  | none =>
    refine (unbind_none h.inn.rep hf).mono ?_
    rintro e w1 ⟨rfl, hw⟩
    exact stay 6 (by unfold unbindV; rw [atI_none' hf]) w1 hw
  | some x =>
    obtain ⟨k, h1, h2, h3, h4, h5⟩ := both hids hf
    have o := s.ok id x hf
    rcases o.line with hb | ⟨p, hp, hb, hw⟩
    · refine (unbind_state h.inn.rep hf hb).mono ?_
      rintro e w1 ⟨rfl, hw⟩
      exact stay 12 (by unfold unbindV; rw [h1]; dsimp only; rw [h3, if_pos (by show x.q.line < 0; omega)]) w1 hw
    · refine (unbind_ok h.inn.rep hf p hp hb).mono ?_
      rintro e w1 ⟨rfl, hps⟩
      have h' := h.post hps
      refine ⟨_, rfl, h'.kept, fun n => (rUnbind_any (h'.drewN n).rrep id hlen).mono ?_⟩
      rintro e w2 ⟨rfl, hp2⟩
      have hx : unbindV (img E) id = (img (upd E id { x.q with line := -1 }), 0) := by
        unfold unbindV; rw [h1]; dsimp only
        rw [h3, if_neg (by show ¬ x.q.line < 0; omega), h4]
        rfl
      rw [show (⟨img E, row, lv, rv2⟩ : RG).L = img E from rfl, hx] at hp2 ⊢
      refine ⟨rfl, _, _, row, rv, lv, rv2, (h'.drewN n).rpost hp2, ?_⟩
      refine s.up hf { x.q with line := -1 } s.nd (fun _ _ => Iff.rfl) o.pend (by simp [s.len16]) ?_ ?_ (.inl rfl) o.thr o.lost0 (Nat.le_succ t) (by have := o.lost1; show x.q.lost ≤ _; omega) (by omega)
      · intro y q hy hq a b1 b2
        by_cases e1 : p = q
        · subst e1
          rw [hw] at a
          exact absurd (wrap_inj _ _ b1 b2 o.id0 o.id1 a.symm) hy
        · rw [List.getElem?_set_ne e1]; exact a
      · intro q hq
        by_cases e1 : p = q
        · subst e1
          left; simp [s.len16, hp]
        · right; right; rw [List.getElem?_set_ne e1]; exact ⟨rfl, by omega⟩
theorem attach_pair (h : AR B w0 w c m r t K) (ht : t < 1000) (id th : Int) :
    Calls Try.prog 11 #[cp c, .int .i64 id, .int .i64 th] w (Half B w0 c m r (t + 1) K 41 #[cp r, .int .i64 id, .int .i64 th]) := by
  obtain ⟨E, L, row, rv, lv, rv2, h, s⟩ := h
  have hids : E.Pairwise (fun a b => a.id ≠ b.id) := h.inn.rep.ids
  have hlE := s.lenE
  have hlR := s.lenR
  have hlen : (img E).length ≤ 1048576 := by rw [img_len]; omega
  have stay : ∀ x : Int, attachV (img E) id th = (img E, x) → ∀ w1, w = w1 → Half B w0 c m r (t + 1) K 41 #[cp r, .int .i64 id, .int .i64 th] (.returned (.int .i64 x)) w1 := by
    rintro x hx w1 rfl
    refine ⟨_, rfl, h.kept, fun n => (rAttach_any (h.drewN n).rrep id th hlen).mono ?_⟩
    rintro e w2 ⟨rfl, hp2⟩
    rw [show (⟨img E, row, lv, rv2⟩ : RG).L = img E from rfl, hx] at hp2 ⊢
    exact ⟨rfl, E, L, row, rv, lv, rv2, (h.drewN n).rpost hp2, s.mono⟩
  cases hf : find E id with
  | none =>
    refine (attach_none h.inn.rep hf th).mono ?_
    rintro e w1 ⟨rfl, hw⟩
    exact stay 6 (by unfold attachV; rw [atI_none' hf]) w1 hw
  | some x =>
    obtain ⟨k, h1, h2, h3, h4, h5⟩ := both hids hf
    have o := s.ok id x hf
    by_cases hth : th < -1
    · refine (attach_arg h.inn.rep hf th hth).mono ?_
      rintro e w1 ⟨rfl, hw⟩
      exact stay 1 (by unfold attachV; rw [h1]; dsimp only; rw [if_pos hth]) w1 hw
    · refine (attach_ok h.inn.rep hf th (by omega)).mono ?_
      rintro e w1 ⟨rfl, hps⟩
      have h' := h.post hps
      refine ⟨_, rfl, h'.kept, fun n => (rAttach_any (h'.drewN n).rrep id th hlen).mono ?_⟩
      rintro e w2 ⟨rfl, hp2⟩
      have hx : attachV (img E) id th = (img (upd E id { x.q with thread := th }), 0) := by
        unfold attachV; rw [h1]; dsimp only
        rw [if_neg hth, h3, h4]
        rfl
      rw [show (⟨img E, row, lv, rv2⟩ : RG).L = img E from rfl, hx] at hp2 ⊢
      exact ⟨rfl, _, _, row, rv, lv, rv2, (h'.drewN n).rpost hp2, s.turn hf { x.q with thread := th } rfl rfl (by show -1 ≤ th; omega) o.lost0 (Nat.le_succ t) (by have := o.lost1; show x.q.lost ≤ _; omega)⟩

/-- Triggering: of both; how the controller stands between. -/
theorem trigger_ok (E : List Ent) (L row : List Int) (rv lv rv2 : Value) (h : Two B w0 w c r ⟨m, E, L, row, rv⟩ ⟨img E, row, lv, rv2⟩ K) (s : SI E L row t) (ht : t < 1000) (id : Int) (x : Ent) (hf : find E id = some x) :
    Calls Try.prog 12 #[cp c, .int .i64 id] w fun e w1 => e = .returned (.int .i64 0) ∧ (∃ g1, Two B w0 w1 c r g1 ⟨img E, row, lv, rv2⟩ K) ∧
      ∀ n, Calls Try.prog 44 #[cp r, .int .i64 id] (w1.drewN n) fun e w2 => e = .returned (.int .i64 0) ∧ AR B w0 w2 c m r (t + 1) K := by
  have hids : E.Pairwise (fun a b => a.id ≠ b.id) := h.inn.rep.ids
  have hlE := s.lenE
  have hlR := s.lenR
  have hlen : (img E).length ≤ 1048576 := by rw [img_len]; omega
  have hlen2 : row.length < 1048576 := by omega
  obtain ⟨k, h1, h2, h3, h4, h5⟩ := both hids hf
  have o := s.ok id x hf
  have hl0 := o.lost0
  have hl1 := o.lost1
  have hpr := rowI_mem row id
  rw [← o.pend] at hpr
  have hn3 : (nth (img E) k).lost = x.q.lost := by rw [h3]; rfl
  cases hp : x.q.pending with
  | true =>
    rw [hp] at hpr
    obtain ⟨j, hj⟩ := Option.isSome_iff_exists.1 hpr
    refine (trigger_lost h.inn.rep hf hp hl0 (by omega)).mono ?_
    rintro e w1 ⟨rfl, hps⟩
    have h' := h.post hps
    refine ⟨rfl, ⟨_, h'⟩, fun n => (rTrigger_lost (h'.drewN n).rrep id hlen (Nat.le_of_lt hlen2) h1 hj (by show 0 ≤ (nth (img E) k).lost; omega) (by show (nth (img E) k).lost < _; omega)).mono ?_⟩
    rintro e w2 ⟨rfl, hp2⟩
    have hx : (img E).set k { nth (img E) k with lost := (nth (img E) k).lost + 1 } = img (upd E id { x.q with lost := x.q.lost + 1 }) := by rw [h4, h3]; rfl
    rw [show (⟨img E, row, lv, rv2⟩ : RG).L = img E from rfl, hx] at hp2
    exact ⟨rfl, _, L, row, rv, lv, rv2, (h'.drewN n).rpost hp2, s.turn hf { x.q with lost := x.q.lost + 1 } rfl rfl o.thr (by show 0 ≤ x.q.lost + 1; omega) (Nat.le_succ t) (by show x.q.lost + 1 ≤ _; omega)⟩
  | false =>
    rw [hp] at hpr
    have hj : rowI row id = none := by simpa using hpr
    have hnm : id ∉ row := by have := o.pend; rw [hp] at this; simpa using this
    refine (trigger_new h.inn.rep hf hp hlen2).mono ?_
    rintro e w1 ⟨rfl, rv', hps⟩
    have h' := h.post hps
    refine ⟨rfl, ⟨_, h'⟩, fun n => (rTrigger_new (h'.drewN n).rrep id hlen hlen2 h1 hj).mono ?_⟩
    rintro e w2 ⟨rfl, rv3, hp2⟩
    have hx : img (upd E id { x.q with pending := true }) = img E := by
      have e4 : toRc { x with q := { x.q with pending := true } } = toRc x := rfl
      rw [h4, e4, ← h3]
      apply List.ext_getElem?
      intro i
      rw [List.getElem?_set]
      split
      · rename_i hi; subst hi; exact (nth_some h2).symm
      · rfl
    refine ⟨rfl, upd E id { x.q with pending := true }, L, row ++ [id], rv', lv, rv3, ?_, ?_⟩
    · rw [hx]; exact (h'.drewN n).rpost hp2
    · refine s.up hf { x.q with pending := true } ?_ ?_ (by simp) s.len16 (fun _ _ _ _ a _ _ => a) ?_ o.line o.thr o.lost0 (Nat.le_succ t) (by show x.q.lost ≤ _; omega) (by simp; omega)
      · rw [List.nodup_append]
        refine ⟨s.nd, by simp, ?_⟩
        intro a ha b hb
        simp at hb; subst hb
        exact fun e => hnm (e ▸ ha)
      · intro y hy; simp [hy]
      · intro p _
        by_cases e1 : x.q.line = p
        · exact .inr (.inl e1)
        · exact .inr (.inr ⟨rfl, e1⟩)
theorem trigger_pair (h : AR B w0 w c m r t K) (ht : t < 1000) (id : Int) :
    Calls Try.prog 12 #[cp c, .int .i64 id] w (Half B w0 c m r (t + 1) K 44 #[cp r, .int .i64 id]) := by
  obtain ⟨E, L, row, rv, lv, rv2, h, s⟩ := h
  have hlE := s.lenE
  have hlen : (img E).length ≤ 1048576 := by rw [img_len]; omega
  cases hf : find E id with
  | none =>
    refine (trigger_none h.inn.rep hf).mono ?_
    rintro e w1 ⟨rfl, rfl⟩
    refine ⟨_, rfl, h.kept, fun n => (rTrigger_none (h.drewN n).rrep id hlen (atI_none' hf)).mono ?_⟩
    rintro e w2 ⟨rfl, rfl⟩
    exact ⟨rfl, E, L, row, rv, lv, rv2, h.drewN n, s.mono⟩
  | some x =>
    refine (trigger_ok E L row rv lv rv2 h s ht id x hf).mono ?_
    rintro e w1 ⟨rfl, ⟨g1, hg⟩, hn⟩
    exact ⟨0, rfl, hg.kept, hn⟩
theorem raise_pair (h : AR B w0 w c m r t K) (ht : t < 1000) (l : Int) :
    Calls Try.prog 19 #[cp c, .int .i64 l] w (Half B w0 c m r (t + 1) K 43 #[cp r, .int .i64 l]) := by
  obtain ⟨E, L, row, rv, lv, rv2, h, s⟩ := h
  have hids : E.Pairwise (fun a b => a.id ≠ b.id) := h.inn.rep.ids
  have hlE := s.lenE
  have hlen : (img E).length ≤ 1048576 := by rw [img_len]; omega
  have stay : onV (img E) l = -1 → ∀ w1, w = w1 → Half B w0 c m r (t + 1) K 43 #[cp r, .int .i64 l] (.returned (.int .i64 (-1))) w1 := by
    rintro hx w1 rfl
    refine ⟨_, rfl, h.kept, fun n => (rRaise_no (h.drewN n).rrep l hlen (by show onV (img E) l < 0; omega)).mono ?_⟩
    rintro e w2 ⟨rfl, rfl⟩
    rw [show (⟨img E, row, lv, rv2⟩ : RG).L = img E from rfl, hx]
    exact ⟨rfl, E, L, row, rv, lv, rv2, h.drewN n, s.mono⟩
  by_cases hl : l < 0 ∨ 16 ≤ l
  · refine (raise_range c l hl).mono ?_
    rintro e w1 ⟨rfl, hw⟩
    exact stay (on_img_no hids s l fun p hp e => by omega) w1 hw
  · obtain ⟨p, rfl⟩ := Int.eq_ofNat_of_zero_le (show 0 ≤ l by omega)
    have hp : p < 16 := by omega
    by_cases hl0 : L[p]?.getD 0 = 0
    · refine (raise_none h.inn.rep p hp hl0).mono ?_
      rintro e w1 ⟨rfl, hw⟩
      refine stay (on_img_no hids s p fun q hq e => ?_) w1 hw
      have : p = q := by omega
      subst this; exact hl0
    · obtain ⟨id, x, hf, hxl, hw, hon⟩ := on_img_yes hids s p hp hl0
      have o := s.ok id x hf
      refine (raise_some2 h.inn.rep p hp id hw o.id0 o.id1 0 _ (trigger_ok E L row rv lv rv2 h s ht id x hf)).mono ?_
      rintro e w1 ⟨rfl, ⟨g1, hg⟩, hn⟩
      refine ⟨id, rfl, hg.kept, fun n => ?_⟩
      have ho : onV (⟨img E, row, lv, rv2⟩ : RG).L p = id := hon
      have := rRaise_yes (hg.drewN n).rrep p hlen (by rw [ho]; exact o.id0) 0 (fun w2 => AR B w0 w2 c m r (t + 1) K) (by rw [ho]; exact hn n)
      rw [ho] at this
      exact this
theorem take_mid (E : List Ent) (L row : List Int) (rv lv rv2 : Value) (h : Two B w0 w c r ⟨m, E, L, row, rv⟩ ⟨img E, row, lv, rv2⟩ K) (s : SI E L row t) (ht : t < 1000) (id : Int) :
    Calls Try.prog 14 #[cp c, .int .i64 id] w fun e w1 => ∃ x, e = .returned (.int .i64 x) ∧ (∃ g1, Two B w0 w1 c r g1 ⟨img E, row, lv, rv2⟩ K) ∧
      ∀ n, Calls Try.prog 45 #[cp r, .int .i64 id] (w1.drewN n) fun e w2 => e = .returned (.int .i64 x) ∧ AR B w0 w2 c m r (t + 1) K := by
  have hids : E.Pairwise (fun a b => a.id ≠ b.id) := h.inn.rep.ids
  have hlE := s.lenE
  have hlR := s.lenR
  have hlen : (img E).length ≤ 1048576 := by rw [img_len]; omega
  have hlen2 : row.length ≤ 1048576 := by omega
  cases hf : find E id with
  | none =>
    refine (take_none h.inn.rep hf).mono ?_
    rintro e w1 ⟨rfl, rfl⟩
    refine ⟨_, rfl, ⟨_, h⟩, fun n => (rTake_none (h.drewN n).rrep id hlen (atI_none' hf)).mono ?_⟩
    rintro e w2 ⟨rfl, rfl⟩
    exact ⟨rfl, E, L, row, rv, lv, rv2, h.drewN n, s.mono⟩
  | some x =>
    obtain ⟨k, h1, h2, h3, h4, h5⟩ := both hids hf
    have o := s.ok id x hf
    have hrd := rdy_img hids s hf
    cases hr : x.q.rdy with
    | false =>
      refine (take_state h.inn.rep hf hr).mono ?_
      rintro e w1 ⟨rfl, rfl⟩
      refine ⟨_, rfl, ⟨_, h⟩, fun n => (rTake_state (h.drewN n).rrep id hlen hlen2 h1 (hrd.trans hr)).mono ?_⟩
      rintro e w2 ⟨rfl, rfl⟩
      exact ⟨rfl, E, L, row, rv, lv, rv2, h.drewN n, s.mono⟩
    | true =>
      have hpd : x.q.pending = true := by
        unfold Irq.rdy at hr
        cases hp : x.q.pending with
        | true => rfl
        | false => rw [hp] at hr; simp at hr
      have hpr := rowI_mem row id
      rw [← o.pend, hpd] at hpr
      obtain ⟨j, hj⟩ := Option.isSome_iff_exists.1 hpr
      obtain ⟨hjl, hcut⟩ := flt_cut s.nd hj
      refine (take_ok h.inn.rep hf hr hlen2).mono ?_
      rintro e w1 ⟨rfl, rv', hps⟩
      have h' := h.post hps
      refine ⟨_, rfl, ⟨_, h'⟩, fun n => (rTake_ok (h'.drewN n).rrep id hlen hlen2 h1 (hrd.trans hr) hj hjl).mono ?_⟩
      rintro e w2 ⟨rfl, rv3, hp2⟩
      have hx : img (upd E id { x.q with pending := false }) = img E := by
        have e4 : toRc { x with q := { x.q with pending := false } } = toRc x := rfl
        rw [h4, e4, ← h3]
        apply List.ext_getElem?
        intro i
        rw [List.getElem?_set]
        split
        · rename_i hi; subst hi; exact (nth_some h2).symm
        · rfl
      refine ⟨rfl, upd E id { x.q with pending := false }, L, flt row id, rv', lv, rv3, ?_, ?_⟩
      · rw [hx, hcut]
        have := (h'.drewN n).rpost hp2
        simp only [hcut] at this
        exact this
      · have hfl := flt_le row id
        refine s.up hf { x.q with pending := false } (s.nd.filter _) ?_ (by simp [flt]) s.len16 (fun _ _ _ _ a _ _ => a) ?_ o.line o.thr o.lost0 (Nat.le_succ t) (by have := o.lost1; show x.q.lost ≤ _; omega) (by show (flt row id).length ≤ _; omega)
        · intro y hy; simp [flt, hy]
        · intro p _
          by_cases e1 : x.q.line = p
          · exact .inr (.inl e1)
          · exact .inr (.inr ⟨rfl, e1⟩)
theorem take_pair (h : AR B w0 w c m r t K) (ht : t < 1000) (id : Int) :
    Calls Try.prog 14 #[cp c, .int .i64 id] w (Half B w0 c m r (t + 1) K 45 #[cp r, .int .i64 id]) := by
  obtain ⟨E, L, row, rv, lv, rv2, h, s⟩ := h
  refine (take_mid E L row rv lv rv2 h s ht id).mono ?_
  rintro e w1 ⟨x, rfl, ⟨g1, hg⟩, hn⟩
  exact ⟨x, rfl, hg.kept, hn⟩
theorem mask_pair (h : AR B w0 w c m r t K) (ht : t < 1000) (hB : B ≤ w0.heap.size) (on : Bool) (la : Option Addr) (ln cap : Nat) (hln : ln ≤ 1048576) (z : Nat → Int) (hz : ∀ j, j < ln → ∃ gl gof, la = some ⟨gl, gof, none⟩ ∧ gl < B ∧ w0.cell? ⟨gl, gof + j, none⟩ = some (.int .i64 (z j))) :
    Calls Try.prog 13 #[cp c, .bool on, .slice la ln cap] w (Half B w0 c m r (t + 1) K 42 #[cp r, .bool on, .slice la ln cap]) := by
  obtain ⟨E, L, row, rv, lv, rv2, h, s⟩ := h
  have hids : E.Pairwise (fun a b => a.id ≠ b.id) := h.inn.rep.ids
  have hlE := s.lenE
  have hlen : (img E).length ≤ 1048576 := by rw [img_len]; omega
  have hll : ((List.range ln).map z).length = ln := by simp
  have hget : ∀ j, j < ln → ((List.range ln).map z)[j]?.getD 0 = z j := fun j hj => by simp [hj]
  have ref : ∀ {w1 : World} {g1 : G}, Two B w0 w1 c r g1 ⟨img E, row, lv, rv2⟩ K → Calls Try.prog 42 #[cp r, .bool on, .slice la ln cap] w1 (RMPost on ((List.range ln).map z) r w1 ⟨img E, row, lv, rv2⟩) := by
    intro w1 g1 h1
    have := rMask_any h1.rrep on ((List.range ln).map z) la cap hlen (by rw [hll]; exact hln) (by
      intro j hj
      rw [hll] at hj
      obtain ⟨gl, gof, hla, hgl, hcell⟩ := hz j hj
      refine ⟨gl, gof, hla, by have := h1.inn.le; omega, fun hf => by have := h1.rown gl hf; omega, ?_⟩
      rw [(h1.inn.bel.cell (p := ⟨gl, gof + j, none⟩) hgl).trans hcell, hget j hj])
    rw [hll] at this
    exact this
  obtain ⟨hm, hS⟩ := mask_img (lines := L) (row := row) (t := t) on ((List.range ln).map z) E 0 hids s
  have fin : ∀ {w1 : World} {g1 : G}, Two B w0 w1 c r g1 ⟨img E, row, lv, rv2⟩ K → (∃ rvx, g1 = ⟨m, (mall on ((List.range ln).map z) E 0).1, L, row, rvx⟩) → Half B w0 c m r (t + 1) K 42 #[cp r, .bool on, .slice la ln cap] (.returned (.int .i64 ((mall on ((List.range ln).map z) E 0).2 : Nat))) w1 := by
    rintro w1 g1 h1 ⟨rvx, rfl⟩
    refine ⟨_, rfl, h1.kept, fun n => (ref (h1.drewN n)).mono ?_⟩
    rintro e w2 ⟨rfl, hp2⟩
    have e1 : rmall on ((List.range ln).map z) (img E) = (img (mall on ((List.range ln).map z) E 0).1, (mall on ((List.range ln).map z) E 0).2) := hm
    simp only [e1] at hp2
    refine ⟨by simp only [e1], ?_⟩
    exact ⟨_, L, row, rvx, lv, rv2, (h1.drewN n).rpost hp2, hS.mono⟩
  by_cases h0 : ln = 0
  · subst h0
    refine (mask_zero w c on la cap).mono ?_
    rintro e w1 ⟨rfl, rfl⟩
    exact fin h ⟨rv, rfl⟩
  · obtain ⟨gl, gof, rfl, hgl, _⟩ := hz 0 (by omega)
    have := mask_any h.inn.rep on ((List.range ln).map z) gl gof cap (by
      intro j hj
      rw [hll] at hj
      obtain ⟨gl', gof', he, _, hcell⟩ := hz j hj
      cases he
      rw [(h.inn.bel.cell (p := ⟨gl, gof + j, none⟩) hgl).trans hcell, hget j hj]) (by have := h.inn.le; omega) (fun hf => by have := h.inn.own gl hf; omega) (by rw [hll]; exact hln)
    rw [hll] at this
    refine this.mono ?_
    rintro e w1 ⟨rfl, hp⟩
    exact fin (h.post hp) ⟨rv, rfl⟩
end

/-! What both tell. -/
def lostV (E : List Ent) (id : Int) : Int := match find E id with | none => 0 | some e => e.q.lost
def lineV (E : List Ent) (id : Int) : Int := match find E id with | none => -1 | some e => e.q.line
def ownV (E : List Ent) (id : Int) : Int := match find E id with | none => -1 | some e => e.q.thread
def fstG (E : List Ent) (row : List Int) (th : Int) : Int := (row.filter (isr E th)).headD (-1)
theorem lost_any {w : World} {c : Nat} {g : G} (h : Rep w c g) (id : Int) : Calls Try.prog 15 #[cp c, .int .i64 id] w fun e w' => e = .returned (.int .i64 (lostV g.E id)) ∧ w = w' := by
  unfold lostV
  cases hf : find g.E id with
  | none => exact lost_none h hf
  | some x => exact lost_some h hf
theorem line_any {w : World} {c : Nat} {g : G} (h : Rep w c g) (id : Int) : Calls Try.prog 23 #[cp c, .int .i64 id] w fun e w' => e = .returned (.int .i64 (lineV g.E id)) ∧ w = w' := by
  unfold lineV
  cases hf : find g.E id with
  | none => exact line_none h hf
  | some x => exact line_some h hf
theorem own_any {w : World} {c : Nat} {g : G} (h : Rep w c g) (id : Int) : Calls Try.prog 24 #[cp c, .int .i64 id] w fun e w' => e = .returned (.int .i64 (ownV g.E id)) ∧ w = w' := by
  unfold ownV
  cases hf : find g.E id with
  | none => exact owner_none h hf
  | some x => exact owner_some h hf
theorem of_img {E : List Ent} (hids : E.Pairwise (fun a b => a.id ≠ b.id)) (id : Int) : ofV (img E) id = .tuple #[.int .i64 (lostV E id), .int .i64 (lineV E id), .int .i64 (ownV E id)] := by
  unfold ofV lostV lineV ownV
  cases hf : find E id with
  | none => rw [atI_none' hf]
  | some x =>
    obtain ⟨k, h1, h2, h3, h4, h5⟩ := both hids hf
    rw [h1]; dsimp only; rw [h3]; rfl
theorem pfirst_any {B : Nat} {w0 w : World} {c m r t : Nat} {E : List Ent} {L row : List Int} {rv lv rv2 : Value} {K : List (Nat × Obj)} (h : Two B w0 w c r ⟨m, E, L, row, rv⟩ ⟨img E, row, lv, rv2⟩ K) (s : SI E L row t) (ht : t ≤ 1000) (th : Int) :
    Calls Try.prog 16 #[cp c, .int .i64 th] w fun e w' => e = .returned (.int .i64 (fstG E row th)) ∧ Below w.heap.size w w' :=
  first_any c ⟨m, E, L, row, rv⟩ th s.sub (by show row.length ≤ _; have := s.lenR; omega) w h.inn.rep
theorem rfirst_any {B : Nat} {w0 w : World} {c m r t : Nat} {E : List Ent} {L row : List Int} {rv lv rv2 : Value} {K : List (Nat × Obj)} (h : Two B w0 w c r ⟨m, E, L, row, rv⟩ ⟨img E, row, lv, rv2⟩ K) (s : SI E L row t) (ht : t ≤ 1000) (th : Int) :
    Calls Try.prog 28 #[cp r, .int .i64 th] w fun e w' => e = .returned (.int .i64 (fstG E row th)) ∧ Below w.heap.size w w' := by
  have hids : E.Pairwise (fun a b => a.id ≠ b.id) := h.inn.rep.ids
  refine (rFirst_any h.rrep th (by show (img E).length ≤ _; rw [img_len]; have := s.lenE; omega) (by show row.length ≤ _; have := s.lenR; omega)).mono ?_
  rintro e w1 ⟨rfl, n, rfl⟩
  exact ⟨by rw [show (⟨img E, row, lv, rv2⟩ : RG).L = img E from rfl, show (⟨img E, row, lv, rv2⟩ : RG).row = row from rfl, fst_img hids s th]; rfl, below_drewN _ _⟩
theorem rof_any {B : Nat} {w0 w : World} {c m r t : Nat} {E : List Ent} {L row : List Int} {rv lv rv2 : Value} {K : List (Nat × Obj)} (h : Two B w0 w c r ⟨m, E, L, row, rv⟩ ⟨img E, row, lv, rv2⟩ K) (s : SI E L row t) (ht : t ≤ 1000) (id : Int) :
    Calls Try.prog 26 #[cp r, .int .i64 id] w fun e w' => e = .returned (.tuple #[.int .i64 (lostV E id), .int .i64 (lineV E id), .int .i64 (ownV E id)]) ∧ Below w.heap.size w w' := by
  have hids : E.Pairwise (fun a b => a.id ≠ b.id) := h.inn.rep.ids
  refine (rOf_any h.rrep id (by show (img E).length ≤ _; rw [img_len]; have := s.lenE; omega)).mono ?_
  rintro e w1 ⟨rfl, n, rfl⟩
  exact ⟨by rw [show (⟨img E, row, lv, rv2⟩ : RG).L = img E from rfl, of_img hids], below_drewN _ _⟩
/-- A thread's first, then taking that: of the one, then of the other. -/
theorem ft_pair {B : Nat} {w0 w : World} {c m r t : Nat} {K : List (Nat × Obj)} (h : AR B w0 w c m r t K) (ht : t < 1000) (th : Int) :
    Calls Try.prog 16 #[cp c, .int .i64 th] w fun e w1 => ∃ x, e = .returned (.int .i64 x) ∧ Kept K w1 ∧ Calls Try.prog 14 #[cp c, .int .i64 x] w1 fun e w2 => ∃ y, e = .returned (.int .i64 y) ∧ Kept K w2 ∧
      Calls Try.prog 28 #[cp r, .int .i64 th] w2 fun e w3 => e = .returned (.int .i64 x) ∧ Kept K w3 ∧ Calls Try.prog 45 #[cp r, .int .i64 x] w3 fun e w4 => e = .returned (.int .i64 y) ∧ AR B w0 w4 c m r (t + 1) K := by
  obtain ⟨E, L, row, rv, lv, rv2, h, s⟩ := h
  refine (pfirst_any h s (by omega) th).mono ?_
  rintro e w1 ⟨rfl, hb⟩
  have h1 := h.grown hb
  have hids : E.Pairwise (fun a b => a.id ≠ b.id) := h1.inn.rep.ids
  refine ⟨_, rfl, h1.kept, (take_mid E L row rv lv rv2 h1 s ht _).mono ?_⟩
  rintro e w2 ⟨y, rfl, ⟨g1, hg⟩, hn⟩
  refine ⟨y, rfl, hg.kept, (rFirst_any hg.rrep th (by show (img E).length ≤ _; rw [img_len]; have := s.lenE; omega) (by show row.length ≤ _; have := s.lenR; omega)).mono ?_⟩
  rintro e w3 ⟨rfl, n, rfl⟩
  refine ⟨?_, (hg.drewN n).kept, hn n⟩
  rw [show (⟨img E, row, lv, rv2⟩ : RG).L = img E from rfl, show (⟨img E, row, lv, rv2⟩ : RG).row = row from rfl, fst_img hids s th]; rfl
end Go.Proofs.Ytekgfdfganelmaa
