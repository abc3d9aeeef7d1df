/- CoreGrace returns true at every input: a doomed object is a zombie till just the tick that the period tells. No condition. Part of its proof. -/
import Derived.Test.YtcnbbenmlffgpaaGreatDoorCg01
import Derived.Maps.AppendAt
import Derived.Test.YtcnbbenmlffgpaaGreatDoorCg02
import Derived.IntWalk
import Derived.Deep.RegionHeld3
import Derived.Deep.QuietTactic
import Derived.BigQuiet
import Derived.Laws.CopyRow
import Derived.Laws.IdiomCopy
import Derived.Lib.Overlaps
import Derived.Lib.AppendZerosOnto
set_option linter.unusedVariables false
/- Rows of cells that a slice has, with room beyond: a piece of memory. No condition. -/
namespace Go.Proofs.YtcnbbenmlffgpaaGreatDoor
open Go.RowKit

/-- A slice that is nil, or its block and how much it may hold. -/
abbrev RV := Option (Nat × Nat)
def lvOf (rv : RV) (n : Nat) : Value := match rv with
  | none => .slice none 0 0
  | some (g, cap) => .slice (some ⟨g, 0, none⟩) n cap
def rowH (rv : RV) (T : TypeId) (size : Nat) (xs : List Value) : HL := match rv with
  | none => []
  | some (g, cap) => [(g, isR T (cap * size) xs)]
/-- The slice of n elements fits its block. -/
def rvOk (rv : RV) (n : Nat) : Prop := match rv with
  | none => n = 0
  | some (_, cap) => n ≤ cap ∧ cap ≤ maxLen
theorem row_owns {w : World} {rv : RV} {T : TypeId} {size n : Nat} {xs : List Value} (h : Sep w (rowH rv T size xs)) (hok : rvOk rv n) (hl : xs.length = n * size) : w.ownsRow 0 T size (lvOf rv n) n xs := by
  refine ⟨hl, ?_⟩
  cases rv with
  | none => exact .inl ⟨rfl, hok⟩
  | some p =>
    obtain ⟨g, cap⟩ := p
    obtain ⟨o, ho, cur, rfl, hn, hr⟩ := h.get (b := g) (q := isR T (cap * size) xs) (by simp [rowH])
    refine .inr ⟨g, cap, cur, rfl, Nat.zero_le _, ho, hok.1, hok.2, hn, ?_⟩
    rw [← hl]; exact hr
theorem row_cell {w : World} {g cap : Nat} {T : TypeId} {size : Nat} {xs : List Value} (h : Sep w (rowH (some (g, cap)) T size xs)) (j : Nat) (v : Value) (hv : xs[j]? = some v) : w.cell? ⟨g, j, none⟩ = some v := by
  obtain ⟨ds, hc, _, ht⟩ := h.row (b := g) (T := T) (n := cap * size) (cs := xs) (by simp [rowH])
  refine hc.cell j v ?_
  rw [← ht] at hv
  rw [List.getElem?_take] at hv
  split at hv
  · exact hv
  · cases hv
theorem row_free {w : World} {g cap : Nat} {T : TypeId} {size : Nat} {xs : List Value} (h : Sep w (rowH (some (g, cap)) T size xs)) (j : Nat) : w.frozen? ⟨g, j, none⟩ = false := by
  obtain ⟨ds, hc, _, _⟩ := h.row (b := g) (T := T) (n := cap * size) (cs := xs) (by simp [rowH])
  exact hc.free j
/-- Behind an append. -/
theorem row_appended {w w' : World} {A B : HL} {rv : RV} {T : TypeId} {size n n' : Nat} {xs ys : List Value} {v' : Value} (h : Sep w (A ++ rowH rv T size xs ++ B)) (ho : w'.ownsRow 0 T size v' n' ys) (hg : w.grownBy w' (lvOf rv n).ownBlock)
    (hb : v'.ownBlock = (lvOf rv n).ownBlock ∨ v'.ownBlock = some w.heap.size) : ∃ rv', v' = lvOf rv' n' ∧ rvOk rv' n' ∧ Step (A ++ rowH rv T size xs ++ B) (A ++ rowH rv' T size ys ++ B) w w' := by
  obtain ⟨hl, ho⟩ := ho
  -- what A and B have is as it was
  have hAB : Sep w (A ++ B) := h.sub (by
    refine List.Sublist.append ?_ (List.Sublist.refl _)
    exact List.sublist_append_left _ _)
  have notin : ∀ g cap, rv = some (g, cap) → g ∉ keys (A ++ B) := by
    rintro g cap rfl hm
    have hnd := h.nd
    simp only [keys_append, rowH, keys_cons, keys_nil] at hnd hm
    have h1 := List.nodup_append.1 hnd
    have h2 := List.nodup_append.1 h1.1
    rcases List.mem_append.1 hm with hm | hm
    · exact h2.2.2 g hm g (by simp) rfl
    · exact h1.2.2 g (by simp) g hm rfl
  have keep : ∀ b ∈ keys (A ++ B), w'.heap[b]? = w.heap[b]? := by
    intro b hb'
    refine hg.block b (hAB.lt hb') fun e => ?_
    cases rv with
    | none => cases e
    | some p => obtain ⟨g, cap⟩ := p; cases e; exact notin _ _ rfl hb'
  have hchg : Chg (fun b => b ∈ keys (A ++ rowH rv T size xs ++ B)) w w' := ⟨hg.os, hg.tape, hg.output, hg.size, fun k hk hF => hg.block k hk fun e => hF (by
    cases rv with
    | none => cases e
    | some p => obtain ⟨g, cap⟩ := p; cases e; simp [rowH])⟩
  have henv := h.env.chg hchg h.hi
  have hsAB := hAB.same keep henv
  rcases ho with ⟨rfl, h0⟩ | ⟨g', cap', cur, rfl, _, hh, hle, hm, hsz, htk⟩
  · subst h0
    refine ⟨none, rfl, rfl, ?_, hchg, ?_⟩
    · simpa [rowH] using hsAB
    · intro b hb'
      left
      simp only [rowH, List.append_nil, keys_append, List.mem_append] at hb' ⊢
      rcases hb' with hb' | hb'
      · exact .inl (.inl hb')
      · exact .inr hb'
  · have hfresh : g' ∉ keys (A ++ B) ∧ (g' ∈ keys (A ++ rowH rv T size xs ++ B) ∨ w.heap.size ≤ g') := by
      rcases hb with e | e
      · cases rv with
        | none => cases e
        | some p =>
          obtain ⟨g, cap⟩ := p
          have : g' = g := Option.some.inj e
          subst this
          exact ⟨notin _ _ rfl, .inl (by simp [rowH])⟩
      · have : g' = w.heap.size := Option.some.inj e
        subst this
        exact ⟨fun hm' => by have := hAB.lt hm'; omega, .inr (Nat.le_refl _)⟩
    refine ⟨some (g', cap'), rfl, ⟨hle, hm⟩, ⟨?_, ?_, ?_, henv⟩, hchg, ?_⟩
    · have hnd := hAB.nd
      simp only [keys_append, rowH, keys_cons, keys_nil] at hnd hfresh ⊢
      have h1 := List.nodup_append.1 hnd
      rw [List.nodup_append]
      refine ⟨?_, h1.2.1, ?_⟩
      · rw [List.nodup_append]
        refine ⟨h1.1, by simp, ?_⟩
        intro a ha b hb' e
        simp at hb'; subst hb'; subst e
        exact hfresh.1 (List.mem_append_left _ ha)
      · intro a ha b hb' e
        subst e
        rcases List.mem_append.1 ha with ha | ha
        · exact h1.2.2 a ha a hb' rfl
        · simp at ha; subst ha; exact hfresh.1 (List.mem_append_right _ hb')
    · intro p hp
      rcases List.mem_append.1 hp with hp | hp
      · rcases List.mem_append.1 hp with hp | hp
        · exact hsAB.at' p (by simp [hp])
        · simp [rowH] at hp; subst hp
          exact ⟨_, hh, cur, rfl, hsz, by rw [hl]; exact htk⟩
      · exact hsAB.at' p (by simp [hp])
    · intro b hb'
      simp only [keys_append, rowH, keys_cons, keys_nil, List.mem_append, List.mem_singleton] at hb'
      rcases hb' with (hb' | hb') | hb'
      · exact hAB.hi b (by simp [hb'])
      · subst hb'
        rcases hfresh.2 with h2 | h2
        · exact h.hi _ h2
        · exact Nat.le_trans h.env.gb h2
      · exact hAB.hi b (by simp [hb'])
    · intro b hb'
      simp only [keys_append, rowH, keys_cons, keys_nil, List.mem_append, List.mem_singleton] at hb'
      rcases hb' with (hb' | hb') | hb'
      · left; simp [hb']
      · subst hb'; exact hfresh.2
      · left; simp [hb']
end Go.Proofs.YtcnbbenmlffgpaaGreatDoor

/- Entries of a map from numbers to pointers: a number, a block, what the block's struct is. Plain lists. No condition. -/
namespace Go.Proofs.YtcnbbenmlffgpaaGreatDoor
open Go.RowKit

structure En (α : Type) where
  id : Int
  b : Nat
  q : α
def ptr (b : Nat) : Value := .pointer (some ⟨b, 0, none⟩)
section
variable {α : Type}
def kvs (E : List (En α)) : List (Int × Value) := E.map fun e => (e.id, ptr e.b)
def find : List (En α) → Int → Option (En α)
  | [], _ => none
  | e :: r, id => if id = e.id then some e else find r id
def upd (E : List (En α)) (id : Int) (q : α) : List (En α) := E.map fun e => if e.id = id then { e with q := q } else e
def rem : List (En α) → Int → List (En α)
  | [], _ => []
  | e :: r, id => if id = e.id then r else e :: rem r id

theorem look_kvs (E : List (En α)) (id : Int) : look (kvs E) id = (find E id).map fun e => ptr e.b := by
  induction E with
  | nil => rfl
  | cons e r ih =>
    have ih' : look (r.map fun e => (e.id, ptr e.b)) id = _ := ih
    by_cases h : id = e.id <;> simp [kvs, look, find, h, ih']
theorem put_kvs (E : List (En α)) (id : Int) (b : Nat) (q : α) (h : find E id = none) : put (kvs E) id (ptr b) = kvs (E ++ [⟨id, b, q⟩]) := by
  induction E with
  | nil => rfl
  | cons e r ih =>
    by_cases hk : id = e.id
    · simp [find, hk] at h
    · simp only [find, hk, if_false] at h
      have ih' : put (r.map fun e => (e.id, ptr e.b)) id (ptr b) = _ := ih h
      simp [kvs, put, hk, ih']
theorem del_kvs (E : List (En α)) (id : Int) : del (kvs E) id = kvs (rem E id) := by
  induction E with
  | nil => rfl
  | cons e r ih =>
    have ih' : del (r.map fun e => (e.id, ptr e.b)) id = _ := ih
    by_cases hk : id = e.id <;> simp [kvs, del, rem, hk, ih']
theorem kvs_upd (E : List (En α)) (id : Int) (q : α) : kvs (upd E id q) = kvs E := by
  simp only [kvs, upd, List.map_map]
  apply List.map_congr_left
  intro e _
  by_cases h : e.id = id <;> simp [h]
theorem find_mem {E : List (En α)} {id : Int} {e : En α} (h : find E id = some e) : e ∈ E ∧ e.id = id := by
  induction E with
  | nil => simp [find] at h
  | cons x r ih =>
    by_cases hk : id = x.id
    · simp [find, hk] at h; subst h; exact ⟨by simp, hk.symm⟩
    · simp only [find, hk, if_false] at h; exact ⟨by simp [(ih h).1], (ih h).2⟩
theorem find_none {E : List (En α)} {id : Int} (h : find E id = none) : ∀ e ∈ E, e.id ≠ id := by
  induction E with
  | nil => simp
  | cons x r ih =>
    by_cases hk : id = x.id
    · simp [find, hk] at h
    · simp only [find, hk, if_false] at h
      intro e he
      rcases List.mem_cons.1 he with rfl | he
      · exact fun h' => hk h'.symm
      · exact ih h e he
theorem find_append (E : List (En α)) (x : En α) (id : Int) : find (E ++ [x]) id = match find E id with | some e => some e | none => if id = x.id then some x else none := by
  induction E with
  | nil => simp [find]
  | cons e r ih => by_cases h : id = e.id <;> simp [find, h, ih]
theorem find_upd_same {E : List (En α)} {id : Int} {e : En α} (hf : find E id = some e) (q : α) : find (upd E id q) id = some { e with q := q } := by
  induction E with
  | nil => simp [find] at hf
  | cons x r ih =>
    by_cases hx : id = x.id
    · simp only [find, hx, if_true] at hf
      simp only [upd, List.map_cons, hx, if_true, find]
      cases hf; rfl
    · simp only [find, hx, if_false] at hf
      have := ih hf
      have hx' : ¬ x.id = id := fun e => hx e.symm
      simp only [upd, List.map_cons, hx', if_false, find, hx]
      exact this
theorem find_upd_other {E : List (En α)} {id j : Int} (hne : j ≠ id) (q : α) : find (upd E id q) j = find E j := by
  induction E with
  | nil => rfl
  | cons x r ih =>
    by_cases hx : x.id = id
    · have hj : ¬ j = x.id := fun e => hne (e.trans hx)
      simp only [upd, List.map_cons, hx, if_true, find, hj, if_false]
      have hj2 : ¬ j = id := hne
      simp only [hj2, if_false]
      exact ih
    · simp only [upd, List.map_cons, hx, if_false, find]
      by_cases hj : j = x.id
      · simp [hj]
      · simp only [hj, if_false]; exact ih
theorem find_rem {E : List (En α)} (hids : E.Pairwise (fun a b => a.id ≠ b.id)) (id x : Int) : find (rem E id) x = if x = id then none else find E x := by
  induction E with
  | nil => simp [rem, find]
  | cons e r ih =>
    obtain ⟨h1, h2⟩ := List.pairwise_cons.1 hids
    by_cases hk : id = e.id
    · subst hk
      simp only [rem, if_true]
      by_cases hx : x = e.id
      · subst hx
        simp only [if_true]
        cases hf : find r e.id with
        | none => rfl
        | some y => exact absurd (find_mem hf).2.symm (h1 y (find_mem hf).1)
      · simp [find, hx]
    · simp only [rem, hk, if_false, find]
      by_cases hx : x = e.id
      · subst hx; simp; intro e2; exact absurd e2.symm hk
      · simp only [hx, if_false]; exact ih h2
theorem mem_rem {E : List (En α)} {id : Int} {e : En α} (h : e ∈ rem E id) : e ∈ E := by
  induction E with
  | nil => simp [rem] at h
  | cons x r ih =>
    by_cases hk : id = x.id
    · simp [rem, hk] at h; simp [h]
    · simp only [rem, hk, if_false] at h
      rcases List.mem_cons.1 h with rfl | h
      · simp
      · simp [ih h]
theorem rem_sublist (E : List (En α)) (id : Int) : (rem E id).Sublist E := by
  induction E with
  | nil => simp [rem]
  | cons x r ih =>
    by_cases hk : id = x.id
    · simp [rem, hk]
    · simp only [rem, hk, if_false]; exact ih.cons_cons x
theorem mem_upd {E : List (En α)} {id : Int} {q : α} {x : En α} (h : x ∈ upd E id q) : ∃ e ∈ E, e.b = x.b ∧ e.id = x.id ∧ ((e.id = id ∧ x.q = q) ∨ (e.id ≠ id ∧ x = e)) := by
  obtain ⟨e, he, rfl⟩ := List.mem_map.1 h
  by_cases hk : e.id = id
  · exact ⟨e, he, by simp [hk], by simp [hk], .inl ⟨hk, by simp [hk]⟩⟩
  · exact ⟨e, he, by simp [hk], by simp [hk], .inr ⟨hk, by simp [hk]⟩⟩
theorem upd_pairwise {E : List (En α)} (id : Int) (q : α) {R : En α → En α → Prop} (hR : ∀ a b a' b' : En α, a.b = a'.b → a.id = a'.id → b.b = b'.b → b.id = b'.id → R a b → R a' b') (h : E.Pairwise R) : (upd E id q).Pairwise R := by
  unfold upd
  rw [List.pairwise_map]
  refine h.imp fun {a b} hab => hR a b _ _ ?_ ?_ ?_ ?_ hab <;> split <;> rfl
theorem upd_none {E : List (En α)} {id : Int} (q : α) (h : ∀ e ∈ E, e.id ≠ id) : upd E id q = E := by
  unfold upd
  conv => rhs; rw [← List.map_id E]
  exact List.map_congr_left fun e he => by simp [h e he]
theorem upd_id {E : List (En α)} (hids : E.Pairwise (fun a b => a.id ≠ b.id)) {id : Int} {e : En α} (hf : find E id = some e) : upd E id e.q = E := by
  induction E with
  | nil => rfl
  | cons x r ih =>
    obtain ⟨h1, h2⟩ := List.pairwise_cons.1 hids
    by_cases hx : id = x.id
    · subst hx
      simp [find] at hf
      subst hf
      have := upd_none (E := r) (id := x.id) x.q (fun e he => (h1 e he).symm)
      simp only [upd, List.map_cons, if_true] at this ⊢
      rw [this]
    · simp only [find, hx, if_false] at hf
      have hx' : ¬ x.id = id := fun e => hx e.symm
      have := ih h2 hf
      simp only [upd, List.map_cons, hx', if_false] at this ⊢
      rw [this]
theorem upd_upd (E : List (En α)) (id : Int) (q r : α) : upd (upd E id q) id r = upd E id r := by
  unfold upd
  rw [List.map_map]
  apply List.map_congr_left
  intro e _
  by_cases h : e.id = id <;> simp [h]
/-- Where the entry of a number stands. -/
theorem find_at {E : List (En α)} (hids : E.Pairwise (fun a b => a.id ≠ b.id)) {id : Int} {e : En α} (hf : find E id = some e) :
    ∃ A B, E = A ++ e :: B ∧ (∀ q, upd E id q = A ++ { e with q := q } :: B) ∧ rem E id = A ++ B := by
  induction E with
  | nil => simp [find] at hf
  | cons x r ih =>
    obtain ⟨h1, h2⟩ := List.pairwise_cons.1 hids
    by_cases hx : id = x.id
    · subst hx
      simp [find] at hf
      subst hf
      refine ⟨[], r, rfl, fun q => ?_, by simp [rem]⟩
      have := upd_none (E := r) (id := x.id) q (fun e he => (h1 e he).symm)
      simp only [upd, List.map_cons, if_true, List.nil_append]
      exact congrArg _ this
    · simp only [find, hx, if_false] at hf
      obtain ⟨A, B, e1, e2, e3⟩ := ih h2 hf
      refine ⟨x :: A, B, by rw [e1]; rfl, fun q => ?_, by simp [rem, hx, e3]⟩
      have hx' : ¬ x.id = id := fun e => hx e.symm
      have := e2 q
      simp only [upd, List.map_cons, hx', if_false, List.cons_append] at this ⊢
      rw [this]
end
def isMI (kv : List (Int × Value)) : Obj → Prop := isM (kv.map fun p => (.int .i64 p.1, p.2))
end Go.Proofs.YtcnbbenmlffgpaaGreatDoor

/- Caches of small places in memory, and walks of their small methods. Conditions: the blocks hold what CA.hl says. -/
namespace Go.Proofs.YtcnbbenmlffgpaaGreatDoor
open Go.RowKit

structure CA where
  c : Nat
  bb : Nat
  size : Nat
  rv : RV
  pg : List (BM × Nat)
def pcells (pg : List (BM × Nat)) : List Value := pg.flatMap fun x => [ptr x.1.b, .int .i64 ((1024 * x.2 : Nat) : Int)]
def pgH (pg : List (BM × Nat)) : HL := pg.flatMap fun x => x.1.hl
def CA.hl (c : CA) : HL := (c.c, isC 229 [ptr c.bb, .int .i64 c.size, lvOf c.rv c.pg.length]) :: (rowH c.rv 231 2 (pcells c.pg) ++ pgH c.pg)
/-- Sizes that caches have, how many places a page has then, and the pages in order. -/
structure CA.Ok (c : CA) : Prop where
  rv : rvOk c.rv c.pg.length
  s0 : 16 ≤ c.size
  s1 : c.size ≤ 512
  sorted : c.pg.Pairwise (fun a b => a.2 < b.2)
  lt : ∀ x ∈ c.pg, x.2 < 1048576
  many : ∀ x ∈ c.pg, x.1.bits.length = 960 / c.size
  len : c.pg.length ≤ 1048576
theorem pcells_get (pg : List (BM × Nat)) (k : Nat) (x : BM × Nat) (h : pg[k]? = some x) : (pcells pg)[k * 2]? = some (ptr x.1.b) ∧ (pcells pg)[k * 2 + 1]? = some (.int .i64 ((1024 * x.2 : Nat) : Int)) := by
  induction pg generalizing k with
  | nil => simp at h
  | cons y r ih =>
    cases k with
    | zero => simp at h; subst h; exact ⟨rfl, rfl⟩
    | succ k =>
      have := ih k (by simpa using h)
      have e1 : (k + 1) * 2 = (k * 2) + 1 + 1 := by omega
      have e2 : (k + 1) * 2 + 1 = (k * 2 + 1) + 1 + 1 := by omega
      rw [e1]
      exact ⟨this.1, this.2⟩
theorem pcells_len (pg : List (BM × Nat)) : (pcells pg).length = pg.length * 2 := by
  induction pg with
  | nil => rfl
  | cons y r ih =>
    show (_ :: _ :: pcells r).length = _
    simp [ih]; omega
section
variable {w : World} {c : CA}
theorem CA.sepC (h : Sep w c.hl) : Cells w c.c 229 [ptr c.bb, .int .i64 c.size, lvOf c.rv c.pg.length] := h.cells (by simp [CA.hl])
theorem CA.sepR (h : Sep w c.hl) : Sep w (rowH c.rv 231 2 (pcells c.pg)) := h.tail.left
theorem CA.sepB (h : Sep w c.hl) (k : Nat) (x : BM × Nat) (hx : c.pg[k]? = some x) : Sep w x.1.hl := by
  refine h.sub ?_
  unfold CA.hl pgH
  rw [fm_split (fun x : BM × Nat => x.1.hl) _ _ _ hx]
  refine List.Sublist.cons _ ?_
  refine List.Sublist.trans ?_ (List.sublist_append_right _ _)
  exact (List.sublist_append_right _ _).trans (List.sublist_append_left _ _)
end
set_option maxHeartbeats 400000 in
theorem many_any {w : World} {c : CA} (h : Sep w c.hl) (ok : c.Ok) : Calls Tryz.prog 151 #[.pointer (some ⟨c.c, 0, none⟩)] w fun r w' => r = .returned (.int .i64 ((960 / c.size : Nat) : Int)) ∧ w = w' := by
  have c1 := (CA.sepC h).cell 1 _ rfl
  have s0 := ok.s0
  have hd : ((960 : Int) / (c.size : Int)) = ((960 / c.size : Nat) : Int) := by rw [Int.natCast_ediv]; rfl
  clear h
  generalize c.size = s at *
  go_enter Tryz.func151, Tryz.ntmps151
  go_wp2
  go_ret
  exact ⟨rfl, rfl⟩
/-- Where a place begins. -/
def addr (size p i : Nat) : Nat := 1024 * p + 64 + i * size
set_option maxHeartbeats 1000000 in
theorem place_any {w : World} {c : CA} (h : Sep w c.hl) (ok : c.Ok) (b p i : Nat) (hp : p < 1048576) (hi : i < 64) :
    Calls Tryz.prog 150 #[.pointer (some ⟨c.c, 0, none⟩), .agg #[ptr b, .int .i64 ((1024 * p : Nat) : Int)], .int .i64 i] w (Told w (.int .i64 ((addr c.size p i : Nat) : Int))) := by
  have c1 := (CA.sepC (h.alloc (.cells #[ptr b, .int .i64 ((1024 * p : Nat) : Int)] 231))).cell 1 _ rfl
  have b1 := (Cells.new w 231 [ptr b, .int .i64 ((1024 * p : Nat) : Int)]).cell 1 _ rfl
  have s1 := ok.s1
  have HB : Hid (Below w.heap.size w (w.alloc (.cells #[ptr b, .int .i64 ((1024 * p : Nat) : Int)] 231)).drew) := ((Below.refl _ _).alloc (Nat.le_refl _) _).drew
  have hm : i * c.size ≤ 64 * 512 := Nat.mul_le_mul (by omega) s1
  have hw1 : IntKind.i64.wrap (((1024 * p : Nat) : Int) + 64) = ((1024 * p + 64 : Nat) : Int) := by rw [Go.IntWalk.i64_in _ (by omega)]; omega
  have hw2 : IntKind.i64.wrap ((i : Int) * (c.size : Int)) = ((i * c.size : Nat) : Int) := by rw [← Int.natCast_mul]; exact Go.IntWalk.i64_in _ (by omega)
  have hw3 : IntKind.i64.wrap (((1024 * p + 64 : Nat) : Int) + ((i * c.size : Nat) : Int)) = ((addr c.size p i : Nat) : Int) := by unfold addr; rw [Go.IntWalk.i64_in _ (by omega)]; omega
  clear h ok hm
  generalize addr c.size p i = r at *
  generalize i * c.size = m at *
  generalize hk : 1024 * p + 64 = k at *
  generalize 1024 * p = q at *
  generalize c.size = s at *
  clear hk
  have e1 : (w.alloc (.cells #[ptr b, .int .i64 (q : Int)] 231)).drew.cell? ⟨c.c, 1, none⟩ = some (.int .i64 s) := c1
  have e2 : (w.alloc (.cells #[ptr b, .int .i64 (q : Int)] 231)).drew.cell? ⟨w.heap.size, 1, none⟩ = some (.int .i64 q) := b1
  unfold ptr at *
  go_enter Tryz.func150, Tryz.ntmps150
  go_wp2_with fail
  go_region_held3 (fun w' => w'.cell? ⟨c.c, 1, none⟩ = some (.int .i64 s) ∧ w'.cell? ⟨w.heap.size, 1, none⟩ = some (.int .i64 q)) (first | exact ⟨c1, b1⟩ | exact ⟨e1, e2⟩) (first | fail)
  go_wp2_with fail
  go_ret
  exact ⟨rfl, HB.out⟩
def cmpI (x y : Int) : Int := if x < y then -1 else if y < x then 1 else 0
set_option maxHeartbeats 400000 in
theorem isnan_any {w : World} (x : Int) : Calls Tryz.prog 168 #[.int .i64 x] w fun r w' => r = .returned (.bool false) ∧ w = w' := by
  have h1 : (x != x) = false := by simp
  go_enter Tryz.func168, Tryz.ntmps168
  go_wp2
  go_ret
  exact ⟨rfl, rfl⟩
set_option maxHeartbeats 400000 in
theorem cmp_any {w : World} (x y : Int) : Calls Tryz.prog 141 #[.int .i64 x, .int .i64 y] w fun r w' => r = .returned (.int .i64 (cmpI x y)) ∧ w = w' := by
  unfold cmpI
  by_cases h1 : x < y
  · rw [if_pos h1]
    go_enter Tryz.func141, Tryz.ntmps141
    go_wp2_with (go_at_call 168; refine (isnan_any _).mono ?_; rintro e w' ⟨rfl, rfl⟩)
    go_ret
    exact ⟨rfl, rfl⟩
  · rw [if_neg h1]
    by_cases h2 : y < x
    · rw [if_pos h2]
      go_enter Tryz.func141, Tryz.ntmps141
      go_wp2_with (go_at_call 168; refine (isnan_any _).mono ?_; rintro e w' ⟨rfl, rfl⟩)
      go_ret
      exact ⟨rfl, rfl⟩
    · rw [if_neg h2]
      go_enter Tryz.func141, Tryz.ntmps141
      go_wp2_with (go_at_call 168; refine (isnan_any _).mono ?_; rintro e w' ⟨rfl, rfl⟩)
      go_ret
      exact ⟨rfl, rfl⟩
set_option maxHeartbeats 400000 in
theorem find1_any (w : World) (b : Value) (at_ x : Int) : Calls Tryz.prog 176 #[.agg #[b, .int .i64 at_], .int .i64 x] w fun r w' => r = .returned (.int .i64 (cmpI at_ x)) ∧ Below w.heap.size w w' := by
  have HB : Hid (Below w.heap.size w (w.alloc (.cells #[b, .int .i64 at_] 231))) := (Below.refl _ _).alloc (Nat.le_refl _) _
  have hc := fun w : World => cmp_any (w := w) at_ x
  generalize cmpI at_ x = c at *
  go_enter Tryz.func176, Tryz.ntmps176
  go_wp2_with (go_at_call 141; refine (hc _).mono ?_; rintro e w' ⟨rfl, rfl⟩)
  go_ret
  exact ⟨rfl, HB.out⟩
/-! Where a page stands, or would. -/
def below_ (pg : List (BM × Nat)) (p : Nat) : Nat := (pg.filter fun x => decide (x.2 < p)).length
/-- Pages in order: those below p stand first. -/
theorem below_at {pg : List (BM × Nat)} (hs : pg.Pairwise (fun a b => a.2 < b.2)) (p k : Nat) (x : BM × Nat) (hx : pg[k]? = some x) : (k < below_ pg p ↔ x.2 < p) := by
  induction pg generalizing k with
  | nil => simp at hx
  | cons y r ih =>
    obtain ⟨h1, h2⟩ := List.pairwise_cons.1 hs
    unfold below_
    by_cases hy : y.2 < p
    · rw [List.filter_cons_of_pos (by simpa using hy), List.length_cons]
      cases k with
      | zero => simp at hx; subst hx; simp [hy]
      | succ k =>
        have := ih h2 k (by simpa using hx)
        unfold below_ at this
        omega
    · have hr : r.filter (fun x => decide (x.2 < p)) = [] := by
        rw [List.filter_eq_nil_iff]
        intro z hz
        have := h1 z hz
        simp; omega
      rw [List.filter_cons_of_neg (by simpa using hy), hr]
      have hxp : ¬ x.2 < p := by
        cases k with
        | zero => simp at hx; subst hx; exact hy
        | succ k =>
          have hm := h1 x (List.mem_of_getElem? (by simpa using hx))
          omega
      simp; omega
theorem below_le (pg : List (BM × Nat)) (p : Nat) : below_ pg p ≤ pg.length := List.length_filter_le _ _
end Go.Proofs.YtcnbbenmlffgpaaGreatDoor

/- Walks of a cache's search. Conditions: the blocks hold what CA.hl says. -/
namespace Go.Proofs.YtcnbbenmlffgpaaGreatDoor
open Go.RowKit

theorem cmp_lt (a b : Nat) : decide (cmpI ((1024 * a : Nat) : Int) ((1024 * b : Nat) : Int) < 0) = decide (a < b) := by
  unfold cmpI
  by_cases h1 : a < b
  · rw [if_pos (by omega)]; simp [h1]
  · rw [if_neg (by omega)]
    by_cases h2 : b < a
    · rw [if_pos (by omega)]; simp [h1]
    · rw [if_neg (by omega)]; simp [h1]
theorem cmp_eq (a b : Nat) : (cmpI ((1024 * a : Nat) : Int) ((1024 * b : Nat) : Int) == 0) = decide (a = b) := by
  unfold cmpI
  by_cases h1 : a < b
  · rw [if_pos (by omega), decide_eq_false (by omega)]; rfl
  · rw [if_neg (by omega)]
    by_cases h2 : b < a
    · rw [if_pos (by omega), decide_eq_false (by omega)]; rfl
    · rw [if_neg (by omega), decide_eq_true (by omega)]; rfl
/-- Is there a page of that number? -/
def hasPg (pg : List (BM × Nat)) (q : Nat) : Bool := match pg[below_ pg q]? with | some x => decide (x.2 = q) | none => false
def Found (pg : List (BM × Nat)) (q : Nat) (w : World) (r : Ending) (w' : World) : Prop := r = .returned (.tuple #[.int .i64 (below_ pg q), .bool (hasPg pg q)]) ∧ Below w.heap.size w w'
set_option maxHeartbeats 4000000 in
set_option maxRecDepth 100000 in
theorem bsearch_any {w : World} {c : CA} (h : Sep w c.hl) (ok : c.Ok) (q : Nat) :
    Calls Tryz.prog 175 #[lvOf c.rv c.pg.length, .int .i64 ((1024 * q : Nat) : Int), .func (.func 176) #[] #[]] w (Found c.pg q w) := by
  have hB := below_le c.pg q
  have hln := ok.len
  cases hrv : c.rv with
  | none =>
    have h0 : c.pg.length = 0 := by have := ok.rv; rw [hrv] at this; exact this
    have hpg : c.pg = [] := List.eq_nil_of_length_eq_zero h0
    rw [hpg]
    have hR : Hid (Found [] q w (.returned (.tuple #[.int .i64 0, .bool false])) w) := ⟨rfl, Below.refl _ _⟩
    clear h ok hB hln h0 hpg hrv
    generalize 1024 * q = x at *
    unfold lvOf
    go_enter Tryz.func175, Tryz.ntmps175
    go_wp2_with fail
    go_loop [9, 10] (fun iv jv => iv = .int .i64 0 ∧ jv = .int .i64 0) (fun _ _ => 0)
    case atStart => exact ⟨rfl, rfl⟩
    case round =>
      obtain ⟨rfl, rfl⟩ := hrel
      go_wp2_with fail
      go_ret2
      exact hR.out
  | some p =>
    obtain ⟨rb, cap⟩ := p
    have hsr := CA.sepR h
    rw [hrv] at hsr
    have hrb : rb < w.heap.size := hsr.lt (by simp [rowH])
    have HC := hidden (show ∀ k x wr, c.pg[k]? = some x → Below w.heap.size w wr → wr.cell? ⟨rb, k * 2, none⟩ = some (ptr x.1.b) ∧ wr.cell? ⟨rb, k * 2 + 1, none⟩ = some (.int .i64 ((1024 * x.2 : Nat) : Int)) from fun k x wr hx hb => by
      obtain ⟨e1, e2⟩ := pcells_get _ _ _ hx
      exact ⟨(hb.cell (p := ⟨rb, k * 2, none⟩) hrb).trans (row_cell hsr _ _ e1), (hb.cell (p := ⟨rb, k * 2 + 1, none⟩) hrb).trans (row_cell hsr _ _ e2)⟩)
    have HAt := hidden (fun k x hx => below_at ok.sorted q k x hx)
    have HCall := hidden (show ∀ (x : BM × Nat) (wr : World), Below w.heap.size w wr → Calls Tryz.prog 176 #[.agg #[ptr x.1.b, .int .i64 ((1024 * x.2 : Nat) : Int)], .int .i64 ((1024 * q : Nat) : Int)] wr fun r w' => r = .returned (.int .i64 (cmpI ((1024 * x.2 : Nat) : Int) ((1024 * q : Nat) : Int))) ∧ Below w.heap.size w w' from fun x wr hb =>
      (find1_any wr (ptr x.1.b) _ _).mono fun r w' ⟨e, hb2⟩ => ⟨e, hb.trans (hb2.mono hb.size)⟩)
    have HF := hidden (show ∀ wr : World, Below w.heap.size w wr → Found c.pg q w (.returned (.tuple #[.int .i64 (below_ c.pg q), .bool (hasPg c.pg q)])) wr from fun wr hb => ⟨rfl, hb⟩)
    have HHas : Hid (∀ x, c.pg[below_ c.pg q]? = some x → hasPg c.pg q = decide (x.2 = q)) := fun x hx => by unfold hasPg; rw [hx]
    have HNo : Hid (below_ c.pg q = c.pg.length → hasPg c.pg q = false) := fun e => by unfold hasPg; rw [e, List.getElem?_eq_none (Nat.le_refl _)]
    have HGet : Hid (∀ k, k < c.pg.length → ∃ x, c.pg[k]? = some x) := fun k hk => ⟨_, List.getElem?_eq_getElem hk⟩
    clear h ok hsr hrv
    generalize hBB : below_ c.pg q = B at *
    generalize hasPg c.pg q = hp at *
    generalize hpp : c.pg = pg at *
    generalize pg.length = n at *
    clear hBB hpp
    unfold lvOf
    go_enter Tryz.func175, Tryz.ntmps175
    go_wp2_with fail
    go_loopw [9, 10] (fun iv jv wr => ∃ i j : Nat, iv = .int .i64 i ∧ jv = .int .i64 j ∧ i ≤ B ∧ B ≤ j ∧ j ≤ n ∧ Below w.heap.size w wr) (fun iv jv _ => (intOf jv).toNat - (intOf iv).toNat)
    case atStart => exact ⟨0, n, rfl, rfl, Nat.zero_le _, hB, Nat.le_refl _, Below.refl _ _⟩
    case round =>
      obtain ⟨i, j, rfl, rfl, hi, hj, hjn, hb⟩ := hrel
      by_cases hlt : i < j
      · obtain ⟨k, hk⟩ : ∃ k : Nat, k = (i + j) / 2 := ⟨_, rfl⟩
        have hk1 : ((i : Int) + j) / 2 = (k : Int) := by omega
        have hik : i ≤ k := by omega
        have hkj : k < j := by omega
        clear hk
        obtain ⟨x, hx⟩ := HGet.out k (by omega)
        obtain ⟨d1, d2⟩ := HC.out k x wr hx hb
        have hat := HAt.out k x hx
        have hcl := HCall.out x wr hb
        have hkn : k < n := by omega
        have hk0 : (0 : Int) ≤ k := by omega
        have hkn2 : (k : Int) < n := by omega
        unfold ptr at d1 hcl
        by_cases hxq : x.2 < q
        · have hd : decide (cmpI ((1024 * x.2 : Nat) : Int) ((1024 * q : Nat) : Int) < 0) = true := by rw [cmp_lt]; simpa using hxq
          have hkB := hat.2 hxq
          clear hx hat hxq
          generalize cmpI ((1024 * x.2 : Nat) : Int) ((1024 * q : Nat) : Int) = cv at *
          generalize 1024 * x.2 = xv at *
          generalize 1024 * q = qv at *
          go_wp2_with (go_at_call 176; refine hcl.mono ?_; rintro e w2 ⟨rfl, hb2⟩)
          go_roundw
          case rel => exact ⟨k + 1, j, by go_num, rfl, by omega, hj, hjn, hb2⟩
          case measure => simp [intOf]; omega
        · have hd : decide (cmpI ((1024 * x.2 : Nat) : Int) ((1024 * q : Nat) : Int) < 0) = false := by rw [cmp_lt]; simpa using hxq
          have hkB : ¬ k < B := fun e => hxq (hat.1 e)
          clear hx hat hxq
          generalize cmpI ((1024 * x.2 : Nat) : Int) ((1024 * q : Nat) : Int) = cv at *
          generalize 1024 * x.2 = xv at *
          generalize 1024 * q = qv at *
          go_wp2_with (go_at_call 176; refine hcl.mono ?_; rintro e w2 ⟨rfl, hb2⟩)
          go_roundw
          case rel => exact ⟨i, k, rfl, rfl, hi, by omega, by omega, hb2⟩
          case measure => simp [intOf]; omega
      · obtain rfl : i = B := by omega
        obtain rfl : j = i := by omega
        by_cases hin : j < n
        · obtain ⟨x, hx⟩ := HGet.out j hin
          obtain ⟨d1, d2⟩ := HC.out j x wr hx hb
          have hcl := HCall.out x wr hb
          have hhas := HHas.out x hx
          have heq := cmp_eq x.2 q
          rw [← hhas] at heq
          unfold ptr at d1 hcl
          have hin2 : (j : Int) < n := by omega
          have hj0 : (0 : Int) ≤ j := by omega
          clear hx hhas
          generalize cmpI ((1024 * x.2 : Nat) : Int) ((1024 * q : Nat) : Int) = cv at *
          generalize 1024 * x.2 = xv at *
          generalize 1024 * q = qv at *
          go_wp2_with (go_at_call 176; refine hcl.mono ?_; rintro e w2 ⟨rfl, hb2⟩)
          go_ret2
          exact HF.out _ hb2
        · have hno := HNo.out (by omega)
          subst hno
          have hin2 : ¬ (j : Int) < n := by omega
          have hin3 : decide ((j : Int) < n) = false := by simpa using hin2
          go_wp2_with fail
          go_ret2
          exact HF.out _ hb
/-! find. -/
set_option maxHeartbeats 400000 in
theorem find_any {w : World} {c : CA} (h : Sep w c.hl) (ok : c.Ok) (q : Nat) :
    Calls Tryz.prog 152 #[.pointer (some ⟨c.c, 0, none⟩), .int .i64 ((1024 * q : Nat) : Int)] w (Found c.pg q w) := by
  have k1 := bsearch_any h ok q
  have c2 := (CA.sepC h).cell 2 _ rfl
  have hsh : ∃ a cp, lvOf c.rv c.pg.length = .slice a c.pg.length cp := by
    cases hrv : c.rv with
    | none => have := ok.rv; rw [hrv] at this; exact ⟨none, 0, by show Value.slice none 0 0 = _; rw [show c.pg.length = 0 from this]⟩
    | some p => exact ⟨_, _, rfl⟩
  obtain ⟨a, cp, hv⟩ := hsh
  rw [hv] at k1 c2
  have HQ : Hid (∀ r w', Found c.pg q w r w' → ∃ i b, r = .returned (.tuple #[.int .i64 i, .bool b]) ∧ Found c.pg q w (.returned (.tuple #[.int .i64 i, .bool b])) w') := fun r w' ⟨e, hb⟩ => ⟨_, _, e, rfl, hb⟩
  clear h ok hv
  generalize 1024 * q = x at *
  go_enter Tryz.func152, Tryz.ntmps152
  go_wp2_with fail
  refine k1.mono ?_
  rintro r w1 hf
  obtain ⟨i, b, rfl, hf2⟩ := HQ.out _ _ hf
  have HF2 := hidden hf2
  clear hf2 hf
  go_wp2_with fail
  go_ret2
  exact HF2.out
end Go.Proofs.YtcnbbenmlffgpaaGreatDoor

/- Walks of a cache's spot and Has. Conditions: the blocks hold what CA.hl says. -/
namespace Go.Proofs.YtcnbbenmlffgpaaGreatDoor
open Go.RowKit

theorem below_drewN {w w' : World} {B : Nat} (h : Below B w w') (n : Nat) : Below B w (w'.drewN n) := ⟨h.os, h.tape, h.output, h.size, h.block⟩
theorem bmget_nat {w : World} {m : BM} (h : Sep w m.hl) (i : Nat) (hn : m.bits.length ≤ 1048576) : Calls Tryz.prog 174 #[.pointer (some ⟨m.b, 0, none⟩), .int .i64 i] w fun r w' => r = .returned (.bool (m.bits[i]?.getD false)) ∧ w = w' := by
  by_cases hi : i < m.bits.length
  · exact bmget_in h i hi hn
  · have := bmget_out h i (.inr (by omega))
    rw [List.getElem?_eq_none (by omega)]
    exact this
/-- The page and the place where a used place begins. -/
def spotV (c : CA) (a : Nat) : Option (Nat × Nat) :=
  match c.pg[below_ c.pg (a / 1024)]? with
  | none => none
  | some x => if x.2 = a / 1024 ∧ 64 ≤ a % 1024 ∧ (a % 1024 - 64) % c.size = 0 ∧ x.1.bits[(a % 1024 - 64) / c.size]?.getD false = true then some (below_ c.pg (a / 1024), (a % 1024 - 64) / c.size) else none
def spotT : Option (Nat × Nat) → Value
  | none => .tuple #[.int .i64 0, .int .i64 0, .bool false]
  | some (k, i) => .tuple #[.int .i64 k, .int .i64 i, .bool true]
set_option maxHeartbeats 400000 in
theorem spot_neg {w : World} (c : CA) (a : Int) (ha : a < 0) :
    Calls Tryz.prog 180 #[.pointer (some ⟨c.c, 0, none⟩), .int .i64 a] w fun r w' => r = .returned (spotT none) ∧ w = w' := by
  unfold spotT
  go_enter Tryz.func180, Tryz.ntmps180
  go_wp2
  go_ret3
  exact ⟨rfl, rfl⟩
set_option maxHeartbeats 4000000 in
set_option maxRecDepth 100000 in
theorem spot_no {w : World} (cc s a q k : Nat) (hp : Bool) (FD : Ending → World → Prop) (n : Int) (hs0 : 16 ≤ s) (hs1 : s ≤ 512) (ha : a < 4611686018427387904) (hv1 : (a : Int) / 1024 * 1024 = (q : Int)) (hv2 : (a : Int) % 1024 - 64 = n) (hn : n < 960)
    (k1 : Calls Tryz.prog 152 #[.pointer (some ⟨cc, 0, none⟩), .int .i64 q] w FD) (HQ : Hid (∀ r w', FD r w' → r = .returned (.tuple #[.int .i64 k, .bool hp]) ∧ Below w.heap.size w w'))
    (HC : Hid (∀ w', Below w.heap.size w w' → w'.cell? ⟨cc, 1, none⟩ = some (.int .i64 s)))
    (hno : hp = false ∨ n < 0 ∨ (0 ≤ n ∧ n % s ≠ 0)) :
    Calls Tryz.prog 180 #[.pointer (some ⟨cc, 0, none⟩), .int .i64 a] w (Told w (spotT none)) := by
  have HT : Hid (∀ n w', Below w.heap.size w w' → Told w (spotT none) (.returned (.tuple #[.int .i64 0, .int .i64 0, .bool false])) (w'.drewN n)) := fun n w' hb => ⟨rfl, below_drewN hb n⟩
  by_cases h1 : hp = false
  · subst h1
    clear hno
    go_enter Tryz.func180, Tryz.ntmps180
    go_wp2_with fail
    refine k1.mono ?_
    rintro r w1 hf
    obtain ⟨rfl, hb⟩ := HQ.out _ _ hf
    have c1 := HC.out _ hb
    have HTT := hidden (fun n => HT.out n _ hb)
    clear hf hb
    go_wp2_with fail
    go_quiet (fail)
    go_wp2_with fail
    go_ret3
    exact HTT.out _
  · have h1' : hp = true := by cases hp <;> simp_all
    subst h1'
    by_cases h2 : n < 0
    · have h3 : decide (n < 0) = true := by simpa using h2
      clear hno h1
      go_enter Tryz.func180, Tryz.ntmps180
      go_wp2_with fail
      refine k1.mono ?_
      rintro r w1 hf
      obtain ⟨rfl, hb⟩ := HQ.out _ _ hf
      have c1 := HC.out _ hb
      have HTT := hidden (fun n => HT.out n _ hb)
      clear hf hb
      go_wp2_with fail
      go_quiet (fail)
      go_wp2_with fail
      go_ret3
      exact HTT.out _
    · have h3 : decide (n < 0) = false := by simpa using h2
      have h4 : 0 ≤ n ∧ n % s ≠ 0 := by rcases hno with h | h | h; exact absurd h h1; exact absurd h h2; exact h
      have h5 : (n.tmod (s : Int) != 0) = true := by rw [Int.tmod_eq_emod_of_nonneg h4.1]; simpa using h4.2
      have h6 : (n.tmod (s : Int) == 0) = false := by rw [Int.tmod_eq_emod_of_nonneg h4.1]; simpa using h4.2
      have h7 : ((s : Int) == 0) = false := by simp; omega
      have h8 : (s : Int) ≠ 0 := by omega
      obtain ⟨m, hm⟩ : ∃ m, n.tmod (s : Int) = m := ⟨_, rfl⟩
      rw [hm] at h5 h6
      clear hno h1 h4
      go_enter Tryz.func180, Tryz.ntmps180
      go_wp2_with fail
      refine k1.mono ?_
      rintro r w1 hf
      obtain ⟨rfl, hb⟩ := HQ.out _ _ hf
      have c1 := HC.out _ hb
      have HTT := hidden (fun n => HT.out n _ hb)
      clear hf hb
      go_wp2_with fail
      go_quiet (fail)
      go_wp2_with fail
      go_ret3
      exact HTT.out _
set_option maxHeartbeats 4000000 in
set_option maxRecDepth 100000 in
theorem spot_get {w : World} (cc s a q k rb np cap b : Nat) (FD : Ending → World → Prop) (n i : Nat) (v : Bool) (hs0 : 16 ≤ s) (hs1 : s ≤ 512) (ha : a < 4611686018427387904) (hv1 : (a : Int) / 1024 * 1024 = (q : Int)) (hv2 : (a : Int) % 1024 - 64 = n) (hn : n < 960) (hm : n % s = 0) (hi : n / s = i) (hk : k < np) (hnp : np ≤ 1048576)
    (k1 : Calls Tryz.prog 152 #[.pointer (some ⟨cc, 0, none⟩), .int .i64 q] w FD) (HQ : Hid (∀ r w', FD r w' → r = .returned (.tuple #[.int .i64 k, .bool true]) ∧ Below w.heap.size w w'))
    (HC : Hid (∀ w', Below w.heap.size w w' → w'.cell? ⟨cc, 1, none⟩ = some (.int .i64 s) ∧ w'.cell? ⟨cc, 2, none⟩ = some (.slice (some ⟨rb, 0, none⟩) np cap) ∧ w'.cell? ⟨rb, k * 2, none⟩ = some (.pointer (some ⟨b, 0, none⟩)) ∧
      ∀ n, Calls Tryz.prog 174 #[.pointer (some ⟨b, 0, none⟩), .int .i64 i] (w'.drewN n) fun r w'' => r = .returned (.bool v) ∧ ∃ m, w'' = w'.drewN m)) :
    Calls Tryz.prog 180 #[.pointer (some ⟨cc, 0, none⟩), .int .i64 a] w (Told w (spotT (if v then some (k, i) else none))) := by
  have hd1 : (n : Int).tmod (s : Int) = 0 := by rw [Int.tmod_eq_emod_of_nonneg (by omega)]; omega
  have hd2 : (n : Int).tdiv (s : Int) = (i : Int) := by rw [Int.tdiv_eq_ediv_of_nonneg (by omega), ← hi]; exact (Int.natCast_ediv n s).symm
  have h7 : ((s : Int) == 0) = false := by simp; omega
  have h8 : (s : Int) ≠ 0 := by omega
  have hk0 : (0 : Int) ≤ k := by omega
  have hk1 : (k : Int) < np := by omega
  have h3 : decide ((n : Int) < 0) = false := by simp
  have h9 : (i : Int) < 1024 := by have := Nat.div_le_self n s; omega
  have h10 : (0 : Int) ≤ i := by omega
  clear hm hi hn
  obtain ⟨z, hz⟩ : ∃ z : Int, z = n := ⟨_, rfl⟩
  rw [← hz] at hd1 hd2 h3 hv2
  clear hz
  cases v with
  | false =>
    have HT : Hid (∀ n w', Below w.heap.size w w' → Told w (spotT (if false = true then some (k, i) else none)) (.returned (.tuple #[.int .i64 0, .int .i64 0, .bool false])) (w'.drewN n)) := fun n w' hb => ⟨rfl, below_drewN hb n⟩
    go_enter Tryz.func180, Tryz.ntmps180
    go_wp2_with fail
    refine k1.mono ?_
    rintro r w1 hf
    obtain ⟨rfl, hb⟩ := HQ.out _ _ hf
    obtain ⟨c1, c2, c3, hget⟩ := HC.out _ hb
    have HTT := hidden (fun n => HT.out n _ hb)
    have HG := hidden hget
    clear hf hb hget
    go_wp2_with fail
    go_quiet ((go_at_call 174; exact HG.out _))
    go_wp2_with fail
    go_ret3
    exact HTT.out _
  | true =>
    have HT : Hid (∀ n w', Below w.heap.size w w' → Told w (spotT (if true = true then some (k, i) else none)) (.returned (.tuple #[.int .i64 k, .int .i64 i, .bool true])) (w'.drewN n)) := fun n w' hb => ⟨rfl, below_drewN hb n⟩
    go_enter Tryz.func180, Tryz.ntmps180
    go_wp2_with fail
    refine k1.mono ?_
    rintro r w1 hf
    obtain ⟨rfl, hb⟩ := HQ.out _ _ hf
    obtain ⟨c1, c2, c3, hget⟩ := HC.out _ hb
    have HTT := hidden (fun n => HT.out n _ hb)
    have HG := hidden hget
    clear hf hb hget
    go_wp2_with fail
    go_quiet ((go_at_call 174; exact HG.out _))
    go_wp2_with fail
    go_quiet (fail)
    go_wp2_with fail
    go_ret3
    exact HTT.out _
/-! Joined. -/
theorem spot_any {w : World} {c : CA} (h : Sep w c.hl) (ok : c.Ok) (a : Nat) (ha : a < 4611686018427387904) :
    Calls Tryz.prog 180 #[.pointer (some ⟨c.c, 0, none⟩), .int .i64 a] w (Told w (spotT (spotV c a))) := by
  have k1 := find_any h ok (a / 1024)
  have s0 := ok.s0
  have s1 := ok.s1
  have hln := ok.len
  have hv1 : (a : Int) / 1024 * 1024 = ((1024 * (a / 1024) : Nat) : Int) := by omega
  have hcl : c.c < w.heap.size := h.lt (by simp [CA.hl])
  have hC1 := (CA.sepC h).cell 1 _ rfl
  have hC2 := (CA.sepC h).cell 2 _ rfl
  have HC1 : Hid (∀ w', Below w.heap.size w w' → w'.cell? ⟨c.c, 1, none⟩ = some (.int .i64 c.size)) := fun w' hb => (hb.cell (p := ⟨c.c, 1, none⟩) hcl).trans hC1
  have HQ : Hid (∀ r w', Found c.pg (a / 1024) w r w' → r = .returned (.tuple #[.int .i64 (below_ c.pg (a / 1024)), .bool (hasPg c.pg (a / 1024))]) ∧ Below w.heap.size w w') := fun r w' hf => hf
  have no : ∀ hp, hasPg c.pg (a / 1024) = hp → (hp = false ∨ (a : Int) % 1024 - 64 < 0 ∨ (0 ≤ (a : Int) % 1024 - 64 ∧ ((a : Int) % 1024 - 64) % (c.size : Int) ≠ 0)) → Calls Tryz.prog 180 #[.pointer (some ⟨c.c, 0, none⟩), .int .i64 a] w (Told w (spotT none)) := fun hp _ hno =>
    spot_no c.c c.size a (1024 * (a / 1024)) (below_ c.pg (a / 1024)) (hasPg c.pg (a / 1024)) _ _ s0 s1 ha hv1 rfl (by omega) k1 HQ HC1 (by subst hp; exact hno)
  unfold spotV
  cases hx : c.pg[below_ c.pg (a / 1024)]? with
  | none => exact no false (by unfold hasPg; rw [hx]) (.inl rfl)
  | some x =>
    have hh : hasPg c.pg (a / 1024) = decide (x.2 = a / 1024) := by unfold hasPg; rw [hx]
    by_cases h1 : x.2 = a / 1024
    · have ht : hasPg c.pg (a / 1024) = true := by rw [hh]; simpa using h1
      by_cases h2 : 64 ≤ a % 1024
      · have hz : (a : Int) % 1024 - 64 = ((a % 1024 - 64 : Nat) : Int) := by omega
        by_cases h3 : (a % 1024 - 64) % c.size = 0
        · have hk := (List.getElem?_eq_some_iff.1 hx).1
          obtain ⟨rb, cap, hrv⟩ : ∃ rb cap, c.rv = some (rb, cap) := by
            cases e : c.rv with
            | none => have := ok.rv; rw [e] at this; have : c.pg.length = 0 := this; omega
            | some p => exact ⟨p.1, p.2, rfl⟩
          have hsr := CA.sepR h
          rw [hrv] at hsr
          have hrb : rb < w.heap.size := hsr.lt (by simp [rowH])
          have hsb := CA.sepB h _ x hx
          have hml := ok.many x (List.mem_of_getElem? hx)
          have hmn : x.1.bits.length ≤ 1048576 := by rw [hml]; have := Nat.div_le_self 960 c.size; omega
          obtain ⟨e1, _⟩ := pcells_get _ _ _ hx
          have := spot_get c.c c.size a (1024 * (a / 1024)) (below_ c.pg (a / 1024)) rb c.pg.length cap x.1.b _ (a % 1024 - 64) ((a % 1024 - 64) / c.size) (x.1.bits[(a % 1024 - 64) / c.size]?.getD false) s0 s1 ha hv1 hz (by omega) h3 rfl hk hln k1 (fun r w' hf => by rw [← ht]; exact hf) (fun w' hb => ⟨HC1 w' hb, by
            have := (hb.cell (p := ⟨c.c, 2, none⟩) hcl).trans hC2
            rw [hrv] at this
            exact this, (hb.cell (p := ⟨rb, _, none⟩) hrb).trans (row_cell hsr _ _ e1), fun n => (bmget_nat ((hsb.grown hb).sep.drewN n) _ hmn).mono fun r w'' ⟨e, e2⟩ => ⟨e, n, e2.symm⟩⟩)
          refine this.mono fun r w' hr => ?_
          simp only [h1, h2, h3, true_and]
          exact hr
        · have := no true ht (.inr (.inr ⟨by omega, by rw [hz]; intro e; exact h3 (by exact_mod_cast e)⟩))
          simpa [h3] using this
      · have := no true ht (.inr (.inl (by omega)))
        simpa [h2] using this
    · have := no false (by rw [hh]; simpa using h1) (.inl rfl)
      simpa [h1] using this
set_option maxHeartbeats 1000000 in
theorem has_any {w : World} {c : CA} (h : Sep w c.hl) (ok : c.Ok) (a : Nat) (ha : a < 4611686018427387904) :
    Calls Tryz.prog 179 #[.pointer (some ⟨c.c, 0, none⟩), .int .i64 a] w (Told w (.bool (spotV c a).isSome)) := by
  have k1 := spot_any h ok a ha
  clear h ok
  generalize spotV c a = o at *
  generalize c.c = cc at *
  have HQ : Hid (∀ r w', Told w (spotT o) r w' → ∃ i j : Int, r = .returned (.tuple #[.int .i64 i, .int .i64 j, .bool o.isSome]) ∧ Told w (.bool o.isSome) (.returned (.bool o.isSome)) w') := fun r w' ⟨e, hb⟩ => by
    cases o with
    | none => exact ⟨0, 0, e, rfl, hb⟩
    | some p => exact ⟨p.1, p.2, e, rfl, hb⟩
  generalize o.isSome = v at *
  go_enter Tryz.func179, Tryz.ntmps179
  go_wp2_with fail
  refine k1.mono ?_
  rintro r w1 hf
  obtain ⟨i, j, rfl, hf2⟩ := HQ.out _ _ hf
  have HF2 := hidden hf2
  clear hf2 hf
  go_wp2_with fail
  go_ret
  exact HF2.out
end Go.Proofs.YtcnbbenmlffgpaaGreatDoor

/- copy at elements of several cells; laws of no program. -/
namespace Go.Proofs.YtcnbbenmlffgpaaGreatDoor
open Go.RowKit

theorem run_copy_k {P : Program} (w : World) (dT sT ty elem : TypeId) (size g o dLen dCap : Nat) (a : Addr) (sLen sCap m : Nat) (cur : Array Value) (t : TypeId) (cs : List Value)
    (hu : P.underlying dT = some (.slice elem)) (hs : (P.info? elem).map (·.size) = some size)
    (hg : w.heap[g]? = some (.cells cur t (0, 0))) (hm : Nat.min sLen dLen = m) (hn : cs.length = m * size)
    (hsrc : ∀ j v, cs[j]? = some v → w.cell? (a.add j) = some v) (hfit : o + cs.length ≤ cur.size) (h1 : ∀ v ∈ cs, v.oneCell' = true) :
    (Builtin.copy_ #[dT, sT] ty #[.slice (some ⟨g, o, none⟩) dLen dCap, .slice (some a) sLen sCap]).run P w =
      .ok (.int .i64 m) (w.setRow g (cur.toList.take o ++ cs ++ cur.toList.drop (o + cs.length)).toArray) := by
  have hl := run_loadCells_list (P := P) w a cs hsrc
  have hst := run_storeCells_at P g o t cs 0 cur w hg (by simpa using hfit) h1
  rw [hn] at hl
  cases hq : P.info? elem with
  | none => simp [hq] at hs
  | some i =>
    have hi : i.size = size := by simpa [hq] using hs
    simp [Builtin.copy_, run_underlying hu, Builtin.lenOf, Builtin.firstCells, sizeOf, typeInfo, hq, hi, hm, hl, hst, goInt]
/-- What an insert in place leaves: the tail moved, then the news laid. -/
theorem ins_cells (cur : List Value) (xs news : List Value) (p : Nat) (hx : cur.take xs.length = xs) (hp : p ≤ xs.length) (hl : xs.length + news.length ≤ cur.length) :
    let c1 := cur.take (p + news.length) ++ xs.drop p ++ cur.drop (p + news.length + (xs.drop p).length)
    let c2 := c1.take p ++ news ++ c1.drop (p + news.length)
    c1.length = cur.length ∧ c2.length = cur.length ∧ c2.take (xs.length + news.length) = xs.take p ++ news ++ xs.drop p := by
  have e0 : (xs.drop p).length = xs.length - p := List.length_drop
  have e1 : (cur.take (p + news.length) ++ xs.drop p ++ cur.drop (p + news.length + (xs.drop p).length)).length = cur.length := by
    simp only [List.length_append, List.length_take, List.length_drop]; omega
  refine ⟨e1, ?_, ?_⟩
  · simp only [List.length_append, List.length_take, List.length_drop]; omega
  · have ht : (cur.take (p + news.length) ++ xs.drop p ++ cur.drop (p + news.length + (xs.drop p).length)).take p = xs.take p := by
      rw [List.append_assoc, List.take_append_of_le_length (by simp; omega), List.take_take, show min p (p + news.length) = p by omega]
      rw [← hx, List.take_take, show min p xs.length = p by omega]
    have hd : (cur.take (p + news.length) ++ xs.drop p ++ cur.drop (p + news.length + (xs.drop p).length)).drop (p + news.length) = xs.drop p ++ cur.drop (p + news.length + (xs.drop p).length) := by
      rw [List.append_assoc, List.drop_append_of_le_length (by simp; omega), List.drop_eq_nil_of_le (by simp; omega), List.nil_append]
    show List.take (xs.length + news.length) _ = _
    rw [ht, hd, ← List.append_assoc]
    have e2 : (xs.take p ++ news ++ xs.drop p).length = xs.length + news.length := by simp; omega
    rw [← e2, List.take_left]
end Go.Proofs.YtcnbbenmlffgpaaGreatDoor
