/- The controller of irqs in memory: what its blocks hold, and how single stores turn that. No condition. -/
import Derived.Test.YtekgfdfganelmaaBase
import Derived.Maps.AppendAt
namespace Go.Proofs.Ytekgfdfganelmaa
open Go.RowKit

structure Irq where
  line : Int
  masked : Bool
  thread : Int
  lost : Int
  pending : Bool
def Irq.cells (q : Irq) : List Value := [.int .i64 q.line, .bool q.masked, .int .i64 q.thread, .int .i64 q.lost, .bool q.pending]

/-- An entry of the controller's map: the number, where its struct lies, what that holds. -/
structure Ent where
  id : Int
  b : Nat
  q : Irq
def ptr (b : Nat) : Value := .pointer (some ⟨b, 0, none⟩)
def kvs (E : List Ent) : List (Int × Value) := E.map fun e => (e.id, ptr e.b)
def find : List Ent → Int → Option Ent
  | [], _ => none
  | e :: r, id => if id = e.id then some e else find r id
def upd (E : List Ent) (id : Int) (q : Irq) : List Ent := E.map fun e => if e.id = id then { e with q := q } else e
def rem : List Ent → Int → List Ent
  | [], _ => []
  | e :: r, id => if id = e.id then r else e :: rem r id

theorem look_kvs (E : List Ent) (id : Int) : look (kvs E) id = (find E id).map fun e => ptr e.b := by
  induction E with
  | nil => rfl
  | cons e r ih =>
    have ih' : look (r.map fun e => (e.id, ptr e.b)) id = _ := ih
    by_cases h : id = e.id <;> simp [kvs, look, find, h, ih']
theorem put_kvs (E : List Ent) (id : Int) (b : Nat) (q : Irq) (h : find E id = none) : put (kvs E) id (ptr b) = kvs (E ++ [⟨id, b, q⟩]) := by
  induction E with
  | nil => rfl
  | cons e r ih =>
    by_cases hk : id = e.id
    · simp [find, hk] at h
    · simp only [find, hk, if_false] at h
      have ih' : put (r.map fun e => (e.id, ptr e.b)) id (ptr b) = _ := ih h
      simp [kvs, put, hk, ih']
theorem del_kvs (E : List Ent) (id : Int) : del (kvs E) id = kvs (rem E id) := by
  induction E with
  | nil => rfl
  | cons e r ih =>
    have ih' : del (r.map fun e => (e.id, ptr e.b)) id = _ := ih
    by_cases hk : id = e.id <;> simp [kvs, del, rem, hk, ih']
theorem kvs_upd (E : List Ent) (id : Int) (q : Irq) : kvs (upd E id q) = kvs E := by
  simp only [kvs, upd, List.map_map]
  apply List.map_congr_left
  intro e _
  by_cases h : e.id = id <;> simp [h]
theorem find_mem {E : List Ent} {id : Int} {e : Ent} (h : find E id = some e) : e ∈ E ∧ e.id = id := by
  induction E with
  | nil => simp [find] at h
  | cons x r ih =>
    by_cases hk : id = x.id
    · simp [find, hk] at h; subst h; exact ⟨by simp, hk.symm⟩
    · simp only [find, hk, if_false] at h; exact ⟨by simp [(ih h).1], (ih h).2⟩
theorem find_none {E : List Ent} {id : Int} (h : find E id = none) : ∀ e ∈ E, e.id ≠ id := by
  induction E with
  | nil => simp
  | cons x r ih =>
    by_cases hk : id = x.id
    · simp [find, hk] at h
    · simp only [find, hk, if_false] at h
      intro e he
      rcases List.mem_cons.1 he with rfl | he
      · exact fun h' => hk h'.symm
      · exact ih h e he
theorem mem_rem {E : List Ent} {id : Int} {e : Ent} (h : e ∈ rem E id) : e ∈ E := by
  induction E with
  | nil => simp [rem] at h
  | cons x r ih =>
    by_cases hk : id = x.id
    · simp [rem, hk] at h; simp [h]
    · simp only [rem, hk, if_false] at h
      rcases List.mem_cons.1 h with rfl | h
      · simp
      · simp [ih h]
theorem rem_sublist (E : List Ent) (id : Int) : (rem E id).Sublist E := by
  induction E with
  | nil => simp [rem]
  | cons x r ih =>
    by_cases hk : id = x.id
    · simp [rem, hk]
    · simp only [rem, hk, if_false]; exact ih.cons_cons x

/-- What the controller's blocks hold. -/
structure G where
  m : Nat
  E : List Ent
  lines : List Int
  row : List Int
  rv : Value

structure Rep (w : World) (c : Nat) (g : G) : Prop where
  ctl : Cells w c 55 (.map (some g.m) :: (g.lines.map (Value.int .i64) ++ [g.rv]))
  len : g.lines.length = 16
  map : MapInt w g.m (kvs g.E)
  irq : ∀ e ∈ g.E, Cells w e.b 62 e.q.cells
  row : w.ownsRow 0 3 1 g.rv g.row.length (g.row.map (Value.int .i64))
  nd : g.E.Pairwise (fun a b => a.b ≠ b.b)
  ids : g.E.Pairwise (fun a b => a.id ≠ b.id)

def fp (c : Nat) (g : G) (b : Nat) : Prop := b = c ∨ b = g.m ∨ g.rv.ownBlock = some b ∨ ∃ e ∈ g.E, e.b = b

theorem Cells.type_ne {w : World} {a b : Nat} {T U : TypeId} {cs ds : List Value} (h : Cells w a T cs) (k : Cells w b U ds) (hne : T ≠ U) : a ≠ b := by
  rintro rfl
  unfold Cells at h k
  rw [h] at k
  cases k
  exact hne rfl
theorem ownsRow_block {w : World} {v : Value} {n : Nat} {xs : List Value} {g : Nat} (h : w.ownsRow 0 3 1 v n xs) (hg : v.ownBlock = some g) : ∃ cs, Cells w g 3 cs := by
  rcases h.2 with ⟨rfl, _⟩ | ⟨g', cap, cur, rfl, _, hgg, _⟩
  · cases hg
  · simp [Value.ownBlock] at hg; subst hg; exact ⟨cur.toList, by simpa [Cells] using hgg⟩
theorem Rep.lt {w : World} {c : Nat} {g : G} (h : Rep w c g) {b : Nat} (hb : fp c g b) : b < w.heap.size := by
  rcases hb with rfl | rfl | hb | ⟨e, he, rfl⟩
  · exact h.ctl.lt
  · exact MapIs.lt h.map
  · exact (h.row.lt b hb).2
  · exact (h.irq e he).lt
theorem Rep.cne {w : World} {c : Nat} {g : G} (h : Rep w c g) {e : Ent} (he : e ∈ g.E) : c ≠ e.b := h.ctl.type_ne (h.irq e he) (by decide)
theorem Rep.rne {w : World} {c : Nat} {g : G} (h : Rep w c g) {b : Nat} (hb : g.rv.ownBlock = some b) : c ≠ b ∧ ∀ e ∈ g.E, e.b ≠ b := by
  obtain ⟨cs, hc⟩ := ownsRow_block h.row hb
  exact ⟨h.ctl.type_ne hc (by decide), fun e he => (h.irq e he).type_ne hc (by decide)⟩
theorem Rep.mne {w : World} {c : Nat} {g : G} (h : Rep w c g) : c ≠ g.m ∧ (∀ e ∈ g.E, e.b ≠ g.m) ∧ ∀ b, g.rv.ownBlock = some b → b ≠ g.m :=
  ⟨MapIs.ne_cells h.map h.ctl, fun e he => MapIs.ne_cells h.map (h.irq e he), fun b hb => by obtain ⟨cs, hc⟩ := ownsRow_block h.row hb; exact MapIs.ne_cells h.map hc⟩

theorem ownsRow_succ {W : World} {base : Nat} {e : TypeId} {size : Nat} {v : Value} {k : Nat} {xs : List Value} (h : W.ownsRow base e size v (k + 1) xs) : ∃ g cap, v = .slice (some ⟨g, 0, none⟩) (k + 1) cap := by
  rcases h.2 with ⟨_, h0⟩ | ⟨g, cap, _, rfl, _⟩
  · omega
  · exact ⟨g, cap, rfl⟩
theorem ownsRow_same {w w' : World} {base : Nat} {e : TypeId} {size : Nat} {v : Value} {n : Nat} {xs : List Value} (h : w.ownsRow base e size v n xs) (hs : ∀ g, v.ownBlock = some g → w'.heap[g]? = w.heap[g]?) : w'.ownsRow base e size v n xs := by
  obtain ⟨h1, h2⟩ := h
  refine ⟨h1, ?_⟩
  rcases h2 with h2 | ⟨g, cap, cur, rfl, hb, hh, r⟩
  · exact .inl h2
  · exact .inr ⟨g, cap, cur, rfl, hb, (hs g rfl).trans hh, r⟩

/-- Nothing of it turned: it is as it was. -/
theorem Rep.same {w w' : World} {c : Nat} {g : G} (h : Rep w c g) (hs : ∀ b, fp c g b → w'.heap[b]? = w.heap[b]?) : Rep w' c g where
  ctl := h.ctl.same (hs c (.inl rfl))
  len := h.len
  map := MapIs.same h.map (hs _ (.inr (.inl rfl)))
  irq := fun e he => (h.irq e he).same (hs _ (.inr (.inr (.inr ⟨e, he, rfl⟩))))
  row := ownsRow_same h.row fun b hb => hs b (.inr (.inr (.inl hb)))
  nd := h.nd
  ids := h.ids
theorem Rep.chg {w w' : World} {c : Nat} {g : G} {F : Nat → Prop} (h : Rep w c g) (hc : Chg F w w') (hF : ∀ b, F b → ¬ fp c g b) : Rep w' c g :=
  h.same fun b hb => hc.block b (h.lt hb) fun hf => hF b hf hb
theorem Rep.drew {w : World} {c : Nat} {g : G} (h : Rep w c g) : Rep w.drew c g := h.same fun _ _ => rfl
theorem Rep.alloc {w : World} {c : Nat} {g : G} (h : Rep w c g) (o : Obj) : Rep (w.alloc o) c g := h.same fun b hb => Below.heap_alloc _ _ _ (h.lt hb)

theorem ownsRow_set {w : World} {base : Nat} {e : TypeId} {size : Nat} {v : Value} {n : Nat} {xs : List Value} (h : w.ownsRow base e size v n xs) (a : Addr) (u : Value) (hne : v.ownBlock ≠ some a.block) : (w.setCell a u).ownsRow base e size v n xs :=
  ownsRow_setCell_other h hne u

theorem mem_upd {E : List Ent} {id : Int} {q : Irq} {x : Ent} (h : x ∈ upd E id q) : ∃ e ∈ E, e.b = x.b ∧ e.id = x.id ∧ ((e.id = id ∧ x.q = q) ∨ (e.id ≠ id ∧ x = e)) := by
  obtain ⟨e, he, rfl⟩ := List.mem_map.1 h
  by_cases hk : e.id = id
  · exact ⟨e, he, by simp [hk], by simp [hk], .inl ⟨hk, by simp [hk]⟩⟩
  · exact ⟨e, he, by simp [hk], by simp [hk], .inr ⟨hk, by simp [hk]⟩⟩
theorem upd_pairwise {E : List Ent} (id : Int) (q : Irq) {R : Ent → Ent → Prop} (hR : ∀ a b a' b' : Ent, a.b = a'.b → a.id = a'.id → b.b = b'.b → b.id = b'.id → R a b → R a' b') (h : E.Pairwise R) : (upd E id q).Pairwise R := by
  unfold upd
  rw [List.pairwise_map]
  refine h.imp fun {a b} hab => hR a b _ _ ?_ ?_ ?_ ?_ hab <;> split <;> rfl
theorem key_inj {α β : Type} (f : α → β) {E : List α} (h : E.Pairwise (fun a b => f a ≠ f b)) {a b : α} (ha : a ∈ E) (hb : b ∈ E) (e : f a = f b) : a = b := by
  induction E with
  | nil => simp at ha
  | cons x r ih =>
    obtain ⟨h1, h2⟩ := List.pairwise_cons.1 h
    rcases List.mem_cons.1 ha with ha' | ha' <;> rcases List.mem_cons.1 hb with hb' | hb'
    · rw [ha', hb']
    · subst ha'; exact absurd e (h1 b hb')
    · subst hb'; exact absurd e.symm (h1 a ha')
    · exact ih h2 ha' hb'

/-- A store into one irq's struct. -/
theorem Rep.setIrq {w : World} {c : Nat} {g : G} (h : Rep w c g) {id : Int} {e : Ent} (hf : find g.E id = some e) (i : Nat) (v : Value) (q : Irq) (hq : e.q.cells.set i v = q.cells) :
    Rep (w.setCell ⟨e.b, i, none⟩ v) c { g with E := upd g.E id q } := by
  obtain ⟨he, hid⟩ := find_mem hf
  refine ⟨?_, h.len, ?_, ?_, ?_, ?_, ?_⟩
  · exact h.ctl.set_other _ _ (h.cne he)
  · show MapInt _ g.m (kvs (upd g.E id q)); rw [kvs_upd]; exact MapIs.set h.map _ _
  · intro x hx
    obtain ⟨y, hy, hb, hyid, hc⟩ := mem_upd hx
    by_cases hyb : y.b = e.b
    · obtain rfl := key_inj Ent.b h.nd hy he hyb
      rcases hc with ⟨_, hxq⟩ | ⟨hne, _⟩
      · rw [← hb, hxq, ← hq]; exact (h.irq y hy).set i v
      · exact absurd hid hne
    · rcases hc with ⟨hyid', _⟩ | ⟨_, rfl⟩
      · exfalso
        have : y = e := key_inj Ent.id h.ids hy he (hyid'.trans hid.symm)
        exact hyb (by rw [this])
      · exact (h.irq x hy).set_other _ _ hyb
  · exact ownsRow_set h.row _ _ fun hb => (h.rne hb).2 e he rfl
  · exact upd_pairwise id q (fun a b a' b' e1 _ e2 _ hab => by rw [← e1, ← e2]; exact hab) h.nd
  · exact upd_pairwise id q (fun a b a' b' _ e1 _ e2 hab => by rw [← e1, ← e2]; exact hab) h.ids

/-- A store into a line's cell. -/
theorem Rep.setLine {w : World} {c : Nat} {g : G} (h : Rep w c g) (k : Nat) (x : Int) : k < 16 → Rep (w.setCell ⟨c, k + 1, none⟩ (.int .i64 x)) c { g with lines := g.lines.set k x } := by
  intro hk
  refine ⟨?_, by simpa using h.len, MapIs.set h.map _ _, fun e he => (h.irq e he).set_other _ _ (h.cne he).symm, ownsRow_set h.row _ _ fun hb => (h.rne hb).1 rfl, h.nd, h.ids⟩
  have := h.ctl.set (k + 1) (.int .i64 x)
  simpa [List.set_append, h.len, hk, List.map_set] using this

/-- A store of the row. -/
theorem Rep.setRow {w : World} {c : Nat} {g : G} (h : Rep w c g) (rv : Value) (row : List Int) (hr : w.ownsRow 0 3 1 rv row.length (row.map (Value.int .i64))) : Rep (w.setCell ⟨c, 17, none⟩ rv) c { g with rv := rv, row := row } := by
  refine ⟨?_, h.len, MapIs.set h.map _ _, fun e he => (h.irq e he).set_other _ _ (h.cne he).symm, ownsRow_set hr _ _ fun hb => ?_, h.nd, h.ids⟩
  · have := h.ctl.set 17 rv
    simpa [List.set_append, h.len] using this
  · obtain ⟨cs, hc⟩ := ownsRow_block hr hb
    exact h.ctl.type_ne hc (by decide) rfl
end Go.Proofs.Ytekgfdfganelmaa
