/- The document's controller in memory: a list of records, a row; what its blocks hold. No condition. -/
import Derived.Test.YtekgfdfganelmaaSame
import Derived.Test.YtekgfdfganelmaaAlive
namespace Go.Proofs.Ytekgfdfganelmaa
open Go.RowKit

structure Rc where
  id : Int
  line : Int
  thread : Int
  lost : Int
  masked : Bool
def Rc.cells (q : Rc) : List Value := [.int .i64 q.id, .int .i64 q.line, .int .i64 q.thread, .int .i64 q.lost, .bool q.masked]
def flat (L : List Rc) : List Value := L.flatMap Rc.cells
theorem flat_get : ∀ (L : List Rc) (k f : Nat), f < 5 → (flat L)[k * 5 + f]? = (L[k]?).bind fun q => q.cells[f]?
  | [], k, f, _ => by simp [flat]
  | q :: r, 0, f, hf => by
    show (q.cells ++ flat r)[0 * 5 + f]? = _
    rw [List.getElem?_append_left (by simp [Rc.cells]; omega)]
    simp
  | q :: r, k + 1, f, hf => by
    show (q.cells ++ flat r)[(k + 1) * 5 + f]? = _
    rw [List.getElem?_append_right (by simp [Rc.cells]; omega)]
    have e : (k + 1) * 5 + f - q.cells.length = k * 5 + f := by simp [Rc.cells]; omega
    rw [e, flat_get r k f hf]
    simp
theorem flat_len (L : List Rc) : (flat L).length = L.length * 5 := by
  induction L with
  | nil => rfl
  | cons q r ih =>
    show (q.cells ++ flat r).length = _
    rw [List.length_append, ih]
    simp [Rc.cells]; omega
theorem flat_append (L M : List Rc) : flat (L ++ M) = flat L ++ flat M := by simp [flat]
def Rc.zero : Rc := ⟨0, 0, 0, 0, false⟩
def nth (L : List Rc) (k : Nat) : Rc := L[k]?.getD .zero
theorem nth_some {L : List Rc} {k : Nat} (h : k < L.length) : L[k]? = some (nth L k) := by
  unfold nth
  rw [List.getElem?_eq_getElem h]; rfl

structure RG where
  L : List Rc
  row : List Int
  lv : Value
  rv : Value
structure RRep (w : World) (r : Nat) (g : RG) : Prop where
  ctl : Cells w r 42 [g.lv, g.rv]
  recs : w.ownsRow 0 73 5 g.lv g.L.length (flat g.L)
  row : w.ownsRow 0 3 1 g.rv g.row.length (g.row.map (Value.int .i64))
def rfp (r : Nat) (g : RG) (b : Nat) : Prop := b = r ∨ g.lv.ownBlock = some b ∨ g.rv.ownBlock = some b

/-- What is read of the records. -/
def RecsAt (w : World) (a : Option Addr) (L : List Rc) : Prop := ∀ k, k < L.length → ∃ gb, a = some ⟨gb, 0, none⟩ ∧
  w.cell? ⟨gb, k * 5, none⟩ = some (.int .i64 (nth L k).id) ∧ w.cell? ⟨gb, k * 5 + 1, none⟩ = some (.int .i64 (nth L k).line) ∧ w.cell? ⟨gb, k * 5 + 2, none⟩ = some (.int .i64 (nth L k).thread) ∧
  w.cell? ⟨gb, k * 5 + 3, none⟩ = some (.int .i64 (nth L k).lost) ∧ w.cell? ⟨gb, k * 5 + 4, none⟩ = some (.bool (nth L k).masked)
def IntsAt (w : World) (a : Option Addr) (xs : List Int) : Prop := ∀ k, k < xs.length → ∃ gb, a = some ⟨gb, 0, none⟩ ∧ w.cell? ⟨gb, k, none⟩ = some (.int .i64 (xs[k]?.getD 0))

theorem owns_shape {w : World} {b : Nat} {e : TypeId} {size : Nat} {v : Value} {n : Nat} {xs : List Value} (h : w.ownsRow b e size v n xs) : ∃ a cap, v = .slice a n cap := by
  rcases h.2 with ⟨rfl, h0⟩ | ⟨g, cap, cur, rfl, _⟩
  · exact ⟨none, 0, by rw [h0]⟩
  · exact ⟨_, _, rfl⟩
theorem RRep.open_recs {w : World} {r : Nat} {g : RG} (h : RRep w r g) : ∃ a cap, g.lv = .slice a g.L.length cap ∧ RecsAt w a g.L := by
  rcases h.recs.2 with ⟨hv, h0⟩ | ⟨gb, cap, cur, hv, _⟩
  · exact ⟨none, 0, by rw [hv, h0], fun k hk => by omega⟩
  · refine ⟨_, _, hv, fun k hk => ⟨gb, rfl, ?_⟩⟩
    have hc := fun f (hf : f < 5) v (hv2 : (nth g.L k).cells[f]? = some v) => h.recs.cells (g := gb) (by rw [hv]; rfl) (k * 5 + f) v (by rw [flat_get _ _ _ hf, nth_some hk]; exact hv2)
    have e : ∀ j, (⟨gb, 0, none⟩ : Addr).add j = ⟨gb, j, none⟩ := fun j => by unfold Addr.add; split <;> simp_all
    simp only [e] at hc
    exact ⟨hc 0 (by omega) _ rfl, hc 1 (by omega) _ rfl, hc 2 (by omega) _ rfl, hc 3 (by omega) _ rfl, hc 4 (by omega) _ rfl⟩
theorem RRep.open_row {w : World} {r : Nat} {g : RG} (h : RRep w r g) : ∃ a cap, g.rv = .slice a g.row.length cap ∧ IntsAt w a g.row := by
  rcases h.row.2 with ⟨hv, h0⟩ | ⟨gb, cap, cur, hv, _⟩
  · exact ⟨none, 0, by rw [hv, h0], fun k hk => by omega⟩
  · refine ⟨_, _, hv, fun k hk => ⟨gb, rfl, ?_⟩⟩
    have hc := h.row.cells (g := gb) (by rw [hv]; rfl) k (.int .i64 (g.row[k]?.getD 0)) (by simp [List.getElem?_eq_getElem hk])
    have e : ∀ j, (⟨gb, 0, none⟩ : Addr).add j = ⟨gb, j, none⟩ := fun j => by unfold Addr.add; split <;> simp_all
    simpa only [e] using hc
theorem RRep.lt {w : World} {r : Nat} {g : RG} (h : RRep w r g) {b : Nat} (hb : rfp r g b) : b < w.heap.size := by
  rcases hb with rfl | hb | hb
  · exact h.ctl.lt
  · exact (h.recs.lt b hb).2
  · exact (h.row.lt b hb).2
theorem RRep.same {w w' : World} {r : Nat} {g : RG} (h : RRep w r g) (hs : ∀ b, rfp r g b → w'.heap[b]? = w.heap[b]?) : RRep w' r g where
  ctl := h.ctl.same (hs r (.inl rfl))
  recs := ownsRow_same h.recs fun b hb => hs b (.inr (.inl hb))
  row := ownsRow_same h.row fun b hb => hs b (.inr (.inr hb))
theorem RRep.chg {w w' : World} {r : Nat} {g : RG} {F : Nat → Prop} (h : RRep w r g) (hc : Chg F w w') (hF : ∀ b, F b → ¬ rfp r g b) : RRep w' r g :=
  h.same fun b hb => hc.block b (h.lt hb) fun hf => hF b hf hb
def RPost (r : Nat) (w : World) (g g' : RG) (w' : World) : Prop := RRep w' r g' ∧ Chg (rfp r g) w w' ∧ ∀ b, rfp r g' b → rfp r g b ∨ w.heap.size ≤ b

/-- Where a number first stands: by definition. -/
def atI (L : List Rc) (id : Int) : Option Nat := L.findIdx? fun q => q.id == id
def numOf : Option Nat → Int
  | none => -1
  | some k => k
theorem atI_some {L : List Rc} {id : Int} {k : Nat} (hk : k < L.length) (h : (nth L k).id = id) (hp : ∀ j, j < k → (nth L j).id ≠ id) : atI L id = some k := by
  unfold atI
  rw [List.findIdx?_eq_some_iff_getElem]
  refine ⟨hk, ?_, fun j hj => ?_⟩
  · have := nth_some hk; rw [List.getElem?_eq_getElem hk] at this; rw [Option.some.inj this]; simpa using h
  · have hj' : j < L.length := by omega
    have := nth_some hj'; rw [List.getElem?_eq_getElem hj'] at this; rw [Option.some.inj this]; simpa using hp j hj
theorem atI_none {L : List Rc} {id : Int} (hp : ∀ j, j < L.length → (nth L j).id ≠ id) : atI L id = none := by
  unfold atI
  rw [List.findIdx?_eq_none_iff]
  intro q hq
  obtain ⟨j, hj, rfl⟩ := List.getElem_of_mem hq
  have := nth_some hj; rw [List.getElem?_eq_getElem hj] at this; rw [Option.some.inj this]; simpa using hp j hj
def rowI (xs : List Int) (id : Int) : Option Nat := xs.findIdx? fun q => q == id
theorem rowI_some {L : List Int} {id : Int} {k : Nat} (hk : k < L.length) (h : L[k]?.getD 0 = id) (hp : ∀ j, j < k → L[j]?.getD 0 ≠ id) : rowI L id = some k := by
  unfold rowI
  rw [List.findIdx?_eq_some_iff_getElem]
  refine ⟨hk, ?_, fun j hj => ?_⟩
  · rw [List.getElem?_eq_getElem hk] at h; simpa using h
  · have hj' : j < L.length := by omega
    have := hp j hj
    rw [List.getElem?_eq_getElem hj'] at this; simpa using this
theorem rowI_none {L : List Int} {id : Int} (hp : ∀ j, j < L.length → L[j]?.getD 0 ≠ id) : rowI L id = none := by
  unfold rowI
  rw [List.findIdx?_eq_none_iff]
  intro q hq
  obtain ⟨j, hj, rfl⟩ := List.getElem_of_mem hq
  have := hp j hj; rw [List.getElem?_eq_getElem hj] at this; simpa using this
end Go.Proofs.Ytekgfdfganelmaa
