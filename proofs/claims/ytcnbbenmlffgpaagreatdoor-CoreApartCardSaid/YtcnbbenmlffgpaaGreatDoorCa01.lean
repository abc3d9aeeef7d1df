/- CoreApart returns true at every input. No condition. Part of its proof. -/
import Derived.Test.YtcnbbenmlffgpaaGreatDoorRows
import Derived.WalkKit
import Derived.WalkSpells
import Derived.WalkLawsBesides
import Derived.OneCell
set_option linter.unusedVariables false
/- Plain words on memory for the walks of this seat: blocks known whole, maps with integer keys, frames. No condition. -/
namespace Go.Proofs.YtcnbbenmlffgpaaGreatDoor
open Go.RowKit

/-- Block b holds these cells, nothing frozen. -/
def Cells (w : World) (b : Nat) (T : TypeId) (cs : List Value) : Prop := w.heap[b]? = some (.cells cs.toArray T (0, 0))

theorem Cells.lt {w : World} {b : Nat} {T : TypeId} {cs : List Value} (h : Cells w b T cs) : b < w.heap.size := lt_of_block h
theorem Cells.cell {w : World} {b : Nat} {T : TypeId} {cs : List Value} (h : Cells w b T cs) (i : Nat) (v : Value) (hi : cs[i]? = some v) : w.cell? ⟨b, i, none⟩ = some v := by
  unfold Cells at h
  simp [World.cell?, h, hi]
theorem Cells.free {w : World} {b : Nat} {T : TypeId} {cs : List Value} (h : Cells w b T cs) (i : Nat) : w.frozen? ⟨b, i, none⟩ = false := by
  unfold Cells at h
  simp [World.frozen?, h]
theorem Cells.set {w : World} {b : Nat} {T : TypeId} {cs : List Value} (h : Cells w b T cs) (i : Nat) (v : Value) : Cells (w.setCell ⟨b, i, none⟩ v) b T (cs.set i v) := by
  unfold Cells at h ⊢
  simp [World.setCell, Array.getElem?_modify, h]
theorem Cells.set_other {w : World} {b : Nat} {T : TypeId} {cs : List Value} (h : Cells w b T cs) (a : Addr) (v : Value) (hne : b ≠ a.block) : Cells (w.setCell a v) b T cs := by
  unfold Cells at h ⊢
  rw [Below.heap_setCell _ _ _ _ hne]; exact h
theorem Cells.alloc {w : World} {b : Nat} {T : TypeId} {cs : List Value} (h : Cells w b T cs) (o : Obj) : Cells (w.alloc o) b T cs := by
  have := h.lt
  unfold Cells at h ⊢
  rw [Below.heap_alloc _ _ _ this]; exact h
theorem Cells.drew {w : World} {b : Nat} {T : TypeId} {cs : List Value} (h : Cells w b T cs) : Cells w.drew b T cs := h
theorem Cells.same {w w' : World} {b : Nat} {T : TypeId} {cs : List Value} (h : Cells w b T cs) (e : w'.heap[b]? = w.heap[b]?) : Cells w' b T cs := e.trans h
theorem Cells.new (w : World) (T : TypeId) (cs : List Value) : Cells (w.alloc (.cells cs.toArray T)) w.heap.size T cs := by
  unfold Cells
  show (w.heap.push _)[w.heap.size]? = _
  simp

/-- These entries, in this order, each stamped. -/
def KvOf (es : Array MapEntry) (clock : Nat) (kv : List (Value × Value)) : Prop := Go.MapKept.Stamped es clock ∧ es.toList.map (fun e => (e.key, e.val)) = kv
/-- Block m is a map with these entries, in this order. -/
def MapIs (w : World) (m : Nat) (kv : List (Value × Value)) : Prop := ∃ es clock, w.heap[m]? = some (.map es clock) ∧ KvOf es clock kv

theorem MapIs.lt {w : World} {m : Nat} {kv : List (Value × Value)} (h : MapIs w m kv) : m < w.heap.size := by
  obtain ⟨es, clock, h, _⟩ := h; exact lt_of_block h
theorem MapIs.same {w w' : World} {m : Nat} {kv : List (Value × Value)} (h : MapIs w m kv) (e : w'.heap[m]? = w.heap[m]?) : MapIs w' m kv := by
  obtain ⟨es, clock, h, r⟩ := h; exact ⟨es, clock, e.trans h, r⟩
theorem MapIs.set {w : World} {m : Nat} {kv : List (Value × Value)} (h : MapIs w m kv) (a : Addr) (v : Value) : MapIs (w.setCell a v) m kv := by
  obtain ⟨es, clock, h, r⟩ := h
  refine ⟨es, clock, ?_, r⟩
  by_cases e : m = a.block
  · subst e; simp [World.setCell, Array.getElem?_modify, h]
  · rw [Below.heap_setCell _ _ _ _ e]; exact h
theorem MapIs.alloc {w : World} {m : Nat} {kv : List (Value × Value)} (h : MapIs w m kv) (o : Obj) : MapIs (w.alloc o) m kv := by
  have := h.lt
  exact h.same (Below.heap_alloc _ _ _ this)
theorem MapIs.new (w : World) : MapIs (w.alloc (.map #[] 0)) w.heap.size [] := by
  refine ⟨#[], 0, ?_, Go.MapKept.stamped_empty 0, rfl⟩
  show (w.heap.push _)[w.heap.size]? = _
  simp
theorem MapIs.ne_cells {w : World} {m b : Nat} {kv : List (Value × Value)} {T : TypeId} {cs : List Value} (h : MapIs w m kv) (hc : Cells w b T cs) : b ≠ m := by
  rintro rfl
  obtain ⟨es, clock, h, r⟩ := h
  unfold Cells at hc
  rw [h] at hc; cases hc

/-- What turned from w to w' lies in F, or is new. -/
structure Chg (F : Nat → Prop) (w w' : World) : Prop where
  os : w'.os = w.os
  tape : w'.tape = w.tape
  output : w'.output = w.output
  size : w.heap.size ≤ w'.heap.size
  block : ∀ k, k < w.heap.size → ¬ F k → w'.heap[k]? = w.heap[k]?

theorem Chg.refl (F : Nat → Prop) (w : World) : Chg F w w := ⟨rfl, rfl, rfl, Nat.le_refl _, fun _ _ _ => rfl⟩
theorem Chg.trans {F F' : Nat → Prop} {a b c : World} (h : Chg F a b) (k : Chg F' b c) (hF : ∀ i, F' i → F i ∨ a.heap.size ≤ i) : Chg F a c :=
  ⟨k.os.trans h.os, k.tape.trans h.tape, k.output.trans h.output, Nat.le_trans h.size k.size, fun i hi hn =>
    (k.block i (Nat.lt_of_lt_of_le hi h.size) (fun h' => by rcases hF i h' with h' | h'; exact hn h'; omega)).trans (h.block i hi hn)⟩
theorem Chg.mono {F F' : Nat → Prop} {a b : World} (h : Chg F a b) (hF : ∀ i, F i → F' i ∨ a.heap.size ≤ i) : Chg F' a b :=
  ⟨h.os, h.tape, h.output, h.size, fun i hi hn => h.block i hi (fun h' => by rcases hF i h' with h' | h'; exact hn h'; omega)⟩
theorem Chg.drew {F : Nat → Prop} {a w : World} (h : Chg F a w) : Chg F a w.drew := ⟨h.os, h.tape, h.output, h.size, h.block⟩
theorem Chg.alloc {F : Nat → Prop} {a w : World} (h : Chg F a w) (o : Obj) : Chg F a (w.alloc o) := by
  have hs := h.size
  exact ⟨h.os, h.tape, h.output, by simp; omega, fun i hi hn => (Below.heap_alloc _ _ _ (by omega)).trans (h.block i hi hn)⟩
theorem Chg.set {F : Nat → Prop} {a w : World} (h : Chg F a w) (p : Addr) (u : Value) (hp : F p.block ∨ a.heap.size ≤ p.block) : Chg F a (w.setCell p u) := by
  have hs := h.size
  refine ⟨h.os, h.tape, h.output, by simp [World.setCell]; omega, fun i hi hn => (Below.heap_setCell _ _ _ _ ?_).trans (h.block i hi hn)⟩
  rintro rfl
  rcases hp with hp | hp
  · exact hn hp
  · omega
theorem Chg.grown {F : Nat → Prop} {a w w' : World} {row : Option Nat} (h : Chg F a w) (hg : w.grownBy w' row) (hr : ∀ k, row = some k → F k ∨ a.heap.size ≤ k) : Chg F a w' := by
  have hs := h.size
  refine ⟨hg.os.trans h.os, hg.tape.trans h.tape, hg.output.trans h.output, Nat.le_trans hs hg.size, fun i hi hn => (hg.block i (by omega) ?_).trans (h.block i hi hn)⟩
  intro e
  rcases hr i e.symm with hp | hp
  · exact hn hp
  · omega
theorem Chg.below {F : Nat → Prop} {a b : World} {B : Nat} (h : Chg F a b) (hB : B ≤ a.heap.size) (hF : ∀ i, F i → B ≤ i) : Below B a b :=
  ⟨h.os, h.tape, h.output, h.size, fun i hi => h.block i (by omega) (fun h' => by have := hF i h'; omega)⟩

/-! Maps with keys of int. -/
/-- What an association list has at a key: the first. -/
def look : List (Int × Value) → Int → Option Value
  | [], _ => none
  | p :: r, id => if id = p.1 then some p.2 else look r id
def put : List (Int × Value) → Int → Value → List (Int × Value)
  | [], id, v => [(id, v)]
  | p :: r, id, v => if id = p.1 then (p.1, v) :: r else p :: put r id v
def del : List (Int × Value) → Int → List (Int × Value)
  | [], _ => []
  | p :: r, id => if id = p.1 then r else p :: del r id

def MapInt (w : World) (m : Nat) (kv : List (Int × Value)) : Prop := MapIs w m (kv.map fun p => (.int .i64 p.1, p.2))

theorem findNow_look (id : Int) : ∀ (es : List MapEntry) (kv : List (Int × Value)) (i : Nat), es.map (fun e => (e.key, e.val)) = kv.map (fun p => (Value.int .i64 p.1, p.2)) →
    (look kv id = none ∧ Instr.findNow (.int .i64) (.int .i64 id) es i = some none) ∨
    (∃ j v, look kv id = some v ∧ Instr.findNow (.int .i64) (.int .i64 id) es i = some (some (i + j, v)) ∧ j < es.length ∧ (es[j]?).map (·.key) = some (.int .i64 id) ∧
      (∀ u, (es.modify j fun e => { e with key := .int .i64 id, val := u }).map (fun e => (e.key, e.val)) = (put kv id u).map (fun p => (Value.int .i64 p.1, p.2))) ∧
      (es.eraseIdx j).map (fun e => (e.key, e.val)) = (del kv id).map (fun p => (Value.int .i64 p.1, p.2)))
  | [], kv, i, h => by
    cases kv with
    | nil => left; simp [look, Instr.findNow]
    | cons p r => simp at h
  | e :: es, kv, i, h => by
    cases kv with
    | nil => simp at h
    | cons p r =>
      simp only [List.map_cons, List.cons.injEq, Prod.mk.injEq] at h
      obtain ⟨⟨hk, hv⟩, hr⟩ := h
      by_cases hki : id = p.1
      · right
        refine ⟨0, p.2, by simp [look, hki], by simp [Instr.findNow, hk, Instr.sameNow, hki, hv], by simp, by simp [hk, hki], ?_, ?_⟩
        · intro u; simp [put, hki, hr]
        · simp [del, hki, hr]
      · have h1 : (id == p.1) = false := by simpa using hki
        rcases findNow_look id es r (i + 1) hr with ⟨hl, hf⟩ | ⟨j, v, hl, hf, hj, hkey, hput, hdel⟩
        · left
          exact ⟨by simp [look, hki, hl], by simp [Instr.findNow, hk, Instr.sameNow, h1, hf]⟩
        · right
          refine ⟨j + 1, v, by simp [look, hki, hl], ?_, by simp; omega, by simpa using hkey, ?_, ?_⟩
          · simp [Instr.findNow, hk, Instr.sameNow, h1, hf]; omega
          · intro u; simp [put, hki, hk, hv, hput u]
          · simp [del, hki, hk, hv, hdel]

theorem findNow_none (id : Int) : ∀ (es : List MapEntry) (kv : List (Int × Value)), es.map (fun e => (e.key, e.val)) = kv.map (fun p => (Value.int .i64 p.1, p.2)) → look kv id = none → ∀ u, put kv id u = kv ++ [(id, u)]
  | _, [], _, _, u => rfl
  | [], _ :: _, h, _, _ => by simp at h
  | e :: es, p :: r, h, hl, u => by
    by_cases hki : id = p.1
    · simp [look, hki] at hl
    · simp only [look, hki, if_false] at hl
      simp only [List.map_cons, List.cons.injEq] at h
      simp [put, hki, findNow_none id es r h.2 hl u]
theorem del_none : ∀ (kv : List (Int × Value)) (id : Int), look kv id = none → del kv id = kv
  | [], _, _ => rfl
  | p :: r, id, hl => by
    by_cases hki : id = p.1
    · simp [look, hki] at hl
    · simp only [look, hki, if_false] at hl
      simp [del, hki, del_none r id hl]

section
variable {P : Program} {K V : TypeId} {T : TypeId}
theorem run_checkKey_int (w : World) (e : Bool) (id : Int) (hK : P.underlying K = some (.int .i64)) : (Instr.checkKey e 10000 K (.int .i64 id)).run P w = .ok () w := by
  unfold Instr.checkKey
  simp [run_underlying hK, Result.andThen]
theorem run_findKey_int {w : World} (id : Int) (es : List MapEntry) (r : Option (Nat × Value)) (hK : P.underlying K = some (.int .i64))
    (h : Instr.findNow (.int .i64) (.int .i64 id) es 0 = some r) : (Instr.findKey K (.int .i64 id) es).run P w = .ok r w := by
  unfold Instr.findKey
  simp [run_underlying hK, Result.andThen, h]
theorem look_keys {es : List MapEntry} {kv : List (Int × Value)} (hr : es.map (fun e => (e.key, e.val)) = kv.map (fun p => (Value.int .i64 p.1, p.2))) {id : Int} (hl : look kv id = none) : ∀ x ∈ es, x.key ≠ .int .i64 id := by
  have hno : ∀ (l : List (Int × Value)), look l id = none → ∀ p ∈ l, p.1 ≠ id := by
    intro l
    induction l with
    | nil => intro _ p hp; cases hp
    | cons q r ih =>
      intro h p hp
      unfold look at h
      split at h
      · cases h
      · rename_i hne
        rcases List.mem_cons.1 hp with rfl | hp
        · exact fun e => hne e.symm
        · exact ih h p hp
  intro x hx e
  have hm : (x.key, x.val) ∈ kv.map (fun p => (Value.int .i64 p.1, p.2)) := by
    rw [← hr]; exact List.mem_map.2 ⟨x, hx, rfl⟩
  obtain ⟨p, hp, hpe⟩ := List.mem_map.1 hm
  have h1 : Value.int .i64 p.1 = x.key := (Prod.mk.injEq _ _ _ _ ▸ hpe).1
  rw [e] at h1
  exact hno kv hl p hp (by simpa using h1)
theorem run_lookup_int {w : World} {m : Nat} {kv : List (Int × Value)} (h : MapInt w m kv) (id : Int) (ok : Bool) (z : Value) (hT : P.underlying T = some (.map K V)) (hK : P.underlying K = some (.int .i64))
    (hz : (zeroValue V).run P w = .ok z w) :
    (Instr.lookup T (.map (some m)) (.int .i64 id) ok).run P w = .ok (if ok then .tuple #[(look kv id).getD z, .bool (look kv id).isSome] else (look kv id).getD z) w := by
  obtain ⟨es, clock, hb, hs, hr⟩ := h
  unfold Instr.lookup
  rcases findNow_look id es.toList kv 0 hr with ⟨hl, hf⟩ | ⟨j, v, hl, hf, _⟩
  · cases ok <;> simp [run_underlying hT, Result.andThen, Go.MapKept.run_getObj_map hb, run_checkKey_int _ _ _ hK, run_findKey_int _ _ _ hK hf, hl, hz]
  · cases ok <;> simp [run_underlying hT, Result.andThen, Go.MapKept.run_getObj_map hb, run_checkKey_int _ _ _ hK, run_findKey_int _ _ _ hK hf, hl]
theorem run_mapUpdate_int {w : World} {m : Nat} {kv : List (Int × Value)} (h : MapInt w m kv) (id : Int) (u : Value) (hT : P.underlying T = some (.map K V)) (hK : P.underlying K = some (.int .i64)) :
    ∃ w', (Instr.mapUpdate T (.map (some m)) (.int .i64 id) u).run P w = .ok () w' ∧ MapInt w' m (put kv id u) ∧ w.grownBy w' (some m) := by
  obtain ⟨es, clock, hb, hs, hr⟩ := h
  have hgr : ∀ o, w.grownBy { w with heap := w.heap.setIfInBounds m o } (some m) := fun o => ⟨rfl, rfl, rfl, by simp, fun k _ hne => by
    have : m ≠ k := fun e => hne (by rw [e])
    simp [Array.getElem?_setIfInBounds, this]⟩
  have hlt := lt_of_block hb
  unfold Instr.mapUpdate
  rcases findNow_look id es.toList kv 0 hr with ⟨hl, hf⟩ | ⟨j, v, hl, hf, hj, hkey, hput, _⟩
  · refine ⟨{ w with heap := w.heap.setIfInBounds m (.map (es.push { key := .int .i64 id, val := u, born := clock }) (clock + 1)) }, ?_, ?_, hgr _⟩
    · simp [run_underlying hT, Result.andThen, Go.MapKept.run_getObj_map hb, run_checkKey_int _ _ _ hK, run_findKey_int _ _ _ hK hf, Go.MapKept.run_setObj_map _ hb]
    · refine ⟨es.push { key := .int .i64 id, val := u, born := clock }, clock + 1, by simp [Array.getElem?_setIfInBounds, hlt], Go.MapKept.stamped_push hs (look_keys hr hl), ?_⟩
      rw [findNow_none id es.toList kv hr hl u]
      simp [hr]
  · refine ⟨{ w with heap := w.heap.setIfInBounds m (.map (es.modify (0 + j) fun e => { e with key := .int .i64 id, val := u }) clock) }, ?_, ?_, hgr _⟩
    · have hk2 : ((es[0 + j]?).map (·.key)).getD (.int .i64 id) = .int .i64 id := by
        have : (es[0 + j]?).map (·.key) = some (.int .i64 id) := by simpa using hkey
        rw [this]; rfl
      have hks : ∀ w', (Instr.keyThatStays (.int .i64 id) (.int .i64 id)).run P w' = .ok (.int .i64 id) w' := by
        intro w'; simp [Instr.keyThatStays, Instr.sameBits]
      simp only [run_underlying hT, Result.andThen, Go.MapKept.run_getObj_map hb, run_checkKey_int _ _ _ hK, run_findKey_int _ _ _ hK hf, Go.MapKept.run_setObj_map _ hb, hk2, hks, Sem.run_bind]
    · refine ⟨es.modify (0 + j) fun e => { e with key := .int .i64 id, val := u }, clock, by simp [Array.getElem?_setIfInBounds, hlt], Go.MapKept.stamped_modify hs (0 + j) _ (fun _ _ => rfl) (fun e _ he => ?_), ?_⟩
      · have : (es[0 + j]?).map (·.key) = some (.int .i64 id) := by simpa using hkey
        rw [he] at this
        simpa using this.symm
      rw [← hput u]; simp
theorem run_delete_int {w : World} {m : Nat} {kv : List (Int × Value)} (h : MapInt w m kv) (id : Int) (t1 t2 : TypeId) (hT : P.underlying T = some (.map K V)) (hK : P.underlying K = some (.int .i64)) :
    ∃ w', (Builtin.delete_ #[T, t1] t2 #[.map (some m), .int .i64 id]).run P w = .ok (.tuple #[]) w' ∧ MapInt w' m (del kv id) ∧ w.grownBy w' (some m) := by
  obtain ⟨es, clock, hb, hs, hr⟩ := h
  have hgr : ∀ o, w.grownBy { w with heap := w.heap.setIfInBounds m o } (some m) := fun o => ⟨rfl, rfl, rfl, by simp, fun k _ hne => by
    have : m ≠ k := fun e => hne (by rw [e])
    simp [Array.getElem?_setIfInBounds, this]⟩
  have hlt := lt_of_block hb
  unfold Builtin.delete_
  rcases findNow_look id es.toList kv 0 hr with ⟨hl, hf⟩ | ⟨j, v, hl, hf, hj, hkey, _, hdel⟩
  · refine ⟨{ w with heap := w.heap.setIfInBounds m (.map es clock) }, ?_, ?_, hgr _⟩
    · simp [run_underlying hT, Result.andThen, Go.MapKept.run_getObj_map hb, run_checkKey_int _ _ _ hK, run_findKey_int _ _ _ hK hf, Go.MapKept.run_setObj_map _ hb]
    · refine ⟨_, _, by simp [Array.getElem?_setIfInBounds, hlt], hs, ?_⟩
      rw [del_none kv id hl]; exact hr
  · refine ⟨{ w with heap := w.heap.setIfInBounds m (.map (es.eraseIdxIfInBounds (0 + j)) clock) }, ?_, ?_, hgr _⟩
    · simp [run_underlying hT, Result.andThen, Go.MapKept.run_getObj_map hb, run_checkKey_int _ _ _ hK, run_findKey_int _ _ _ hK hf, Go.MapKept.run_setObj_map _ hb]
    · refine ⟨es.eraseIdxIfInBounds (0 + j), clock, by simp [Array.getElem?_setIfInBounds, hlt], Go.MapKept.stamped_erase hs _, ?_⟩
      rw [← hdel]
      have : j < es.size := by simpa using hj
      simp [Array.eraseIdxIfInBounds, this]
end

theorem setRow_cells {w : World} {g : Nat} {T : TypeId} {cs : List Value} (h : Cells w g T cs) (ds : List Value) : Cells (w.setRow g ds.toArray) g T ds ∧ w.grownBy (w.setRow g ds.toArray) (some g) := by
  refine ⟨setRow_heap w g _ _ _ _ h, ⟨rfl, rfl, rfl, by simp, fun k _ hk => setRow_other w g k _ (fun e => hk (by simp [e]))⟩⟩

theorem wpList_clear_cells {P : Program} (w : World) {ops : Array Oper} {rest : List Oper} {o : Oper} {a : Act} {Q : Exit → Act → World → Prop}
    (hgd : o.guard = none) (s : Operand) (t e : TypeId) (hop : o.op = .call { callee := .builtin .clear, args := #[s], argTypes := #[t] }) (ht : P.underlying t = some (.slice e))
    (z : Value) (hz : ∀ w, (zeroValue e).run P w = .ok z w) (hzc : z.cells = #[z]) (h1 : z.oneCell' = true)
    (g off n c : Nat) (hs : a.eval s = .slice (some ⟨g, off, none⟩) n c) (hn : 0 < n) (T : TypeId) (cs : List Value) (hc : Cells w g T cs) (hle : off + n ≤ cs.length)
    (hK : ∀ w', Cells w' g T (cs.take off ++ List.replicate n z ++ cs.drop (off + n)) → w.grownBy w' (some g) → wpList P ops Q rest (a.put o.dst (.tuple #[])) w') : wpList P ops Q (o :: rest) a w := by
  refine wpList_plain hgd fun K' hK' => ?_
  have hzl : (Builtin.zeroCells #[z] n).toList = List.replicate n z := by
    simp [Builtin.zeroCells, List.eq_replicate_iff, Nat.mod_one]
  have hst := run_storeCells_at P g off T (List.replicate n z) 0 cs.toArray w hc (by simpa using hle) (by intro v hv; rw [List.eq_of_mem_replicate hv]; exact h1)
  obtain ⟨r1, r2⟩ := setRow_cells hc (cs.take off ++ List.replicate n z ++ cs.drop (off + n))
  simp only [Nat.add_zero, List.length_replicate] at hst
  obtain ⟨m, rfl⟩ : ∃ m, n = m + 1 := ⟨n - 1, by omega⟩
  unfold Oper.wp
  simp [execOp, hop, resolve, invoke, builtin, hs, Builtin.clear_, run_underlying ht, hz, hzc, hzl, hst, Result.andThen]
  exact hK' _ _ (hK _ (by simpa using r1) (by simpa using r2))


theorem wpList_mapUpdate_int {P : Program} (w : World) {ops : Array Oper} {rest : List Oper} {o : Oper} {a : Act} {Q : Exit → Act → World → Prop}
    (hg : o.guard = none) (m k x : Operand) (t K V : TypeId) (hop : o.op = .mapUpdate t m k x) (hT : P.underlying t = some (.map K V)) (hK : P.underlying K = some (.int .i64))
    (b : Nat) (kv : List (Int × Value)) (h : MapInt w b kv) (id : Int) (u : Value) (hm : a.eval m = .map (some b)) (hk : a.eval k = .int .i64 id) (hx : a.eval x = u)
    (hK' : ∀ w', MapInt w' b (put kv id u) → w.grownBy w' (some b) → wpList P ops Q rest (a.put o.dst undef) w') : wpList P ops Q (o :: rest) a w := by
  refine wpList_plain hg fun K' hK'' => ?_
  obtain ⟨w', hrun, r1, r2⟩ := run_mapUpdate_int (P := P) h id u hT hK
  unfold Oper.wp
  simp [execOp, hop, hm, hk, hx, hrun, Result.andThen]
  exact hK'' _ _ (hK' w' r1 r2)
theorem wpList_delete_int {P : Program} (w : World) {ops : Array Oper} {rest : List Oper} {o : Oper} {a : Act} {Q : Exit → Act → World → Prop}
    (hg : o.guard = none) (m k : Operand) (t t1 K V : TypeId) (hop : o.op = .call { callee := .builtin .delete, args := #[m, k], argTypes := #[t, t1] }) (hT : P.underlying t = some (.map K V)) (hK : P.underlying K = some (.int .i64))
    (b : Nat) (kv : List (Int × Value)) (h : MapInt w b kv) (id : Int) (hm : a.eval m = .map (some b)) (hk : a.eval k = .int .i64 id)
    (hK' : ∀ w', MapInt w' b (del kv id) → w.grownBy w' (some b) → wpList P ops Q rest (a.put o.dst (.tuple #[])) w') : wpList P ops Q (o :: rest) a w := by
  refine wpList_plain hg fun K' hK'' => ?_
  obtain ⟨w', hrun, r1, r2⟩ := run_delete_int (P := P) h id t1 o.type hT hK
  unfold Oper.wp
  simp [execOp, hop, resolve, invoke, builtin, hm, hk, hrun, Result.andThen]
  exact hK'' _ _ (hK' w' r1 r2)
theorem grown_alloc {w w2 : World} {o : Obj} {row : Option Nat} (h : (w.alloc o).grownBy w2 row) : w.grownBy w2 row :=
  ⟨h.os, h.tape, h.output, by have := h.size; simp at this; omega, fun k hk hne => (h.block k (by simp; omega) hne).trans (Below.heap_alloc _ _ _ hk)⟩
end Go.Proofs.YtcnbbenmlffgpaaGreatDoor

/- Places of the table of handles as a plain list: their names, which are so, what was made through a factory, all under it. No condition. -/
namespace Go.Proofs.YtcnbbenmlffgpaaGreatDoor

/-- A place: an object's kind, where it is, whose account pays; its state, its age; a factory's own account. -/
structure Pl where
  kind : Nat
  at_ : Nat
  fac : Nat
  st : Nat
  age : Nat
  own : Nat
/-- A place's name. -/
def nm (i : Nat) (p : Pl) : Nat := p.age * 256 + i
/-- Names of the places that are so, of the first k. -/
def allTo (l : List Pl) (s k : Nat) : List Nat := (List.range k).filterMap fun i => match l[i]? with
  | some p => if p.st = s then some (nm i p) else none
  | none => none
def allL (l : List Pl) (s : Nat) : List Nat := allTo l s l.length
/-- The place that a name names, if it is so. -/
def pget (l : List Pl) (s h : Nat) : Option Pl := match l[h % 256]? with
  | some p => if nm (h % 256) p = h ∧ p.st = s then some p else none
  | none => none
theorem allTo_zero (l : List Pl) (s : Nat) : allTo l s 0 = [] := rfl
theorem allTo_succ {l : List Pl} {k : Nat} {p : Pl} (hk : l[k]? = some p) (s : Nat) : allTo l s (k + 1) = allTo l s k ++ if p.st = s then [nm k p] else [] := by
  unfold allTo
  rw [List.range_succ, List.filterMap_append]
  congr 1
  simp only [List.filterMap_cons, List.filterMap_nil, hk]
  by_cases h : p.st = s <;> simp [h]
theorem allTo_len (l : List Pl) (s k : Nat) : (allTo l s k).length ≤ k := by
  unfold allTo
  exact Nat.le_trans (List.length_filterMap_le _ _) (by simp)
theorem pget_some {l : List Pl} {s h : Nat} {p : Pl} : pget l s h = some p ↔ l[h % 256]? = some p ∧ nm (h % 256) p = h ∧ p.st = s := by
  unfold pget
  cases hl : l[h % 256]? with
  | none => simp
  | some q =>
    by_cases hc : nm (h % 256) q = h ∧ q.st = s
    · simp only [hc, and_self, if_true, Option.some.injEq]
      constructor
      · rintro rfl; exact ⟨rfl, hc⟩
      · exact fun e => e.1
    · simp only [hc, if_false, Option.some.injEq]
      constructor
      · intro e; cases e
      · rintro ⟨rfl, e⟩; exact absurd e hc
theorem nm_mod {i : Nat} (hi : i < 256) (p : Pl) : nm i p % 256 = i := by unfold nm; omega
theorem mem_allTo {l : List Pl} {s k h : Nat} : h ∈ allTo l s k ↔ ∃ i p, i < k ∧ l[i]? = some p ∧ p.st = s ∧ h = nm i p := by
  unfold allTo
  simp only [List.mem_filterMap, List.mem_range]
  constructor
  · rintro ⟨i, hi, h⟩
    cases hl : l[i]? with
    | none => rw [hl] at h; cases h
    | some p =>
      rw [hl] at h
      by_cases hs : p.st = s
      · simp only [hs, if_true, Option.some.injEq] at h
        exact ⟨i, p, hi, hl, hs, h.symm⟩
      · simp only [hs, if_false] at h; cases h
  · rintro ⟨i, p, hi, hl, hs, rfl⟩
    exact ⟨i, hi, by simp [hl, hs]⟩
theorem mem_all {l : List Pl} (hl : l.length ≤ 256) {s h : Nat} : h ∈ allL l s ↔ ∃ p, pget l s h = some p := by
  unfold allL
  rw [mem_allTo]
  constructor
  · rintro ⟨i, p, hi, hp, hs, rfl⟩
    refine ⟨p, pget_some.2 ?_⟩
    rw [nm_mod (by omega)]
    exact ⟨hp, rfl, hs⟩
  · rintro ⟨p, h1⟩
    obtain ⟨a, b, c⟩ := pget_some.1 h1
    exact ⟨h % 256, p, (List.getElem?_eq_some_iff.1 a).1, a, c, b.symm⟩
theorem all_sorted {l : List Pl} (hl : l.length ≤ 256) (s : Nat) : (allL l s).Pairwise (fun a b => a % 256 < b % 256) := by
  unfold allL allTo
  rw [List.pairwise_filterMap]
  refine List.pairwise_lt_range.imp_of_mem ?_
  intro i j hi hj hij b hb b' hb'
  rw [List.mem_range] at hi hj
  cases h1 : l[i]? with
  | none => rw [h1] at hb; cases hb
  | some p =>
    cases h2 : l[j]? with
    | none => rw [h2] at hb'; cases hb'
    | some q =>
      rw [h1] at hb; rw [h2] at hb'
      by_cases c1 : p.st = s
      · by_cases c2 : q.st = s
        · simp only [c1, if_true, Option.some.injEq] at hb
          simp only [c2, if_true, Option.some.injEq] at hb'
          subst hb; subst hb'
          rw [nm_mod (by omega), nm_mod (by omega)]; exact hij
        · simp only [c2, if_false] at hb'; cases hb'
      · simp only [c1, if_false] at hb; cases hb
theorem all_nodup {l : List Pl} (hl : l.length ≤ 256) (s : Nat) : (allL l s).Nodup := (all_sorted hl s).imp fun h e => by subst e; omega
theorem pget_same {l : List Pl} {s t h k : Nat} {p q : Pl} (h1 : pget l s h = some p) (h2 : pget l t k = some q) (e : h % 256 = k % 256) : h = k ∧ p = q ∧ s = t := by
  obtain ⟨a, b, c⟩ := pget_some.1 h1
  obtain ⟨a', b', c'⟩ := pget_some.1 h2
  rw [e] at a
  rw [a] at a'
  cases a'
  rw [e] at b
  exact ⟨b.symm.trans b', rfl, c.symm.trans c'⟩
/-- The live ones that an account pays for, but for the first. -/
def kidsA (l : List Pl) (a : Nat) : List Nat := (allL l 1).filter fun x => decide (x ≠ 0) && match l[x % 256]? with
  | some p => decide (p.fac = a)
  | none => false
/-- What was made through a factory. -/
def kids (l : List Pl) (h : Nat) : List Nat := match pget l 1 h with
  | some p => if p.kind = 1 then kidsA l p.own else []
  | none => []
theorem mem_kidsA {l : List Pl} (hl : l.length ≤ 256) {a x : Nat} : x ∈ kidsA l a ↔ ∃ p, pget l 1 x = some p ∧ x ≠ 0 ∧ p.fac = a := by
  unfold kidsA
  rw [List.mem_filter, mem_all hl]
  constructor
  · rintro ⟨⟨p, hp⟩, h⟩
    have := (pget_some.1 hp).1
    rw [this] at h
    simp only [Bool.and_eq_true, decide_eq_true_eq] at h
    exact ⟨p, hp, h.1, h.2⟩
  · rintro ⟨p, hp, h0, h1⟩
    have := (pget_some.1 hp).1
    rw [this]
    exact ⟨⟨p, hp⟩, by simp [h0, h1]⟩
theorem mem_kids {l : List Pl} (hl : l.length ≤ 256) {h x : Nat} : x ∈ kids l h ↔ ∃ p q, pget l 1 h = some p ∧ p.kind = 1 ∧ pget l 1 x = some q ∧ x ≠ 0 ∧ q.fac = p.own := by
  unfold kids
  cases hp : pget l 1 h with
  | none => simp
  | some p =>
    by_cases hk : p.kind = 1
    · simp only [hk, if_true, mem_kidsA hl, Option.some.injEq]
      constructor
      · rintro ⟨q, h1, h2, h3⟩; exact ⟨p, q, rfl, hk, h1, h2, h3⟩
      · rintro ⟨_, q, rfl, _, h1, h2, h3⟩; exact ⟨q, h1, h2, h3⟩
    · simp only [hk, if_false, Option.some.injEq]
      constructor
      · intro h; exact absurd h List.not_mem_nil
      · rintro ⟨_, q, rfl, h, _⟩; exact absurd h hk
theorem kids_sorted {l : List Pl} (hl : l.length ≤ 256) (h : Nat) : (kids l h).Pairwise (fun a b => a % 256 < b % 256) := by
  unfold kids
  split
  · split
    · exact (all_sorted hl 1).filter _
    · exact .nil
  · exact .nil
/-- How the factories' accounts stand. -/
structure Tre (l : List Pl) (N : Nat) : Prop where
  len : l.length ≤ 256
  lt : ∀ h p, pget l 1 h = some p → p.kind = 1 → p.own < N
  rise : ∀ h p, pget l 1 h = some p → h ≠ 0 → p.kind = 1 → p.fac < p.own
  inj : ∀ h k p q, pget l 1 h = some p → pget l 1 k = some q → p.kind = 1 → q.kind = 1 → p.own = q.own → h = k
/-- A factory, and all under it, from above. -/
def preN (l : List Pl) : Nat → Nat → List Nat
  | 0, h => [h]
  | n + 1, h => h :: (kids l h).reverse.flatMap (preN l n)
def rank (l : List Pl) (N h : Nat) : Nat := match pget l 1 h with
  | some p => if p.kind = 1 then N - p.own else 0
  | none => 0
theorem rank_le (l : List Pl) (N h : Nat) : rank l N h ≤ N := by
  unfold rank
  split
  · split <;> omega
  · omega
theorem rank_kid {l : List Pl} {N : Nat} (t : Tre l N) {h x : Nat} (hx : x ∈ kids l h) : rank l N x < rank l N h := by
  obtain ⟨p, q, h1, h2, h3, h4, h5⟩ := (mem_kids t.len).1 hx
  have := t.lt h p h1 h2
  unfold rank
  simp only [h1, h2, h3, if_true]
  by_cases hk : q.kind = 1
  · simp only [hk, if_true]
    have := t.lt x q h3 hk
    have := t.rise x q h3 h4 hk
    omega
  · simp only [hk, if_false]; omega
theorem kids_leaf {l : List Pl} {N : Nat} (t : Tre l N) {h : Nat} (hr : rank l N h = 0) : kids l h = [] := by
  cases hk : kids l h with
  | nil => rfl
  | cons x r =>
    have := rank_kid t (h := h) (x := x) (by rw [hk]; simp)
    omega
theorem fm_congr {f g : Nat → List Nat} : ∀ {L : List Nat}, (∀ x ∈ L, f x = g x) → L.flatMap f = L.flatMap g
  | [], _ => rfl
  | x :: r, h => by rw [List.flatMap_cons, List.flatMap_cons, h x (by simp), fm_congr (L := r) fun y hy => h y (by simp [hy])]
theorem preN_stable {l : List Pl} {N : Nat} (t : Tre l N) : ∀ n m h, rank l N h ≤ n → rank l N h ≤ m → preN l n h = preN l m h := by
  intro n
  induction n with
  | zero =>
    intro m h h1 h2
    have hk := kids_leaf t (Nat.le_zero.1 h1)
    cases m with
    | zero => rfl
    | succ m => simp [preN, hk]
  | succ n ih =>
    intro m h h1 h2
    cases m with
    | zero =>
      have hk := kids_leaf t (Nat.le_zero.1 h2)
      simp [preN, hk]
    | succ m =>
      simp only [preN]
      congr 1
      refine fm_congr fun x hx => ?_
      have := rank_kid t (List.mem_reverse.1 hx)
      exact ih m x (by omega) (by omega)
def pre (l : List Pl) (N h : Nat) : List Nat := preN l N h
theorem pre_eq {l : List Pl} {N : Nat} (t : Tre l N) (h : Nat) : pre l N h = h :: (kids l h).reverse.flatMap (pre l N) := by
  have : pre l N h = preN l (N + 1) h := preN_stable t N (N + 1) h (rank_le _ _ _) (by have := rank_le l N h; omega)
  rw [this]
  rfl
/-- All under a factory, each behind what is under it. -/
def under (l : List Pl) (N h : Nat) : List Nat := (pre l N h).tail.reverse
theorem mem_pre_self (l : List Pl) (N h : Nat) : h ∈ pre l N h := by
  unfold pre
  cases N <;> simp [preN]
/-- Under an account. -/
inductive Des (l : List Pl) (a : Nat) : Nat → Prop where
  | here (x : Nat) (q : Pl) : pget l 1 x = some q → x ≠ 0 → q.fac = a → Des l a x
  | up (x y : Nat) (q p : Pl) : pget l 1 x = some q → x ≠ 0 → pget l 1 y = some p → p.kind = 1 → q.fac = p.own → Des l a y → Des l a x
theorem Des.live {l : List Pl} {a x : Nat} (h : Des l a x) : x ≠ 0 ∧ ∃ q, pget l 1 x = some q := by
  cases h with
  | here _ q h1 h2 h3 => exact ⟨h2, q, h1⟩
  | up _ y q p h1 h2 h3 h4 h5 h6 => exact ⟨h2, q, h1⟩
theorem Des.le {l : List Pl} {N a x : Nat} (t : Tre l N) (h : Des l a x) : ∀ q, pget l 1 x = some q → a ≤ q.fac := by
  induction h with
  | here x q h1 h2 h3 => intro q' h'; rw [h1] at h'; cases h'; omega
  | up x y q p h1 h2 h3 h4 h5 h6 ih =>
    intro q' h'; rw [h1] at h'; cases h'
    have := ih p h3
    have := t.rise y p h3 h6.live.1 h4
    omega
theorem Des.line {l : List Pl} {N a b x : Nat} (t : Tre l N) (h : Des l a x) : Des l b x → a = b ∨ (∃ y p, pget l 1 y = some p ∧ p.kind = 1 ∧ p.own = a ∧ Des l b y) ∨ (∃ y p, pget l 1 y = some p ∧ p.kind = 1 ∧ p.own = b ∧ Des l a y) := by
  induction h with
  | here x q h1 h2 h3 =>
    intro k
    cases k with
    | here _ q' k1 k2 k3 => rw [h1] at k1; cases k1; left; omega
    | up _ y q' p k1 k2 k3 k4 k5 k6 => rw [h1] at k1; cases k1; right; left; exact ⟨y, p, k3, k4, by omega, k6⟩
  | up x y q p h1 h2 h3 h4 h5 h6 ih =>
    intro k
    cases k with
    | here _ q' k1 k2 k3 => rw [h1] at k1; cases k1; right; right; exact ⟨y, p, h3, h4, by omega, h6⟩
    | up _ y' q' p' k1 k2 k3 k4 k5 k6 =>
      rw [h1] at k1; cases k1
      have : y = y' := t.inj y y' p p' h3 k3 h4 k4 (by omega)
      subst this
      exact ih k6
theorem mem_preN {l : List Pl} {N : Nat} (t : Tre l N) : ∀ n h x, x ∈ preN l n h → x = h ∨ ∃ p, pget l 1 h = some p ∧ p.kind = 1 ∧ Des l p.own x := by
  intro n
  induction n with
  | zero => intro h x hx; left; simpa [preN] using hx
  | succ n ih =>
    intro h x hx
    simp only [preN, List.mem_cons, List.mem_flatMap, List.mem_reverse] at hx
    rcases hx with rfl | ⟨k, hk, hx⟩
    · exact .inl rfl
    · right
      obtain ⟨p, q, h1, h2, h3, h4, h5⟩ := (mem_kids t.len).1 hk
      refine ⟨p, h1, h2, ?_⟩
      have hk' : Des l p.own k := .here k q h3 h4 h5
      rcases ih k x hx with rfl | ⟨q', h6, h7, h8⟩
      · exact hk'
      · rw [h3] at h6; cases h6
        clear ih hx
        induction h8 with
        | here x r g1 g2 g3 => exact .up x k r q g1 g2 h3 h7 g3 hk'
        | up x y r s g1 g2 g3 g4 g5 g6 ih => exact .up x y r s g1 g2 g3 g4 g5 ih
/-- Two that were made through one factory have nothing in common. -/
theorem pre_apart {l : List Pl} {N : Nat} (t : Tre l N) {h x1 x2 n m z : Nat} (h1 : x1 ∈ kids l h) (h2 : x2 ∈ kids l h) (hne : x1 ≠ x2) (hz1 : z ∈ preN l n x1) (hz2 : z ∈ preN l m x2) : False := by
  obtain ⟨p, q1, a1, a2, a3, a4, a5⟩ := (mem_kids t.len).1 h1
  obtain ⟨p', q2, b1, b2, b3, b4, b5⟩ := (mem_kids t.len).1 h2
  rw [a1] at b1; cases b1
  -- nothing is under one of its own like
  have no : ∀ (u v : Nat) (r s : Pl), pget l 1 u = some r → pget l 1 v = some s → u ≠ 0 → r.fac = p.own → s.fac = p.own → r.kind = 1 → ¬ Des l r.own v := by
    intro u v r s c1 c2 c0 c3 c4 c5 hd
    have := hd.le t s c2
    have := t.rise u r c1 c0 c5
    omega
  rcases mem_preN t n x1 z hz1 with rfl | ⟨r1, c1, c2, c3⟩
  · rcases mem_preN t m x2 z hz2 with e | ⟨r2, d1, d2, d3⟩
    · exact hne e
    · rw [b3] at d1; cases d1
      exact no x2 z q2 q1 b3 a3 b4 b5 a5 d2 d3
  · rw [a3] at c1; cases c1
    rcases mem_preN t m x2 z hz2 with rfl | ⟨r2, d1, d2, d3⟩
    · exact no x1 z q1 q2 a3 b3 a4 a5 b5 c2 c3
    · rw [b3] at d1; cases d1
      rcases c3.line t d3 with e | ⟨y, s, e1, e2, e3, e4⟩ | ⟨y, s, e1, e2, e3, e4⟩
      · exact hne (t.inj x1 x2 q1 q2 a3 b3 c2 d2 e)
      · have : y = x1 := t.inj y x1 s q1 e1 a3 e2 c2 e3
        subst this
        exact no x2 y q2 q1 b3 a3 b4 b5 a5 d2 e4
      · have : y = x2 := t.inj y x2 s q2 e1 b3 e2 d2 e3
        subst this
        exact no x1 y q1 q2 a3 b3 a4 a5 b5 c2 e4
theorem kid_of_pre {l : List Pl} {N : Nat} (t : Tre l N) : ∀ n h x y, rank l N h ≤ n → x ∈ preN l n h → y ∈ kids l x → y ∈ preN l n h := by
  intro n
  induction n with
  | zero =>
    intro h x y hr hx hy
    have : x = h := by simpa [preN] using hx
    subst this
    rw [kids_leaf t (Nat.le_zero.1 hr)] at hy; cases hy
  | succ n ih =>
    intro h x y hr hx hy
    simp only [preN, List.mem_cons, List.mem_flatMap, List.mem_reverse] at hx ⊢
    rcases hx with rfl | ⟨k, hk, hx⟩
    · exact .inr ⟨y, hy, mem_pre_self l n y⟩
    · have := rank_kid t hk
      exact .inr ⟨k, hk, ih k x y (by omega) hx hy⟩
theorem from_pre {l : List Pl} : ∀ n h x, x ∈ preN l n h → x = h ∨ ∃ z ∈ preN l n h, x ∈ kids l z := by
  intro n
  induction n with
  | zero => intro h x hx; left; simpa [preN] using hx
  | succ n ih =>
    intro h x hx
    simp only [preN, List.mem_cons, List.mem_flatMap, List.mem_reverse] at hx ⊢
    rcases hx with rfl | ⟨k, hk, hx⟩
    · exact .inl rfl
    · right
      rcases ih k x hx with rfl | ⟨z, hz, hx'⟩
      · exact ⟨h, .inl rfl, hk⟩
      · exact ⟨z, .inr ⟨k, hk, hz⟩, hx'⟩
theorem preN_sub {l : List Pl} {N : Nat} (t : Tre l N) : ∀ n {h x : Nat}, x ∈ preN l n h → x ∈ preN l N h := by
  intro n
  induction n with
  | zero =>
    intro h x hx
    have : x = h := by simpa [preN] using hx
    subst this
    exact mem_pre_self l N x
  | succ n ih =>
    intro h x hx
    have e : preN l N h = h :: (kids l h).reverse.flatMap (preN l N) := pre_eq t h
    rw [e]
    simp only [preN, List.mem_cons, List.mem_flatMap] at hx ⊢
    rcases hx with rfl | ⟨k, hk, hx⟩
    · exact .inl rfl
    · exact .inr ⟨k, hk, ih hx⟩
/-- None twice, and none ahead of what it was made through. -/
theorem pre_pair {l : List Pl} {N : Nat} (t : Tre l N) : ∀ n h, (preN l n h).Pairwise (fun a b => a ≠ b ∧ a ∉ kids l b) := by
  intro n
  induction n with
  | zero => intro h; simp [preN]
  | succ n ih =>
    intro h
    simp only [preN, List.pairwise_cons, List.pairwise_flatMap]
    refine ⟨?_, fun x _ => ih x, ?_⟩
    · intro b hb
      have hb' : b ∈ preN l (n + 1) h := by simp only [preN, List.mem_cons]; exact .inr hb
      have key : ∀ p q, pget l 1 h = some p → p.kind = 1 → Des l p.own b → pget l 1 b = some q → p.own ≤ q.fac := fun p q _ _ hd hq => hd.le t q hq
      obtain ⟨k, hk, hbk⟩ := List.mem_flatMap.1 hb
      rw [List.mem_reverse] at hk
      obtain ⟨p, q, a1, a2, a3, a4, a5⟩ := (mem_kids t.len).1 hk
      have hd : Des l p.own b := by
        rcases mem_preN t (n + 1) h b hb' with rfl | ⟨p', h1, _, h3⟩
        · -- it is under itself
          exfalso
          rcases mem_preN t n k b hbk with rfl | ⟨q', h6, h7, h8⟩
          · rw [a1] at a3; cases a3
            have := t.rise b p a1 a4 a2
            omega
          · rw [a3] at h6; cases h6
            have e1 := h8.le t p a1
            have e2 := t.rise k q a3 a4 h7
            have e3 := t.rise b p a1 h8.live.1 a2
            omega
        · rw [a1] at h1; cases h1; exact h3
      obtain ⟨hb0, r, hr⟩ := hd.live
      have hle := hd.le t r hr
      refine ⟨?_, ?_⟩
      · rintro rfl
        rw [a1] at hr; cases hr
        have := t.rise h p a1 hb0 a2
        omega
      · intro hm
        obtain ⟨s, u, c1, c2, c3, c4, c5⟩ := (mem_kids t.len).1 hm
        rw [hr] at c1; cases c1
        rw [a1] at c3; cases c3
        have := t.rise h p a1 c4 a2
        have := t.rise b r hr hb0 c2
        omega
    · rw [List.pairwise_reverse]
      refine (kids_sorted t.len h).imp_of_mem ?_
      intro x1 x2 h1 h2 hlt a ha b hb
      have hne : x1 ≠ x2 := by rintro rfl; omega
      refine ⟨?_, ?_⟩
      · rintro rfl
        exact pre_apart t h1 h2 hne hb ha
      · intro hm
        obtain ⟨s, u, c1, c2, c3, c4, c5⟩ := (mem_kids t.len).1 hm
        -- a is under x1 too
        have hb2 : b ∈ preN l N x1 := preN_sub t n hb
        have ha2 : a ∈ preN l N x1 := kid_of_pre t N x1 b a (rank_le _ _ _) hb2 hm
        exact pre_apart t h1 h2 hne ha2 ha
theorem nodup_len : ∀ (n : Nat) (l : List Nat), l.Nodup → (∀ x ∈ l, x < n) → l.length ≤ n
  | 0, l, _, h => by
    cases l with
    | nil => simp
    | cons x r => exact absurd (h x (by simp)) (by omega)
  | n + 1, l, hn, h => by
    have h1 := nodup_len n (l.erase n) (hn.erase n) fun x hx => by
      have := h x (List.mem_of_mem_erase hx)
      have hne : x ≠ n := fun e => by subst e; exact (List.Nodup.not_mem_erase hn) hx
      omega
    by_cases hm : n ∈ l
    · rw [List.length_erase_of_mem hm] at h1; omega
    · rw [List.erase_of_not_mem hm] at h1; omega
theorem pre_live {l : List Pl} {N : Nat} (t : Tre l N) {h x : Nat} (hx : x ∈ pre l N h) : x = h ∨ x ≠ 0 ∧ ∃ q, pget l 1 x = some q := by
  rcases mem_preN t N h x hx with e | ⟨p, _, _, hd⟩
  · exact .inl e
  · exact .inr hd.live
theorem pre_len {l : List Pl} {N : Nat} (t : Tre l N) (h : Nat) : (pre l N h).length ≤ 256 := by
  cases hp : pget l 1 h with
  | none =>
    have hk : kids l h = [] := by unfold kids; rw [hp]
    rw [pre_eq t h, hk]; simp
  | some p =>
    have hlive : ∀ x ∈ pre l N h, ∃ q, pget l 1 x = some q := fun x hx => by
      rcases pre_live t hx with rfl | ⟨_, h⟩
      · exact ⟨p, hp⟩
      · exact h
    have : ((pre l N h).map (· % 256)).Nodup := by
      unfold List.Nodup
      rw [List.pairwise_map]
      refine (pre_pair t N h).imp_of_mem ?_
      intro a b ha hb hab e
      obtain ⟨q, hq⟩ := hlive a ha
      obtain ⟨r, hr⟩ := hlive b hb
      exact hab.1 (pget_same hq hr e).1
    have := nodup_len 256 _ this (by
      intro x hx
      obtain ⟨y, _, rfl⟩ := List.mem_map.1 hx
      omega)
    simpa using this
/-- What is still to be gone through. -/
def rest (l : List Pl) (N : Nat) (ws : List Nat) : List Nat := ws.reverse.flatMap (pre l N)
theorem rest_snoc {l : List Pl} {N : Nat} (t : Tre l N) (ws : List Nat) (x : Nat) : rest l N (ws ++ [x]) = x :: rest l N (ws ++ kids l x) := by
  unfold rest
  rw [List.reverse_append, List.reverse_append, List.reverse_singleton, List.flatMap_append, List.flatMap_append, List.flatMap_singleton, pre_eq t x]
  rfl
theorem rest_len (l : List Pl) (N : Nat) (ws : List Nat) : ws.length ≤ (rest l N ws).length := by
  unfold rest
  have : ∀ w : List Nat, w.length ≤ (w.flatMap (pre l N)).length := by
    intro w
    induction w with
    | nil => simp
    | cons x r ih =>
      rw [List.flatMap_cons, List.length_append, List.length_cons]
      have : 0 < (pre l N x).length := List.length_pos_of_mem (mem_pre_self l N x)
      omega
  simpa using this ws.reverse
/-- What lies behind one in the row that is under a factory. -/
theorem under_at {l : List Pl} {N : Nat} (t : Tre l N) {h x : Nat} {A B : List Nat} (hu : under l N h = A ++ x :: B) : x ≠ h ∧ x ≠ 0 ∧ (∃ q, pget l 1 x = some q) ∧ (∀ y ∈ kids l x, y ∈ A) ∧ x ∉ A ∧ x ∉ B := by
  have he : pre l N h = h :: (pre l N h).tail := by rw [pre_eq t h]; rfl
  have hT : (pre l N h).tail = B.reverse ++ x :: A.reverse := by
    have := congrArg List.reverse hu
    unfold under at this
    rw [List.reverse_reverse] at this
    rw [this]; simp
  have hp := pre_pair t N h
  have hp' : (pre l N h).Pairwise (fun a b => a ≠ b ∧ a ∉ kids l b) := hp
  rw [he, hT] at hp'
  obtain ⟨q1, q2⟩ := List.pairwise_cons.1 hp'
  obtain ⟨q3, q4, q5⟩ := List.pairwise_append.1 q2
  obtain ⟨q6, q7⟩ := List.pairwise_cons.1 q4
  have hxm : x ∈ pre l N h := by rw [he, hT]; simp
  have hxh : x ≠ h := fun e => (q1 x (by simp)).1 e.symm
  obtain ⟨hx0, hxl⟩ := (pre_live t hxm).resolve_left hxh
  refine ⟨hxh, hx0, hxl, fun y hy => ?_, fun hm => ?_, fun hm => ?_⟩
  · have hym : y ∈ pre l N h := kid_of_pre t N h x y (rank_le _ _ _) hxm hy
    rw [he, hT] at hym
    simp only [List.mem_cons, List.mem_append, List.mem_reverse] at hym
    rcases hym with rfl | hym | rfl | hym
    · exact absurd hy (q1 x (by simp)).2
    · exact absurd hy (q5 y (by simpa using hym) x (by simp)).2
    · exfalso
      -- none is of its own
      obtain ⟨p, q, a1, a2, a3, a4, a5⟩ := (mem_kids t.len).1 hy
      rw [a1] at a3; cases a3
      have := t.rise y p a1 a4 a2
      omega
    · exact hym
  · exact (q6 x (by simpa using hm)).1 rfl
  · exact (q5 x (by simpa using hm) x (by simp)).1 rfl
end Go.Proofs.YtcnbbenmlffgpaaGreatDoor

/- The package-level variables that the code reads, as they are laid. No condition. -/
namespace Go.Proofs.YtcnbbenmlffgpaaGreatDoor
open Go.RowKit

def dbi (t : Nat) : Nat := (2 ^ t * 285870213051353865 % 18446744073709551616) / 288230376151711744
def dbt : List Nat := [0, 1, 56, 2, 57, 49, 28, 3, 61, 58, 42, 50, 38, 29, 17, 4, 62, 47, 59, 36, 45, 43, 51, 22, 53, 39, 33, 30, 24, 18, 12, 5, 63, 55, 48, 27, 60, 41, 37, 16, 46, 35, 44, 21, 52, 32, 23, 11, 54, 26, 40, 15, 34, 20, 31, 10, 25, 14, 19, 9, 13, 8, 7, 6]
theorem dbt_dbi : ∀ t, t < 64 → dbi t < 64 ∧ dbt[dbi t]? = some t := by decide +kernel
/-- The table of math/bits, as it is laid. -/
def TabB (w : World) : Prop := ∀ (j v : Nat), dbt[j]? = some v → w.cell? ⟨1, j, none⟩ = some (.int .u8 v)
def costL : List Int := [0, 64, 128, 256, 32, 32, 48, 256]
/-- The costs of the classes, as they are laid. -/
def TabC (w : World) : Prop := ∀ (j : Nat) (v : Int), costL[j]? = some v → w.cell? ⟨0, j, none⟩ = some (.int .i64 v)
/-- How many blocks the package-level variables take. -/
def GB : Nat := 3
structure Env (w : World) : Prop where
  gb : GB ≤ w.heap.size
  tabB : TabB w
  tabC : TabC w
theorem Env.same {w w' : World} (h : Env w) (hb : ∀ b, b < GB → w'.heap[b]? = w.heap[b]?) (hs : GB ≤ w'.heap.size) : Env w' := by
  refine ⟨hs, fun j v hv => ?_, fun j v hv => ?_⟩
  · exact (World.cell?_of_block (w := w) (hb 1 (by decide))).trans (h.tabB j v hv)
  · exact (World.cell?_of_block (w := w) (hb 0 (by decide))).trans (h.tabC j v hv)
end Go.Proofs.YtcnbbenmlffgpaaGreatDoor
