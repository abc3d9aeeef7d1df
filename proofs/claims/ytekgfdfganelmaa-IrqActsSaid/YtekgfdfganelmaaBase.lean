/- Plain words on memory for the walks of this seat: blocks known whole, maps with integer keys, frames. No condition. -/
import Derived.Test.YtekgfdfganelmaaRows
import Derived.WalkKit
import Derived.WalkSpells
import Derived.WalkLawsBesides
import Derived.OneCell
namespace Go.Proofs.Ytekgfdfganelmaa
open Go.RowKit

/-- Block b holds these cells, nothing frozen. -/
def Cells (w : World) (b : Nat) (T : TypeId) (cs : List Value) : Prop := w.heap[b]? = some (.cells cs.toArray T (0, 0))

theorem Cells.lt {w : World} {b : Nat} {T : TypeId} {cs : List Value} (h : Cells w b T cs) : b < w.heap.size := lt_of_block h
theorem Cells.cell {w : World} {b : Nat} {T : TypeId} {cs : List Value} (h : Cells w b T cs) (i : Nat) (v : Value) (hi : cs[i]? = some v) : w.cell? ⟨b, i, none⟩ = some v := by
  unfold Cells at h
  simp [World.cell?, h, hi]
theorem Cells.free {w : World} {b : Nat} {T : TypeId} {cs : List Value} (h : Cells w b T cs) (i : Nat) : w.frozen? ⟨b, i, none⟩ = false := by
  unfold Cells at h
  simp [World.frozen?, h]
theorem Cells.set {w : World} {b : Nat} {T : TypeId} {cs : List Value} (h : Cells w b T cs) (i : Nat) (v : Value) : Cells (w.setCell ⟨b, i, none⟩ v) b T (cs.set i v) := by
  unfold Cells at h ⊢
  simp [World.setCell, Array.getElem?_modify, h]
theorem Cells.set_other {w : World} {b : Nat} {T : TypeId} {cs : List Value} (h : Cells w b T cs) (a : Addr) (v : Value) (hne : b ≠ a.block) : Cells (w.setCell a v) b T cs := by
  unfold Cells at h ⊢
  rw [Below.heap_setCell _ _ _ _ hne]; exact h
theorem Cells.alloc {w : World} {b : Nat} {T : TypeId} {cs : List Value} (h : Cells w b T cs) (o : Obj) : Cells (w.alloc o) b T cs := by
  have := h.lt
  unfold Cells at h ⊢
  rw [Below.heap_alloc _ _ _ this]; exact h
theorem Cells.drew {w : World} {b : Nat} {T : TypeId} {cs : List Value} (h : Cells w b T cs) : Cells w.drew b T cs := h
theorem Cells.same {w w' : World} {b : Nat} {T : TypeId} {cs : List Value} (h : Cells w b T cs) (e : w'.heap[b]? = w.heap[b]?) : Cells w' b T cs := e.trans h
theorem Cells.new (w : World) (T : TypeId) (cs : List Value) : Cells (w.alloc (.cells cs.toArray T)) w.heap.size T cs := by
  unfold Cells
  show (w.heap.push _)[w.heap.size]? = _
  simp

/-- Block m is a map with these entries, in this order. -/
def MapIs (w : World) (m : Nat) (kv : List (Value × Value)) : Prop := ∃ es clock, w.heap[m]? = some (.map es clock) ∧ es.toList.map (fun e => (e.key, e.val)) = kv

theorem MapIs.lt {w : World} {m : Nat} {kv : List (Value × Value)} (h : MapIs w m kv) : m < w.heap.size := by
  obtain ⟨es, clock, h, _⟩ := h; exact lt_of_block h
theorem MapIs.same {w w' : World} {m : Nat} {kv : List (Value × Value)} (h : MapIs w m kv) (e : w'.heap[m]? = w.heap[m]?) : MapIs w' m kv := by
  obtain ⟨es, clock, h, r⟩ := h; exact ⟨es, clock, e.trans h, r⟩
theorem MapIs.set {w : World} {m : Nat} {kv : List (Value × Value)} (h : MapIs w m kv) (a : Addr) (v : Value) : MapIs (w.setCell a v) m kv := by
  obtain ⟨es, clock, h, r⟩ := h
  refine ⟨es, clock, ?_, r⟩
  by_cases e : m = a.block
  · subst e; simp [World.setCell, Array.getElem?_modify, h]
  · rw [Below.heap_setCell _ _ _ _ e]; exact h
theorem MapIs.alloc {w : World} {m : Nat} {kv : List (Value × Value)} (h : MapIs w m kv) (o : Obj) : MapIs (w.alloc o) m kv := by
  have := h.lt
  exact h.same (Below.heap_alloc _ _ _ this)
theorem MapIs.new (w : World) : MapIs (w.alloc (.map #[] 0)) w.heap.size [] := by
  refine ⟨#[], 0, ?_, rfl⟩
  show (w.heap.push _)[w.heap.size]? = _
  simp
theorem MapIs.ne_cells {w : World} {m b : Nat} {kv : List (Value × Value)} {T : TypeId} {cs : List Value} (h : MapIs w m kv) (hc : Cells w b T cs) : b ≠ m := by
  rintro rfl
  obtain ⟨es, clock, h, r⟩ := h
  unfold Cells at hc
  rw [h] at hc; cases hc

/-- What turned from w to w' lies in F, or is new. -/
structure Chg (F : Nat → Prop) (w w' : World) : Prop where
  os : w'.os = w.os
  tape : w'.tape = w.tape
  output : w'.output = w.output
  size : w.heap.size ≤ w'.heap.size
  block : ∀ k, k < w.heap.size → ¬ F k → w'.heap[k]? = w.heap[k]?

theorem Chg.refl (F : Nat → Prop) (w : World) : Chg F w w := ⟨rfl, rfl, rfl, Nat.le_refl _, fun _ _ _ => rfl⟩
theorem Chg.trans {F F' : Nat → Prop} {a b c : World} (h : Chg F a b) (k : Chg F' b c) (hF : ∀ i, F' i → F i ∨ a.heap.size ≤ i) : Chg F a c :=
  ⟨k.os.trans h.os, k.tape.trans h.tape, k.output.trans h.output, Nat.le_trans h.size k.size, fun i hi hn =>
    (k.block i (Nat.lt_of_lt_of_le hi h.size) (fun h' => by rcases hF i h' with h' | h'; exact hn h'; omega)).trans (h.block i hi hn)⟩
theorem Chg.mono {F F' : Nat → Prop} {a b : World} (h : Chg F a b) (hF : ∀ i, F i → F' i ∨ a.heap.size ≤ i) : Chg F' a b :=
  ⟨h.os, h.tape, h.output, h.size, fun i hi hn => h.block i hi (fun h' => by rcases hF i h' with h' | h'; exact hn h'; omega)⟩
theorem Chg.drew {F : Nat → Prop} {a w : World} (h : Chg F a w) : Chg F a w.drew := ⟨h.os, h.tape, h.output, h.size, h.block⟩
theorem Chg.alloc {F : Nat → Prop} {a w : World} (h : Chg F a w) (o : Obj) : Chg F a (w.alloc o) := by
  have hs := h.size
  exact ⟨h.os, h.tape, h.output, by simp; omega, fun i hi hn => (Below.heap_alloc _ _ _ (by omega)).trans (h.block i hi hn)⟩
theorem Chg.set {F : Nat → Prop} {a w : World} (h : Chg F a w) (p : Addr) (u : Value) (hp : F p.block ∨ a.heap.size ≤ p.block) : Chg F a (w.setCell p u) := by
  have hs := h.size
  refine ⟨h.os, h.tape, h.output, by simp [World.setCell]; omega, fun i hi hn => (Below.heap_setCell _ _ _ _ ?_).trans (h.block i hi hn)⟩
  rintro rfl
  rcases hp with hp | hp
  · exact hn hp
  · omega
theorem Chg.grown {F : Nat → Prop} {a w w' : World} {row : Option Nat} (h : Chg F a w) (hg : w.grownBy w' row) (hr : ∀ k, row = some k → F k ∨ a.heap.size ≤ k) : Chg F a w' := by
  have hs := h.size
  refine ⟨hg.os.trans h.os, hg.tape.trans h.tape, hg.output.trans h.output, Nat.le_trans hs hg.size, fun i hi hn => (hg.block i (by omega) ?_).trans (h.block i hi hn)⟩
  intro e
  rcases hr i e.symm with hp | hp
  · exact hn hp
  · omega
theorem Chg.below {F : Nat → Prop} {a b : World} {B : Nat} (h : Chg F a b) (hB : B ≤ a.heap.size) (hF : ∀ i, F i → B ≤ i) : Below B a b :=
  ⟨h.os, h.tape, h.output, h.size, fun i hi => h.block i (by omega) (fun h' => by have := hF i h'; omega)⟩

/-! Maps with keys of int. -/
/-- What an association list has at a key: the first. -/
def look : List (Int × Value) → Int → Option Value
  | [], _ => none
  | p :: r, id => if id = p.1 then some p.2 else look r id
def put : List (Int × Value) → Int → Value → List (Int × Value)
  | [], id, v => [(id, v)]
  | p :: r, id, v => if id = p.1 then (p.1, v) :: r else p :: put r id v
def del : List (Int × Value) → Int → List (Int × Value)
  | [], _ => []
  | p :: r, id => if id = p.1 then r else p :: del r id

def MapInt (w : World) (m : Nat) (kv : List (Int × Value)) : Prop := MapIs w m (kv.map fun p => (.int .i64 p.1, p.2))

theorem findNow_look (id : Int) : ∀ (es : List MapEntry) (kv : List (Int × Value)) (i : Nat), es.map (fun e => (e.key, e.val)) = kv.map (fun p => (Value.int .i64 p.1, p.2)) →
    (look kv id = none ∧ Instr.findNow (.int .i64) (.int .i64 id) es i = some none) ∨
    (∃ j v, look kv id = some v ∧ Instr.findNow (.int .i64) (.int .i64 id) es i = some (some (i + j, v)) ∧ j < es.length ∧ (es[j]?).map (·.key) = some (.int .i64 id) ∧
      (∀ u, (es.modify j fun e => { e with key := .int .i64 id, val := u }).map (fun e => (e.key, e.val)) = (put kv id u).map (fun p => (Value.int .i64 p.1, p.2))) ∧
      (es.eraseIdx j).map (fun e => (e.key, e.val)) = (del kv id).map (fun p => (Value.int .i64 p.1, p.2)))
  | [], kv, i, h => by
    cases kv with
    | nil => left; simp [look, Instr.findNow]
    | cons p r => simp at h
  | e :: es, kv, i, h => by
    cases kv with
    | nil => simp at h
    | cons p r =>
      simp only [List.map_cons, List.cons.injEq, Prod.mk.injEq] at h
      obtain ⟨⟨hk, hv⟩, hr⟩ := h
      by_cases hki : id = p.1
      · right
        refine ⟨0, p.2, by simp [look, hki], by simp [Instr.findNow, hk, Instr.sameNow, hki, hv], by simp, by simp [hk, hki], ?_, ?_⟩
        · intro u; simp [put, hki, hr]
        · simp [del, hki, hr]
      · have h1 : (id == p.1) = false := by simpa using hki
        rcases findNow_look id es r (i + 1) hr with ⟨hl, hf⟩ | ⟨j, v, hl, hf, hj, hkey, hput, hdel⟩
        · left
          exact ⟨by simp [look, hki, hl], by simp [Instr.findNow, hk, Instr.sameNow, h1, hf]⟩
        · right
          refine ⟨j + 1, v, by simp [look, hki, hl], ?_, by simp; omega, by simpa using hkey, ?_, ?_⟩
          · simp [Instr.findNow, hk, Instr.sameNow, h1, hf]; omega
          · intro u; simp [put, hki, hk, hv, hput u]
          · simp [del, hki, hk, hv, hdel]

theorem findNow_none (id : Int) : ∀ (es : List MapEntry) (kv : List (Int × Value)), es.map (fun e => (e.key, e.val)) = kv.map (fun p => (Value.int .i64 p.1, p.2)) → look kv id = none → ∀ u, put kv id u = kv ++ [(id, u)]
  | _, [], _, _, u => rfl
  | [], _ :: _, h, _, _ => by simp at h
  | e :: es, p :: r, h, hl, u => by
    by_cases hki : id = p.1
    · simp [look, hki] at hl
    · simp only [look, hki, if_false] at hl
      simp only [List.map_cons, List.cons.injEq] at h
      simp [put, hki, findNow_none id es r h.2 hl u]
theorem del_none : ∀ (kv : List (Int × Value)) (id : Int), look kv id = none → del kv id = kv
  | [], _, _ => rfl
  | p :: r, id, hl => by
    by_cases hki : id = p.1
    · simp [look, hki] at hl
    · simp only [look, hki, if_false] at hl
      simp [del, hki, del_none r id hl]

section
variable {P : Program} {K V : TypeId} {T : TypeId}
theorem run_checkKey_int (w : World) (e : Bool) (id : Int) (hK : P.underlying K = some (.int .i64)) : (Instr.checkKey e 10000 K (.int .i64 id)).run P w = .ok () w := by
  unfold Instr.checkKey
  simp [run_underlying hK, Result.andThen]
theorem run_findKey_int {w : World} (id : Int) (es : List MapEntry) (r : Option (Nat × Value)) (hK : P.underlying K = some (.int .i64))
    (h : Instr.findNow (.int .i64) (.int .i64 id) es 0 = some r) : (Instr.findKey K (.int .i64 id) es).run P w = .ok r w := by
  unfold Instr.findKey
  simp [run_underlying hK, Result.andThen, h]
theorem run_lookup_int {w : World} {m : Nat} {kv : List (Int × Value)} (h : MapInt w m kv) (id : Int) (ok : Bool) (z : Value) (hT : P.underlying T = some (.map K V)) (hK : P.underlying K = some (.int .i64))
    (hz : (zeroValue V).run P w = .ok z w) :
    (Instr.lookup T (.map (some m)) (.int .i64 id) ok).run P w = .ok (if ok then .tuple #[(look kv id).getD z, .bool (look kv id).isSome] else (look kv id).getD z) w := by
  obtain ⟨es, clock, hb, hr⟩ := h
  unfold Instr.lookup
  rcases findNow_look id es.toList kv 0 hr with ⟨hl, hf⟩ | ⟨j, v, hl, hf, _⟩
  · cases ok <;> simp [run_underlying hT, Result.andThen, Go.MapKept.run_getObj_map hb, run_checkKey_int _ _ _ hK, run_findKey_int _ _ _ hK hf, hl, hz]
  · cases ok <;> simp [run_underlying hT, Result.andThen, Go.MapKept.run_getObj_map hb, run_checkKey_int _ _ _ hK, run_findKey_int _ _ _ hK hf, hl]
theorem run_mapUpdate_int {w : World} {m : Nat} {kv : List (Int × Value)} (h : MapInt w m kv) (id : Int) (u : Value) (hT : P.underlying T = some (.map K V)) (hK : P.underlying K = some (.int .i64)) :
    ∃ w', (Instr.mapUpdate T (.map (some m)) (.int .i64 id) u).run P w = .ok () w' ∧ MapInt w' m (put kv id u) ∧ w.grownBy w' (some m) := by
  obtain ⟨es, clock, hb, hr⟩ := h
  have hgr : ∀ o, w.grownBy { w with heap := w.heap.setIfInBounds m o } (some m) := fun o => ⟨rfl, rfl, rfl, by simp, fun k _ hne => by
    have : m ≠ k := fun e => hne (by rw [e])
    simp [Array.getElem?_setIfInBounds, this]⟩
  have hlt := lt_of_block hb
  unfold Instr.mapUpdate
  rcases findNow_look id es.toList kv 0 hr with ⟨hl, hf⟩ | ⟨j, v, hl, hf, hj, hkey, hput, _⟩
  · refine ⟨{ w with heap := w.heap.setIfInBounds m (.map (es.push { key := .int .i64 id, val := u, born := clock }) (clock + 1)) }, ?_, ?_, hgr _⟩
    · simp [run_underlying hT, Result.andThen, Go.MapKept.run_getObj_map hb, run_checkKey_int _ _ _ hK, run_findKey_int _ _ _ hK hf, Go.MapKept.run_setObj_map _ hb]
    · refine ⟨_, _, by simp [Array.getElem?_setIfInBounds, hlt]; exact ⟨rfl, rfl⟩, ?_⟩
      rw [findNow_none id es.toList kv hr hl u]
      simp [hr]
  · refine ⟨{ w with heap := w.heap.setIfInBounds m (.map (es.modify (0 + j) fun e => { e with key := .int .i64 id, val := u }) clock) }, ?_, ?_, hgr _⟩
    · have hk2 : ((es[0 + j]?).map (·.key)).getD (.int .i64 id) = .int .i64 id := by
        have : (es[0 + j]?).map (·.key) = some (.int .i64 id) := by simpa using hkey
        rw [this]; rfl
      have hks : ∀ w', (Instr.keyThatStays (.int .i64 id) (.int .i64 id)).run P w' = .ok (.int .i64 id) w' := by
        intro w'; simp [Instr.keyThatStays, Instr.sameBits]
      simp only [run_underlying hT, Result.andThen, Go.MapKept.run_getObj_map hb, run_checkKey_int _ _ _ hK, run_findKey_int _ _ _ hK hf, Go.MapKept.run_setObj_map _ hb, hk2, hks, Sem.run_bind]
    · refine ⟨_, _, by simp [Array.getElem?_setIfInBounds, hlt]; exact ⟨rfl, rfl⟩, ?_⟩
      rw [← hput u]; simp
theorem run_delete_int {w : World} {m : Nat} {kv : List (Int × Value)} (h : MapInt w m kv) (id : Int) (t1 t2 : TypeId) (hT : P.underlying T = some (.map K V)) (hK : P.underlying K = some (.int .i64)) :
    ∃ w', (Builtin.delete_ #[T, t1] t2 #[.map (some m), .int .i64 id]).run P w = .ok (.tuple #[]) w' ∧ MapInt w' m (del kv id) ∧ w.grownBy w' (some m) := by
  obtain ⟨es, clock, hb, hr⟩ := h
  have hgr : ∀ o, w.grownBy { w with heap := w.heap.setIfInBounds m o } (some m) := fun o => ⟨rfl, rfl, rfl, by simp, fun k _ hne => by
    have : m ≠ k := fun e => hne (by rw [e])
    simp [Array.getElem?_setIfInBounds, this]⟩
  have hlt := lt_of_block hb
  unfold Builtin.delete_
  rcases findNow_look id es.toList kv 0 hr with ⟨hl, hf⟩ | ⟨j, v, hl, hf, hj, hkey, _, hdel⟩
  · refine ⟨{ w with heap := w.heap.setIfInBounds m (.map es clock) }, ?_, ?_, hgr _⟩
    · simp [run_underlying hT, Result.andThen, Go.MapKept.run_getObj_map hb, run_checkKey_int _ _ _ hK, run_findKey_int _ _ _ hK hf, Go.MapKept.run_setObj_map _ hb]
    · refine ⟨_, _, by simp [Array.getElem?_setIfInBounds, hlt]; exact ⟨rfl, rfl⟩, ?_⟩
      rw [del_none kv id hl]; exact hr
  · refine ⟨{ w with heap := w.heap.setIfInBounds m (.map (es.eraseIdxIfInBounds (0 + j)) clock) }, ?_, ?_, hgr _⟩
    · simp [run_underlying hT, Result.andThen, Go.MapKept.run_getObj_map hb, run_checkKey_int _ _ _ hK, run_findKey_int _ _ _ hK hf, Go.MapKept.run_setObj_map _ hb]
    · refine ⟨_, _, by simp [Array.getElem?_setIfInBounds, hlt]; exact ⟨rfl, rfl⟩, ?_⟩
      rw [← hdel]
      have : j < es.size := by simpa using hj
      simp [Array.eraseIdxIfInBounds, this]
end

theorem setRow_cells {w : World} {g : Nat} {T : TypeId} {cs : List Value} (h : Cells w g T cs) (ds : List Value) : Cells (w.setRow g ds.toArray) g T ds ∧ w.grownBy (w.setRow g ds.toArray) (some g) := by
  refine ⟨setRow_heap w g _ _ _ _ h, ⟨rfl, rfl, rfl, by simp, fun k _ hk => setRow_other w g k _ (fun e => hk (by simp [e]))⟩⟩

theorem wpList_clear_cells {P : Program} (w : World) {ops : Array Oper} {rest : List Oper} {o : Oper} {a : Act} {Q : Exit → Act → World → Prop}
    (hgd : o.guard = none) (s : Operand) (t e : TypeId) (hop : o.op = .call { callee := .builtin .clear, args := #[s], argTypes := #[t] }) (ht : P.underlying t = some (.slice e))
    (z : Value) (hz : ∀ w, (zeroValue e).run P w = .ok z w) (hzc : z.cells = #[z]) (h1 : z.oneCell' = true)
    (g off n c : Nat) (hs : a.eval s = .slice (some ⟨g, off, none⟩) n c) (hn : 0 < n) (T : TypeId) (cs : List Value) (hc : Cells w g T cs) (hle : off + n ≤ cs.length)
    (hK : ∀ w', Cells w' g T (cs.take off ++ List.replicate n z ++ cs.drop (off + n)) → w.grownBy w' (some g) → wpList P ops Q rest (a.put o.dst (.tuple #[])) w') : wpList P ops Q (o :: rest) a w := by
  refine wpList_plain hgd fun K' hK' => ?_
  have hzl : (Builtin.zeroCells #[z] n).toList = List.replicate n z := by
    simp [Builtin.zeroCells, List.eq_replicate_iff, Nat.mod_one]
  have hst := run_storeCells_at P g off T (List.replicate n z) 0 cs.toArray w hc (by simpa using hle) (by intro v hv; rw [List.eq_of_mem_replicate hv]; exact h1)
  obtain ⟨r1, r2⟩ := setRow_cells hc (cs.take off ++ List.replicate n z ++ cs.drop (off + n))
  simp only [Nat.add_zero, List.length_replicate] at hst
  obtain ⟨m, rfl⟩ : ∃ m, n = m + 1 := ⟨n - 1, by omega⟩
  unfold Oper.wp
  simp [execOp, hop, resolve, invoke, builtin, hs, Builtin.clear_, run_underlying ht, hz, hzc, hzl, hst, Result.andThen]
  exact hK' _ _ (hK _ (by simpa using r1) (by simpa using r2))


theorem wpList_mapUpdate_int {P : Program} (w : World) {ops : Array Oper} {rest : List Oper} {o : Oper} {a : Act} {Q : Exit → Act → World → Prop}
    (hg : o.guard = none) (m k x : Operand) (t K V : TypeId) (hop : o.op = .mapUpdate t m k x) (hT : P.underlying t = some (.map K V)) (hK : P.underlying K = some (.int .i64))
    (b : Nat) (kv : List (Int × Value)) (h : MapInt w b kv) (id : Int) (u : Value) (hm : a.eval m = .map (some b)) (hk : a.eval k = .int .i64 id) (hx : a.eval x = u)
    (hK' : ∀ w', MapInt w' b (put kv id u) → w.grownBy w' (some b) → wpList P ops Q rest (a.put o.dst undef) w') : wpList P ops Q (o :: rest) a w := by
  refine wpList_plain hg fun K' hK'' => ?_
  obtain ⟨w', hrun, r1, r2⟩ := run_mapUpdate_int (P := P) h id u hT hK
  unfold Oper.wp
  simp [execOp, hop, hm, hk, hx, hrun, Result.andThen]
  exact hK'' _ _ (hK' w' r1 r2)
theorem wpList_delete_int {P : Program} (w : World) {ops : Array Oper} {rest : List Oper} {o : Oper} {a : Act} {Q : Exit → Act → World → Prop}
    (hg : o.guard = none) (m k : Operand) (t t1 K V : TypeId) (hop : o.op = .call { callee := .builtin .delete, args := #[m, k], argTypes := #[t, t1] }) (hT : P.underlying t = some (.map K V)) (hK : P.underlying K = some (.int .i64))
    (b : Nat) (kv : List (Int × Value)) (h : MapInt w b kv) (id : Int) (hm : a.eval m = .map (some b)) (hk : a.eval k = .int .i64 id)
    (hK' : ∀ w', MapInt w' b (del kv id) → w.grownBy w' (some b) → wpList P ops Q rest (a.put o.dst (.tuple #[])) w') : wpList P ops Q (o :: rest) a w := by
  refine wpList_plain hg fun K' hK'' => ?_
  obtain ⟨w', hrun, r1, r2⟩ := run_delete_int (P := P) h id t1 o.type hT hK
  unfold Oper.wp
  simp [execOp, hop, resolve, invoke, builtin, hm, hk, hrun, Result.andThen]
  exact hK'' _ _ (hK' w' r1 r2)
theorem grown_alloc {w w2 : World} {o : Obj} {row : Option Nat} (h : (w.alloc o).grownBy w2 row) : w.grownBy w2 row :=
  ⟨h.os, h.tape, h.output, by have := h.size; simp at this; omega, fun k hk hne => (h.block k (by simp; omega) hne).trans (Below.heap_alloc _ _ _ hk)⟩
end Go.Proofs.Ytekgfdfganelmaa
