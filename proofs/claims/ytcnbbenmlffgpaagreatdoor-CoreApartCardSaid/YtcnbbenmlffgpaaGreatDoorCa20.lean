/- CoreApart returns true at every input. No condition. Part of its proof. -/
import Derived.Test.YtcnbbenmlffgpaaGreatDoorCa19
import Derived.Test.YtcnbbenmlffgpaaGreatDoorCa12
import Derived.Test.YtcnbbenmlffgpaaGreatDoorCa06
import Derived.Deep.LoopGhost
import Derived.Maps.AppendAt
import Derived.RangeFuncBox
import Derived.IntWalk
import Derived.Shelf.SlSortCmp.WholeK
import Derived.Shelf.SlGeneric
import Derived.Ground.SlsfProg
import Derived.Test.YtcnbbenmlffgpaaGreatDoorProg
set_option linter.unusedVariables false
/- Objects of a core lie apart; what is filled into one leaves all others. No condition. -/
namespace Go.Proofs.YtcnbbenmlffgpaaGreatDoor
open Go.RowKit

theorem obj_in {P : PL} {l : List Pl} {fr : List Nat} (m : MemI P l fr) {p : Pl} (hp : p ∈ l) (hi : p.is = true) : p.at_ + costK p.kind ≤ P.a.mem.length := by
  by_cases h8 : p.kind = 8
  · obtain ⟨g, hg, e⟩ := m.frame hp hi h8
    have := frame_mem m.pool hg
    rw [h8, costK_8]; omega
  · have := used_in_mem m.pool (m.used hp hi h8)
    rw [costK_ne h8]; omega
theorem objects_apart {P : PL} {l : List Pl} {fr : List Nat} (m : MemI P l fr) {i j : Nat} {p r : Pl} (hij : i ≠ j) (hi : l[i]? = some p) (hj : l[j]? = some r) (hp : p.is = true) (hr : r.is = true) : p.at_ + costK p.kind ≤ r.at_ ∨ r.at_ + costK r.kind ≤ p.at_ := by
  have hpm := List.mem_of_getElem? hi
  have hrm := List.mem_of_getElem? hj
  by_cases hp8 : p.kind = 8
  · obtain ⟨g, hg, eg⟩ := m.frame hpm hp hp8
    by_cases hr8 : r.kind = 8
    · obtain ⟨g', hg', eg'⟩ := m.frame hrm hr hr8
      have hnd : (atsOf l 8).Nodup := by
        refine m.frs.nodup_iff.2 ?_
        unfold List.Nodup
        rw [List.pairwise_map]
        exact (frames_nd m.pool).1.imp fun h e => h (by omega)
      have : g ≠ g' := fun e => hij (fmp_inj (atsF 8) hnd hi hj (b := p.at_) (by rw [← hp8]; exact atsF_some hp) (by rw [← hr8, atsF_some hr, eg', ← e, eg]))
      rw [hp8, hr8, costK_8]; omega
    · have := frame_used m.pool hg (m.used hrm hr hr8)
      rw [hp8, costK_8, costK_ne hr8]; omega
  · have hu := m.used hpm hp hp8
    by_cases hr8 : r.kind = 8
    · obtain ⟨g', hg', eg'⟩ := m.frame hrm hr hr8
      have := frame_used m.pool hg' hu
      rw [hr8, costK_8, costK_ne hp8]; omega
    · have hv := m.used hrm hr hr8
      rw [costK_ne hp8, costK_ne hr8]
      refine used_two m.pool hu hv fun e => ?_
      obtain ⟨k1, k5⟩ := (m.kind p hpm hp).resolve_left hp8
      exact hij (fmp_inj (atsF p.kind) (m.at_nd p.kind k1 k5) hi hj (b := p.at_) (atsF_some hp) (by rw [e.1, atsF_some hr, e.2]))
/-- Bytes of an object that is no factory are filled. -/
theorem Inv.fill {P : PL} {l : List Pl} {fr : List Nat} {xc : Int → Int} {zs : List Nat} (v : Inv P l fr xc zs) {i : Nat} {p : Pl} (hi : l[i]? = some p) (hp : p.is = true) (hk : p.kind ≠ 1) {c : Nat} (hc : c < 256) : Inv (P.setA (put_ P.a.mem p.at_ (List.replicate (costK p.kind) c))) l fr xc zs := by
  have hin := obj_in v.mem (List.mem_of_getElem? hi) hp
  have hl : (put_ P.a.mem p.at_ (List.replicate (costK p.kind) c)).length = P.a.mem.length := put_len _ _ _ (by rw [List.length_replicate]; exact hin)
  have ok := PL.ok_setA v.mem.pool hl (by
    intro y hy
    unfold put_ at hy
    simp only [List.mem_append] at hy
    rcases hy with (hy | hy) | hy
    · exact v.mem.pool.bytes y (List.mem_of_mem_take hy)
    · rw [List.eq_of_mem_replicate hy]; exact hc
    · exact v.mem.pool.bytes y (List.mem_of_mem_drop hy))
  refine ⟨v.len, v.st, v.mem.same ok (fun _ _ _ => rfl) (fun b hb => ?_), v.tre, v.que⟩
  have hbm := (v.mem.ats 1 (by omega) (by omega)).mem_iff.2 hb
  obtain ⟨r, hrm, hrf⟩ := List.mem_filterMap.1 hbm
  unfold atsF at hrf
  split at hrf
  · rename_i hcnd
    simp only [Bool.and_eq_true, beq_iff_eq] at hcnd
    cases hrf
    obtain ⟨j, hj⟩ := List.mem_iff_getElem?.1 hrm
    have hap := objects_apart v.mem (i := i) (j := j) (fun e => by
      subst e
      rw [hi] at hj; cases hj
      exact hk hcnd.2) hi hj hp hcnd.1
    rw [hcnd.2] at hap
    have : costK 1 = 64 := rfl
    exact (kept_put (by rw [List.length_replicate]; exact hin) (by rw [List.length_replicate]; omega)).word
  · cases hrf
/-- How many are live. -/
theorem allTo_count (l : List Pl) (s : Nat) : ∀ k, k ≤ l.length → (allTo l s k).length = ((l.take k).filter fun p => decide (p.st = s)).length := by
  intro k
  induction k with
  | zero => intro _; simp [allTo_zero]
  | succ k ih =>
    intro hk
    have hg : l[k]? = some l[k] := List.getElem?_eq_getElem (by omega)
    rw [allTo_succ hg, List.take_add_one, hg, List.length_append, ih (by omega), List.filter_append, List.length_append]
    congr 1
    by_cases h : l[k].st = s <;> simp [h]
theorem allL_count (l : List Pl) (s : Nat) : (allL l s).length = (l.filter fun p => decide (p.st = s)).length := by
  unfold allL
  rw [allTo_count l s l.length (Nat.le_refl _), List.take_length]
theorem allL_add {l : List Pl} {i : Nat} {p q : Pl} (hi : l[i]? = some p) (s : Nat) : (allL (l.set i q) s).length ≤ (allL l s).length + 1 := by
  rw [allL_count, allL_count]
  obtain ⟨R, h1, h2⟩ := set_perm q hi
  rw [(h2.filter _).length_eq, (h1.filter _).length_eq, List.filter_cons, List.filter_cons]
  split <;> split <;> simp <;> omega
theorem allL_drop {l : List Pl} {i : Nat} {p q : Pl} (hi : l[i]? = some p) {s : Nat} (hq : q.st ≠ s) : (allL (l.set i q) s).length ≤ (allL l s).length := by
  rw [allL_count, allL_count]
  obtain ⟨R, h1, h2⟩ := set_perm q hi
  rw [(h2.filter _).length_eq, (h1.filter _).length_eq, List.filter_cons, List.filter_cons, if_neg (by simpa using hq)]
  split <;> simp
/-- All are live, zombies or empty: if few are live and none is a zombie, there is room. -/
theorem room_some {S : CO} {fr : List Nat} {N K : Nat} (ok : S.Ok fr N K) (hts : S.ts = []) (hf : (allL S.l 1).length < 256) : ∃ i p, Fst S.l i p := by
  have hex : ∃ p ∈ S.l, p.st = 0 := by
    apply Classical.byContradiction
    intro hno
    have hall : ∀ p ∈ S.l, p.st = 1 := fun p hp => by
      have h2 := (ok.inv.st p hp).1
      have h0 : p.st ≠ 0 := fun e => hno ⟨p, hp, e⟩
      have hz : p.st ≠ 2 := fun e => by
        obtain ⟨i, hi⟩ := List.mem_iff_getElem?.1 hp
        have hi256 : i < 256 := by have := (List.getElem?_eq_some_iff.1 hi).1; rw [ok.inv.len] at this; exact this
        have := (ok.inv.que.has (nm i p)).2 ⟨p, pget_some.2 ⟨by rw [nm_mod hi256]; exact hi, by rw [nm_mod hi256], e⟩⟩
        rw [hts] at this; cases this
      omega
    have : (allL S.l 1).length = S.l.length := by
      rw [allL_count, List.filter_eq_self.2 fun p hp => by simpa using hall p hp]
    rw [ok.inv.len] at this; omega
  have key : ∀ n : Nat, (∃ (i : Nat) (p : Pl), i < n ∧ S.l[i]? = some p ∧ p.st = 0) → ∃ i p, Fst S.l i p := by
    intro n
    induction n with
    | zero => rintro ⟨i, p, h, _⟩; omega
    | succ n ih =>
      rintro ⟨i, p, h1, h2, h3⟩
      by_cases he : ∃ (j : Nat) (q : Pl), j < n ∧ S.l[j]? = some q ∧ q.st = 0
      · exact ih he
      · have hin : i = n := by
          apply Classical.byContradiction
          intro hne
          exact he ⟨i, p, by omega, h2, h3⟩
        subst hin
        exact ⟨i, p, h2, h3, fun j q hj hq e => he ⟨j, q, hj, hq, e⟩⟩
  obtain ⟨p, hp, h0⟩ := hex
  obtain ⟨i, hi⟩ := List.mem_iff_getElem?.1 hp
  exact key (i + 1) ⟨i, p, by omega, hi, h0⟩
/-- The same are live. -/
theorem live_same {l l' : List Pl} (hl : l.length ≤ 256) (hl' : l'.length ≤ 256) (h : ∀ x, pget l' 1 x = pget l 1 x) : allL l' 1 = allL l 1 := by
  have hm : ∀ x, x ∈ allL l' 1 ↔ x ∈ allL l 1 := fun x => by rw [mem_all hl', mem_all hl, h]
  have srt : ∀ (u v : List Nat), u.Pairwise (fun a b => a % 256 < b % 256) → v.Pairwise (fun a b => a % 256 < b % 256) → (∀ x, x ∈ u ↔ x ∈ v) → u = v := by
    intro u
    induction u with
    | nil =>
      intro v _ _ hx
      cases v with
      | nil => rfl
      | cons y r => have := (hx y).2 (by simp); cases this
    | cons y r ih =>
      intro v hu hv hx
      cases v with
      | nil => have := (hx y).1 (by simp); cases this
      | cons z s =>
        obtain ⟨u1, u2⟩ := List.pairwise_cons.1 hu
        obtain ⟨v1, v2⟩ := List.pairwise_cons.1 hv
        have hyz : y = z := by
          rcases List.mem_cons.1 ((hx y).1 (by simp)) with e | e
          · exact e
          · rcases List.mem_cons.1 ((hx z).2 (by simp)) with e' | e'
            · exact e'.symm
            · have := u1 z e'
              have := v1 y e
              omega
        subst hyz
        congr 1
        refine ih s u2 v2 fun x => ?_
        constructor
        · intro h
          rcases List.mem_cons.1 ((hx x).1 (by simp [h])) with e | e
          · subst e; have := u1 x h; omega
          · exact e
        · intro h
          rcases List.mem_cons.1 ((hx x).2 (by simp [h])) with e | e
          · subst e; have := v1 x h; omega
          · exact e
  exact srt _ _ (all_sorted hl' 1) (all_sorted hl 1) hm
end Go.Proofs.YtcnbbenmlffgpaaGreatDoor

/- A new variable of an array's type: its cells said by a term. No condition. -/
namespace Go.Proofs.YtcnbbenmlffgpaaGreatDoor
open Go.RowKit

theorem run_allocZ {P : Program} {w : World} {t : TypeId} {Z : Array Value} (hz : ((P.info? t).bind (·.zero)).map Value.cells = some Z) : (Instr.alloc t true (.tuple #[])).run P w = .ok (.pointer (some ⟨w.heap.size, 0, none⟩)) (w.alloc (.cells Z t)) := by
  cases hi : P.info? t with
  | none => simp [hi] at hz
  | some i =>
    cases hzz : i.zero with
    | none => simp [hi, hzz] at hz
    | some z =>
      simp only [hi, hzz, Option.bind_some, Option.map_some, Option.some.injEq] at hz
      subst hz
      simp [Instr.alloc, zeroValue, typeInfo, hi, hzz, newVar, newRow]
theorem wpList_allocZ {P : Program} {ops : Array Oper} {rest : List Oper} {o : Oper} {a : Act} {w : World} {Q : Exit → Act → World → Prop} (hg : o.guard = none) (t : TypeId) (ho : o.op = .alloc t) (dst : Option Tmp) (hdst : o.dst = dst) (N : Nat) (hN : w.heap.size = N) (Z : Array Value)
    (hz : ((P.info? t).bind (·.zero)).map Value.cells = some Z)
    (h : wpList P ops Q rest (a.put dst (.pointer (some ⟨N, 0, none⟩))) (w.alloc (.cells Z t))) : wpList P ops Q (o :: rest) a w := by
  subst hdst hN
  refine wpList_plain hg fun K hK => ?_
  unfold Oper.wp execOp
  simp only [ho, run_allocZ hz, Sem.run_bind, Sem.run_pure, Result.andThen_ok]
  exact hK _ _ h
theorem zero_bools : ((Tryz.prog.info? 37).bind (·.zero)).map Value.cells = some (bools fun _ => false).toArray := by kernel_rfl
end Go.Proofs.YtcnbbenmlffgpaaGreatDoor

/- CoreUnder, one call behind the other. Conditions: the blocks hold what CO.hl says. -/
namespace Go.Proofs.YtcnbbenmlffgpaaGreatDoor
open Go.RowKit

/-- Two arrays of Booleans. -/
def BH (bo bi : Nat) (fo fi : Nat → Bool) : HL := [(bo, isC 37 (bools fo)), (bi, isC 37 (bools fi))]
/-- The core, two arrays, two rows of handles. -/
structure UnI (S : CO) (LV : List Nat) (va : Option Addr) (L : List Nat) (ua : Option Addr) (bo bi : Nat) (fo fi : Nat → Bool) (w wr : World) : Prop where
  st : Step [] (S.hl ++ BH bo bi fo fi) w wr
  va : Aside (S.hl ++ BH bo bi fo fi) LV va wr
  ua : Aside (S.hl ++ BH bo bi fo fi) L ua wr
section
variable {S : CO} {LV L : List Nat} {va ua : Option Addr} {bo bi : Nat} {fo fi : Nat → Bool} {w wr : World}
theorem UnI.sep (h : UnI S LV va L ua bo bi fo fi w wr) : Sep wr S.hl := h.st.sep.left
theorem UnI.fresh (h : UnI S LV va L ua bo bi fo fi w wr) : Below w.heap.size w wr := h.st.fresh
theorem UnI.grown (h : UnI S LV va L ua bo bi fo fi w wr) {w' : World} (hb : Below wr.heap.size wr w') : UnI S LV va L ua bo bi fo fi w w' :=
  ⟨h.st.trans (h.st.sep.grown hb), h.va.grown hb, h.ua.grown hb⟩
theorem UnI.cellO (h : UnI S LV va L ua bo bi fo fi w wr) {k : Nat} (hk : k < 256) : wr.cell? ⟨bo, k, none⟩ = some (.bool (fo k)) := (h.st.sep.cells (b := bo) (T := 37) (cs := bools fo) (by simp [BH])).cell k _ (bools_get fo hk)
theorem UnI.cellI (h : UnI S LV va L ua bo bi fo fi w wr) {k : Nat} (hk : k < 256) : wr.cell? ⟨bi, k, none⟩ = some (.bool (fi k)) := (h.st.sep.cells (b := bi) (T := 37) (cs := bools fi) (by simp [BH])).cell k _ (bools_get fi hk)
theorem UnI.freeO (h : UnI S LV va L ua bo bi fo fi w wr) (k : Nat) : wr.frozen? ⟨bo, k, none⟩ = false := (h.st.sep.cells (b := bo) (T := 37) (cs := bools fo) (by simp [BH])).free k
theorem UnI.freeI (h : UnI S LV va L ua bo bi fo fi w wr) (k : Nat) : wr.frozen? ⟨bi, k, none⟩ = false := (h.st.sep.cells (b := bi) (T := 37) (cs := bools fi) (by simp [BH])).free k
theorem UnI.setO (h : UnI S LV va L ua bo bi fo fi w wr) (k : Nat) : UnI S LV va L ua bo bi (fun j => if j = k then true else fo j) fi w (wr.setCell ⟨bo, k, none⟩ (.bool true)) := by
  have := Sep.set (A := S.hl) (b := bo) (T := 37) (cs := bools fo) (B := [(bi, isC 37 (bools fi))]) h.st.sep k (.bool true)
  rw [bools_set] at this
  exact ⟨h.st.trans this, h.va.step this, h.ua.step this⟩
theorem UnI.setI (h : UnI S LV va L ua bo bi fo fi w wr) (k : Nat) : UnI S LV va L ua bo bi fo (fun j => if j = k then true else fi j) w (wr.setCell ⟨bi, k, none⟩ (.bool true)) := by
  have hs : Sep wr ((S.hl ++ [(bo, isC 37 (bools fo))]) ++ (bi, isC 37 (bools fi)) :: []) := by
    have := h.st.sep
    unfold BH at this
    simpa using this
  have := Sep.set (A := S.hl ++ [(bo, isC 37 (bools fo))]) (b := bi) (T := 37) (cs := bools fi) (B := []) hs k (.bool true)
  rw [bools_set] at this
  have st : Step (S.hl ++ BH bo bi fo fi) (S.hl ++ BH bo bi fo (fun j => if j = k then true else fi j)) wr (wr.setCell ⟨bi, k, none⟩ (.bool true)) := by
    unfold BH
    simpa using this
  exact ⟨h.st.trans st, h.va.step st, h.ua.step st⟩
theorem UnI.row (h : UnI S LV va L ua bo bi fo fi w wr) {j x : Nat} (hj : L[j]? = some x) : ∃ g, ua = some ⟨g, 0, none⟩ ∧ wr.cell? ⟨g, j, none⟩ = some (.int .u32 (x : Int)) := by
  obtain ⟨g, h1, _, _, h4⟩ := h.ua j x hj
  exact ⟨g, h1, h4⟩
theorem UnI.live (h : UnI S LV va L ua bo bi fo fi w wr) {j x : Nat} (hj : LV[j]? = some x) : ∃ g, va = some ⟨g, 0, none⟩ ∧ wr.cell? ⟨g, j, none⟩ = some (.int .u32 (x : Int)) := by
  obtain ⟨g, h1, _, _, h4⟩ := h.va j x hj
  exact ⟨g, h1, h4⟩
/-- The arrays are made. -/
theorem UnI.start (st : Step [] S.hl w wr) (hv : Aside S.hl LV va wr) (hu : Aside S.hl L ua wr) : UnI S LV va L ua wr.heap.size (wr.heap.size + 1) (fun _ => false) (fun _ => false) w ((wr.alloc (.cells (bools fun _ => false).toArray 37)).alloc (.cells (bools fun _ => false).toArray 37)) := by
  have s1 := st.sep.new 37 (bools fun _ => false)
  have s2 := s1.sep.new 37 (bools fun _ => false)
  have hsz : (wr.alloc (.cells (bools fun _ => false).toArray 37)).heap.size = wr.heap.size + 1 := by simp
  rw [hsz] at s2
  have hp : ((wr.heap.size + 1, isC 37 (bools fun _ => false)) :: (wr.heap.size, isC 37 (bools fun _ => false)) :: S.hl).Perm (S.hl ++ BH wr.heap.size (wr.heap.size + 1) (fun _ => false) (fun _ => false)) := by
    refine perm_count fun a => ?_
    simp only [BH, hc_append, hc_cons, hc_nil]; omega
  have st3 := (s1.trans s2).perm (List.Perm.refl _) hp
  exact ⟨st.trans st3, hv.step st3, hu.step st3⟩
end
def kindOwn (q : Pl) : Value := if q.kind = 1 then .tuple #[.int .i64 (q.own : Int), .int .i64 0] else .tuple #[.int .i64 0, .int .i64 10]
section
variable {S : CO} {fr : List Nat} {N K : Nat} {LV L : List Nat} {va ua : Option Addr} {bo bi : Nat} {fo fi : Nat → Bool} {w wr : World}
theorem own_any (h : Sep wr S.hl) (ok : S.Ok fr N K) {x : Nat} (hx : x < 4294967296) {q : Pl} (hq : pget S.l 1 x = some q) : Calls Tryz.prog 16 #[.pointer (some ⟨S.c, 0, none⟩), .int .u32 (x : Int)] wr fun r w' => r = .returned (kindOwn q) ∧ Below wr.heap.size wr w' := by
  unfold kindOwn
  by_cases hk : q.kind = 1
  · rw [if_pos hk]
    exact cown_some h ok hx hq hk
  · rw [if_neg hk]
    exact cown_err (by decide) (cof_other h ok.inv.lok hx 1 hq (by decide) (by omega))
theorem un_of (h : UnI S LV va L ua bo bi fo fi w wr) (ok : S.Ok fr N K) {x : Nat} (hx : x < 4294967296) {q : Pl} (hq : pget S.l 1 x = some q) : Calls Tryz.prog 18 #[.pointer (some ⟨S.c, 0, none⟩), .int .u32 (x : Int), .int .i64 0] wr fun r w' => r = .returned (.tuple #[.agg #[.int .i64 (q.kind : Int), .int .i64 (q.at_ : Int), .int .i64 (q.fac : Int)], .int .i64 0]) ∧ UnI S LV va L ua bo bi fo fi w w' :=
  (cof_some h.sep ok.inv.lok hx 0 hq (.inl rfl)).mono fun r w' ⟨e, hb⟩ => ⟨e, h.grown hb⟩
theorem un_own (h : UnI S LV va L ua bo bi fo fi w wr) (ok : S.Ok fr N K) {x : Nat} (hx : x < 4294967296) {q : Pl} (hq : pget S.l 1 x = some q) : Calls Tryz.prog 16 #[.pointer (some ⟨S.c, 0, none⟩), .int .u32 (x : Int)] wr fun r w' => r = .returned (kindOwn q) ∧ UnI S LV va L ua bo bi fo fi w w' :=
  (own_any h.sep ok hx hq).mono fun r w' ⟨e, hb⟩ => ⟨e, h.grown hb⟩
end
theorem pget_lt {S : CO} {fr : List Nat} {N K : Nat} (ok : S.Ok fr N K) {s x : Nat} {p : Pl} (hp : pget S.l s x = some p) : x < 4294967296 := by
  obtain ⟨a1, a2, _⟩ := pget_some.1 hp
  have := (ok.inv.lok.2 p (List.mem_of_getElem? a1)).2
  unfold nm at a2; omega
theorem fac_lt {S : CO} {fr : List Nat} {N K : Nat} (ok : S.Ok fr N K) {x : Nat} {p : Pl} (hp : pget S.l 1 x = some p) : p.fac < N ∧ (p.kind = 1 → p.own < N) := by
  have hi : p.is = true := Pl.is_iff.2 (.inl (pget_some.1 hp).2.2)
  have hn := ok.next
  refine ⟨?_, fun hk => ?_⟩
  · obtain ⟨e, he⟩ := ok.inv.tre.fac p (pget_mem hp) hi
    have := (ok.inv.mem.pool.q.fa _ e he).2.2.2.2.2.2
    omega
  · obtain ⟨e, he⟩ := ok.inv.tre.acc (pget_mem hp) hi hk
    have := (ok.inv.mem.pool.q.fa _ e he).2.2.2.2.2.2
    omega
/-- What a round of the first loop finds. -/
theorem un_round {S : CO} {fr : List Nat} {N K : Nat} (ok : S.Ok fr N K) (hN : N ≤ 255) {h : Nat} {p : Pl} (hp : pget S.l 1 h = some p) (hk : p.kind = 1) {L : List Nat} (hL : L = under S.l S.P.q.next.toNat h) {j x : Nat} (hj : L[j]? = some x) :
    ∃ q, pget S.l 1 x = some q ∧ x < 4294967296 ∧ x ≠ h ∧ x ≠ 0 ∧ isF (L.drop (j + 1)) (x % 256) = false ∧ q.fac < 255 ∧ (q.kind = 1 → q.own < 255) ∧ (q.fac = p.own ∨ ownsF S.l (L.drop (j + 1)) q.fac = true) := by
  have t := ok.inv.tree
  have hlt := (List.getElem?_eq_some_iff.1 hj).1
  have hsp : under S.l S.P.q.next.toNat h = L.take j ++ x :: L.drop (j + 1) := by
    rw [← hL]
    have e := (List.getElem?_eq_some_iff.1 hj).2
    rw [← e, List.getElem_cons_drop, List.take_append_drop]
  obtain ⟨q, h1, h2, h3, h4, _, _, h6⟩ := under_row t hp hk hsp
  have hf := fac_lt ok h1
  exact ⟨q, h1, pget_lt ok h1, h2, h3, isF_false h4, by omega, fun hq => by have := hf.2 hq; omega, h6.imp id fun h => ownsF_iff.2 h⟩
/-- What a round of the second loop finds. -/
theorem un_live {S : CO} {fr : List Nat} {N K : Nat} (ok : S.Ok fr N K) {h : Nat} {p : Pl} (hp : pget S.l 1 h = some p) (hk : p.kind = 1) {L : List Nat} (hL : L = under S.l S.P.q.next.toNat h) {x : Nat} {q : Pl} (hq : pget S.l 1 x = some q) :
    (q.fac = p.own ∨ ownsF S.l L q.fac = true) → x ≠ 0 → x ≠ h → isF L (x % 256) = true := fun hf h0 hne => by
  have t := ok.inv.tree
  have := under_all t hp hk hq h0 hne (hf.imp id fun h => by
    rw [hL] at h
    exact ownsF_iff.1 h)
  rw [hL]
  exact isF_true this
/-- Dooming one behind the other, all under a factory. -/
def UdAt (S0 : CO) (N K : Nat) (L : List Nat) (ua : Option Addr) (i : Nat) (w wr : World) : Prop := ∃ (S : CO) (fr : List Nat), S.c = S0.c ∧ S.Ok fr N K ∧ Dmd S0.l (L.take i) S.l ∧ Step [] S.hl w wr ∧ Aside S.hl L ua wr
theorem ud_doom {S0 : CO} {fr0 : List Nat} {N0 K0 N K : Nat} (ok0 : S0.Ok fr0 N0 K0) {h : Nat} {p : Pl} (hp : pget S0.l 1 h = some p) (hk : p.kind = 1) {L : List Nat} (hL : L = under S0.l S0.P.q.next.toNat h) {ua : Option Addr} {j x : Nat} {w wr : World} (hu : UdAt S0 N K L ua j w wr) (hK : K ≤ 1048576) (hj : L[j]? = some x) :
    Calls Tryz.prog 19 #[.pointer (some ⟨S0.c, 0, none⟩), .int .u32 (x : Int)] wr fun r w' => r = .returned (.int .i64 0) ∧ UdAt S0 N K L ua (j + 1) w w' := by
  obtain ⟨S, fr, ec, ok, d, st, hsd⟩ := hu
  have t := ok0.inv.tree
  have hsp : under S0.l S0.P.q.next.toNat h = L.take j ++ x :: L.drop (j + 1) := by
    rw [← hL]
    have e := (List.getElem?_eq_some_iff.1 hj).2
    rw [← e, List.getElem_cons_drop, List.take_append_drop]
  obtain ⟨q, h1, h2, h3, h4, h5, h6, h7⟩ := under_row t hp hk hsp
  have hxA : x ∉ L.take j := fun hm => h5 x hm rfl
  have hl0 : S0.l.length ≤ 256 := by rw [ok0.inv.lok.1]; exact Nat.le_refl _
  have hl1 : S.l.length ≤ 256 := by rw [ok.inv.lok.1]; exact Nat.le_refl _
  have hkids := d.none_left hl0 hl1 h6
  have hx : pget S.l 1 x = some q := by rw [d x, if_neg hxA]; exact h1
  have := cdoom_any st.sep ok hK (pget_lt ok hx)
  rw [ec] at this
  refine this.mono ?_
  rintro r w' (⟨e, _⟩ | ⟨_, e, _⟩ | ⟨_, _, e, _⟩ | ⟨p', rv, hp', h0, hk', hov, rfl, st'⟩)
  · rw [hx] at e; cases e
  · exact absurd e h3
  · exact absurd hkids e
  · refine ⟨rfl, _, fr, ?_, ok.doomed hp' h0 hk' hov, ?_, st.trans st', hsd.step st'⟩
    · exact ec
    · have : L.take (j + 1) = L.take j ++ [x] := by rw [List.take_add_one, hj]; rfl
      rw [this]
      exact d.step (dmd_set hp')
theorem ud_end {S0 : CO} {fr0 : List Nat} {N0 K0 N K : Nat} (ok0 : S0.Ok fr0 N0 K0) {h : Nat} {p : Pl} (hp : pget S0.l 1 h = some p) (hk : p.kind = 1) {L : List Nat} (hL : L = under S0.l S0.P.q.next.toNat h) {ua : Option Addr} {w wr : World} (hu : UdAt S0 N K L ua L.length w wr) (hK : K ≤ 1048576) :
    Calls Tryz.prog 17 #[.pointer (some ⟨S0.c, 0, none⟩), .int .u32 (h : Int)] wr fun r w' => (∃ a cap, r = .returned (.slice a 0 cap)) ∧ Below w.heap.size w w' ∧ (h ≠ 0 → Calls Tryz.prog 19 #[.pointer (some ⟨S0.c, 0, none⟩), .int .u32 (h : Int)] w' fun r w2 => r = .returned (.int .i64 0) ∧ Below w.heap.size w w2) := by
  obtain ⟨S, fr, ec, ok, d, st, hsd⟩ := hu
  rw [List.take_length] at d
  have t0 := ok0.inv.tree
  have t := ok.inv.tree
  have hl0 : S0.l.length ≤ 256 := by rw [ok0.inv.lok.1]; exact Nat.le_refl _
  have hl1 : S.l.length ≤ 256 := by rw [ok.inv.lok.1]; exact Nat.le_refl _
  have hhL : h ∉ L := fun hm => by
    rw [hL] at hm
    exact ((mem_under t0).1 hm).2 rfl
  have hkm : ∀ y ∈ kids S0.l h, y ∈ L := fun y hy => by
    obtain ⟨p1, q, a1, a2, a3, a4, a5⟩ := (mem_kids hl0).1 hy
    rw [hp] at a1; cases a1
    rw [hL]
    refine under_all t0 hp hk a3 a4 (fun e => ?_) (.inl a5)
    subst e
    rw [hp] at a3; cases a3
    have := t0.rise y p hp a4 hk
    omega
  have hkids := d.none_left hl0 hl1 hkm
  have hx : pget S.l 1 h = some p := by rw [d h, if_neg hhL]; exact hp
  have h32 := pget_lt ok hx
  have := cunder_any st.sep ok h32
  rw [ec, (under_nil t).2 hkids] at this
  refine this.mono ?_
  intro r w' hr
  obtain ⟨a, cap, rfl, hb, _⟩ := hr.shape
  have st2 := st.trans (st.sep.grown hb)
  refine ⟨⟨a, cap, rfl⟩, st2.fresh, fun h0 => ?_⟩
  have := cdoom_any st2.sep ok hK h32
  rw [ec] at this
  refine this.mono ?_
  rintro r w2 (⟨e, _⟩ | ⟨_, e, _⟩ | ⟨_, _, e, _⟩ | ⟨p', rv, _, _, _, _, rfl, st'⟩)
  · rw [hx] at e; cases e
  · exact absurd e h0
  · exact absurd hkids e
  · exact ⟨rfl, (st2.trans st').fresh⟩
theorem UnI.ud {S : CO} {fr : List Nat} {N K : Nat} {LV L : List Nat} {va ua : Option Addr} {bo bi : Nat} {fo fi : Nat → Bool} {w wr : World} (h : UnI S LV va L ua bo bi fo fi w wr) (ok : S.Ok fr N K) : UdAt S N K L ua 0 w wr :=
  ⟨S, fr, rfl, ok, by rw [List.take_zero]; exact Dmd.nil _, h.st.drop (List.sublist_append_left _ _), fun j x hj => by
    obtain ⟨g, h1, h2, h3, h4⟩ := h.ua j x hj
    exact ⟨g, h1, fun hk => h2 (by rw [keys_append]; exact List.mem_append_left _ hk), h3, h4⟩⟩
theorem un_doomh {S : CO} {fr : List Nat} {N K : Nat} {LV L : List Nat} {va ua : Option Addr} {bo bi : Nat} {fo fi : Nat → Bool} {w wr : World} (hu : UnI S LV va L ua bo bi fo fi w wr) (ok : S.Ok fr N K) (hK : K ≤ 1048576) {h : Nat} {p : Pl} (hp : pget S.l 1 h = some p) (h0 : h ≠ 0) (hL : L = under S.l S.P.q.next.toNat h) (hne : L ≠ []) :
    Calls Tryz.prog 19 #[.pointer (some ⟨S.c, 0, none⟩), .int .u32 (h : Int)] wr fun r w' => r = .returned (.int .i64 12) ∧ UdAt S N K L ua 0 w w' := by
  have hkids : kids S.l h ≠ [] := fun e => hne (by rw [hL]; exact (under_nil ok.inv.tree).2 e)
  obtain ⟨S', fr', ec, ok', d, st, hsd⟩ := hu.ud ok
  refine (cdoom_any hu.sep ok hK (pget_lt ok hp)).mono ?_
  rintro r w' (⟨e, _⟩ | ⟨_, e, _⟩ | ⟨_, _, _, rfl, st'⟩ | ⟨p', rv, _, _, e, _⟩)
  · rw [hp] at e; cases e
  · exact absurd e h0
  · have st0 : Step [] S.hl w wr := hu.st.drop (List.sublist_append_left _ _)
    have hsd0 : Aside S.hl L ua wr := fun j x hj => by
      obtain ⟨g, h1, h2, h3, h4⟩ := hu.ua j x hj
      exact ⟨g, h1, fun hk => h2 (by rw [keys_append]; exact List.mem_append_left _ hk), h3, h4⟩
    exact ⟨rfl, S, fr, rfl, ok, by rw [List.take_zero]; exact Dmd.nil _, st0.trans st', hsd0.step st'⟩
  · exact absurd e hkids
theorem UdAt.row {S0 : CO} {N K : Nat} {L : List Nat} {ua : Option Addr} {i : Nat} {w wr : World} (h : UdAt S0 N K L ua i w wr) {j x : Nat} (hj : L[j]? = some x) : ∃ g, ua = some ⟨g, 0, none⟩ ∧ wr.cell? ⟨g, j, none⟩ = some (.int .u32 (x : Int)) := by
  obtain ⟨S, fr, _, _, _, _, hsd⟩ := h
  obtain ⟨g, h1, _, _, h4⟩ := hsd j x hj
  exact ⟨g, h1, h4⟩
end Go.Proofs.YtcnbbenmlffgpaaGreatDoor

/- Walks of the allocator's Free. Conditions: the blocks hold what BD.hl says, the free blocks are those that the used pages leave. -/
namespace Go.Proofs.YtcnbbenmlffgpaaGreatDoor
open Go.RowKit

/-- The numbers of the blocks of an order that are so, below s. -/
def onTo (G : Nat → Nat → Bool) (top k s : Nat) : List Nat := ((List.range (2 ^ (top - k))).filter (G k)).filter fun i => decide (i < s)
def onAll (G : Nat → Nat → Bool) (top k : Nat) : List Nat := (List.range (2 ^ (top - k))).filter (G k)
theorem onTo_zero (G : Nat → Nat → Bool) (top k : Nat) : onTo G top k 0 = [] := by simp [onTo]
theorem mem_on {G : Nat → Nat → Bool} {top k i : Nat} : i ∈ onAll G top k ↔ i < 2 ^ (top - k) ∧ G k i = true := by simp [onAll]
theorem filter_upto {l : List Nat} (hs : l.Pairwise (· < ·)) {s i : Nat} (hi : i ∈ l) (hsi : s ≤ i) (hno : ∀ j ∈ l, s ≤ j → i ≤ j) : l.filter (fun j => decide (j < i + 1)) = l.filter (fun j => decide (j < s)) ++ [i] := by
  induction l with
  | nil => cases hi
  | cons a r ih =>
    obtain ⟨h1, h2⟩ := List.pairwise_cons.1 hs
    rcases List.mem_cons.1 hi with rfl | hi'
    · have e1 : r.filter (fun j => decide (j < i + 1)) = [] := by
        rw [List.filter_eq_nil_iff]; intro j hj; have := h1 j hj; simp; omega
      have e2 : r.filter (fun j => decide (j < s)) = [] := by
        rw [List.filter_eq_nil_iff]; intro j hj; have := h1 j hj; simp; omega
      rw [List.filter_cons_of_pos (by simp), List.filter_cons_of_neg (by simp; omega), e1, e2]; rfl
    · have hai := h1 i hi'
      have hlt : a < s := by
        rcases Nat.lt_or_ge a s with e | e
        · exact e
        · have := hno a (by simp) e; omega
      rw [List.filter_cons_of_pos (by simp; omega), List.filter_cons_of_pos (by simp; omega), ih h2 hi' (fun j hj hsj => hno j (by simp [hj]) hsj)]; rfl
theorem bits_on {G : Nat → Nat → Bool} {n k i : Nat} (hi : i < n) : ((List.range n).map (G k))[i]?.getD false = G k i := by simp [hi]
theorem onTo_step {G : Nat → Nat → Bool} {top k s i : Nat} (h : fstG G top k s = some i) : onTo G top k (i + 1) = onTo G top k s ++ [i] := by
  obtain ⟨h1, h2, h3, h4⟩ := firstI_spec h
  have hl : i < 2 ^ (top - k) := by simpa using h1
  rw [bits_on hl] at h3
  refine filter_upto (List.pairwise_lt_range.filter _) (mem_on.2 ⟨hl, h3⟩) h2 fun j hj hsj => ?_
  rcases Nat.lt_or_ge j i with e | e
  · have hj' := mem_on.1 hj
    have := h4 j hsj e
    rw [bits_on hj'.1] at this
    exact absurd hj'.2 this
  · exact e
theorem onTo_end {G : Nat → Nat → Bool} {top k s : Nat} (h : fstG G top k s = none) : onTo G top k s = onAll G top k := by
  have h1 := firstI_no h
  unfold onTo
  rw [show (List.range (2 ^ (top - k))).filter (G k) = onAll G top k from rfl, List.filter_eq_self]
  intro j hj
  have hj' := mem_on.1 hj
  rcases Nat.lt_or_ge j s with e | e
  · simpa using e
  · have := h1 j e (by simpa using hj'.1)
    rw [bits_on hj'.1] at this
    exact absurd hj'.2 this
/-- A block: where it begins, its order. -/
def blk (k i : Nat) : Nat × Nat := (1024 * i * 2 ^ k, k)
def freeTo (G : Nat → Nat → Bool) (top k : Nat) : List (Nat × Nat) := (List.range k).flatMap fun j => (onAll G top j).map (blk j)
def freeUp (G : Nat → Nat → Bool) (top k s : Nat) : List (Nat × Nat) := freeTo G top k ++ (onTo G top k s).map (blk k)
theorem freeUp_zero (G : Nat → Nat → Bool) (top k : Nat) : freeUp G top k 0 = freeTo G top k := by simp [freeUp, onTo_zero]
theorem freeUp_step {G : Nat → Nat → Bool} {top k s i : Nat} (h : fstG G top k s = some i) : freeUp G top k (i + 1) = freeUp G top k s ++ [blk k i] := by
  unfold freeUp; rw [onTo_step h]; simp
theorem freeUp_end {G : Nat → Nat → Bool} {top k s : Nat} (h : fstG G top k s = none) : freeUp G top k s = freeTo G top (k + 1) := by
  unfold freeUp freeTo; rw [onTo_end h, List.range_succ]; simp
theorem on_len (G : Nat → Nat → Bool) (top k : Nat) (ht : top ≤ 20) : (onAll G top k).length ≤ 1048576 := by
  unfold onAll
  exact Nat.le_trans (List.length_filter_le _ _) (by rw [List.length_range]; exact pow_le20 ht)
theorem freeTo_len (G : Nat → Nat → Bool) (top : Nat) (ht : top ≤ 20) : ∀ k, (freeTo G top k).length ≤ 1048576 * k
  | 0 => by simp [freeTo]
  | k + 1 => by
    have ih := freeTo_len G top ht k
    have h1 := on_len G top k ht
    have e : freeTo G top (k + 1) = freeTo G top k ++ (onAll G top k).map (blk k) := by
      unfold freeTo; rw [List.range_succ]; simp
    rw [e, List.length_append, List.length_map]
    omega
theorem freeUp_len (G : Nat → Nat → Bool) (top k s : Nat) (ht : top ≤ 20) : (freeUp G top k s).length ≤ 1048576 * k + 1048576 := by
  have h1 := freeTo_len G top ht k
  have h2 := on_len G top k ht
  unfold freeUp onTo
  rw [List.length_append, List.length_map]
  have h3 := List.length_filter_le (fun i => decide (i < s)) (onAll G top k)
  unfold onAll at h2 h3
  omega
def encB (x : Nat × Nat) : List Value := [.int .i64 (x.1 : Int), .int .i64 (x.2 : Int)]
def bcellsL (l : List (Nat × Nat)) : List Value := l.flatMap encB
theorem Tryz.infoblk : (Tryz.prog.info? 105).map (fun i => (i.zero, i.size, i.bytes)) = some (some (.agg #[.int .i64 0, .int .i64 0]), 2, 16) := by kernel_rfl
/-- What sorted does: the row in order. -/
def SortedP (B : Nat) (L : List (Nat × Nat)) (v : Value) (w : World) (r : Ending) (w' : World) : Prop := r = .returned v ∧ ∃ L' : List (Nat × Nat), L'.Perm L ∧ L'.Pairwise (fun a b => a.1 ≤ b.1) ∧ w'.ownsRow B 105 2 v L'.length (bcellsL L') ∧ Below B w w'
/-- A new slice of blocks in order. -/
def NewBlks (w : World) (L : List (Nat × Nat)) (r : Ending) (w' : World) : Prop := ∃ v L', r = .returned v ∧ L'.Perm L ∧ L'.Pairwise (fun a b => a.1 ≤ b.1) ∧ w'.ownsRow w.heap.size 105 2 v L'.length (bcellsL L') ∧ Below w.heap.size w w'
/-- The blocks so far. -/
def OutB (w wr : World) (v : Value) (L : List (Nat × Nat)) : Prop := wr.ownsRow w.heap.size 105 2 v L.length (bcellsL L) ∧ Below w.heap.size w wr
theorem bd_first' {w w1 : World} {d : BD} {G : Nat → Nat → Bool} (h : Sep w d.hl) (hi : d.Is G) (hb : Below w.heap.size w w1) (k : Nat) (hk : k ≤ d.top) (s : Nat) (hs : s ≤ 1048576) : ∃ b, w1.cell? ⟨d.b, 1 + k, none⟩ = some (.pointer (some ⟨b, 0, none⟩)) ∧
    Calls Tryz.prog 88 #[.pointer (some ⟨b, 0, none⟩), .bool true, .int .i64 s] w1 fun r w' => r = .returned (.int .i64 (optI (fstG G d.top k s))) ∧ w1 = w' := bd_first (h.grown hb).sep hi k hk s hs
theorem two_new (w : World) (T : TypeId) (v0 v1 : Value) : ∀ j u, [v0, v1][j]? = some u → (w.alloc (.cells #[v0, v1] T)).cell? ((⟨w.heap.size, 0, none⟩ : Addr).add j) = some u := by
  intro j u hj
  have hc := Cells.new w T [v0, v1]
  match j, hj with
  | 0, hj => cases hj; exact hc.cell 0 _ rfl
  | 1, hj => cases hj; exact hc.cell 1 _ rfl
/-- Behind an append onto what was made since w. -/
theorem out_below {w wr w1 : World} {o : Obj} {T : TypeId} {size n : Nat} {v : Value} {xs : List Value} (h : wr.ownsRow w.heap.size T size v n xs) (hb : Below w.heap.size w wr) (hg : (wr.alloc o).grownBy w1 v.ownBlock) : Below w.heap.size w w1 :=
  hb.trans (((Below.refl _ wr).alloc hb.size o).grown hg (by have := hb.size; simp; omega) (fun k hk => (h.lt k hk).1))
set_option maxHeartbeats 4000000 in
set_option maxRecDepth 100000 in
theorem free_walk {w : World} {d : BD} {G : Nat → Nat → Bool} (h : Sep w d.hl) (hi : d.Is G)
    (hsort : ∀ v w1 L, OutB w w1 v L → L.length ≤ 22020096 → (L = freeTo G d.top (d.top + 1)) → Calls Tryz.prog 89 #[v] w1 (SortedP w.heap.size L v w1)) :
    Calls Tryz.prog 42 #[.pointer (some ⟨d.b, 0, none⟩)] w (NewBlks w (freeTo G d.top (d.top + 1))) := by
  have ht := hi.top
  have HC0 : Hid (∀ w1, Below w.heap.size w w1 → w1.cell? ⟨d.b, 0, none⟩ = some (.int .i64 d.top)) := fun w1 hb => BD.c0 (h.grown hb).sep
  have HFst := hidden (fun w1 hb k hk s hs => bd_first' h hi (w1 := w1) hb k hk s hs)
  have HS := hidden hsort
  clear h hi hsort
  generalize d.top = top at *
  generalize d.b = db at *
  obtain ⟨i0, hinf, hz0, hz1, hz2⟩ := info_parts Tryz.infoblk
  go_enter Tryz.func42, Tryz.ntmps42
  go_wp2_with fail
  go_loopg [3, 4] (top + 1) (fun gk ov kv wr => ∃ k : Nat, kv = .int .i64 k ∧ k + gk = top + 1 ∧ OutB w wr ov (freeTo G top k))
  case atStart => exact ⟨0, rfl, by omega, World.ownsRow_nil _ _ _ _, Below.refl _ _⟩
  case round =>
    obtain ⟨k, rfl, hkg, hout⟩ := hrel
    have HO := hidden hout
    have c0 := HC0.out wr hout.2
    have HKG := hidden hkg
    clear hout
    by_cases hlt : k ≤ top
    · obtain ⟨b, hc1, hcall⟩ := HFst.out wr HO.out.2 k hlt 0 (by omega)
      have HCall := hidden hcall
      clear hcall hkg
      have hk0 : (0 : Int) ≤ k := by omega
      have hk21 : (k : Int) < 21 := by omega
      go_wp2_with fail
      refine HCall.out.mono ?_
      rintro r w' ⟨rfl, rfl⟩
      have h18 : 2 ^ (top - k) ≤ 1048576 := pow_le20 ht
      go_wp2_with fail
      obtain ⟨gko, hgo⟩ : ∃ g, g = gk := ⟨_, rfl⟩
      subst hgo
      obtain ⟨wo, hwo⟩ : ∃ wo, wo = wr := ⟨_, rfl⟩
      subst hwo
      go_loopg [3, 5] 1048577 (fun gi ov iv wi => ∃ s : Nat, iv = .int .i64 (optI (fstG G top k s)) ∧ s + gi = 1048577 ∧ OutB w wi ov (freeUp G top k s))
      case atStart => exact ⟨0, rfl, rfl, by rw [freeUp_zero]; exact HO.out⟩
      case round =>
        clear HO hc1 c0 HCall
        obtain ⟨s, rfl, hsg, hout⟩ := hrel
        have HO := hidden hout
        have c0 := HC0.out wr hout.2
        have hsz := hout.2.size
        clear hout
        cases hfi : fstG G top k s with
        | none =>
          have HFi := hidden hfi
          clear hfi
          rw [show optI none = -1 from rfl]
          go_wp2_with fail
          go_roundg (top + 1 - (k + 1))
          case measure => have := HKG.out; omega
          case rel => exact ⟨k + 1, by go_num, by omega, by rw [← freeUp_end HFi.out]; exact HO.out⟩
        | some i =>
          obtain ⟨hil, hsi, _, _⟩ := firstI_spec hfi
          have HFi := hidden hfi
          clear hfi
          have hi2 : i < 2 ^ (top - k) := by simpa using hil
          have hi0 : (0 : Int) ≤ i := by omega
          have hib : (i : Int) < 1048576 := by omega
          have HOw := hidden HO.out.1
          have hlen := freeUp_len G top k s ht
          have hL : Hid (bcellsL (freeUp G top k s) ++ [.int .i64 (((blk k i).1 : Nat) : Int), .int .i64 (k : Int)] = bcellsL (freeUp G top k (i + 1)) ∧ (freeUp G top k s).length + 1 = (freeUp G top k (i + 1)).length) := by
            constructor
            · rw [freeUp_step HFi.out]; simp [bcellsL, encB, blk]
            · rw [freeUp_step HFi.out]; simp
          have HB1 := hidden hi2
          have HB2 := hidden hlen
          have HB3 := hidden hsg
          have HSI := hidden hsi
          have hm : i * 2 ^ k < 1048576 := by
            have h1 : i * 2 ^ k < 2 ^ (top - k) * 2 ^ k := Nat.mul_lt_mul_of_pos_right hi2 (Nat.two_pow_pos _)
            rw [← Nat.pow_add, show top - k + k = top by omega] at h1
            exact Nat.lt_of_lt_of_le h1 (Nat.le_trans (Nat.pow_le_pow_right (by omega) ht) (by decide))
          have hsh : wrap64 ((i : Int) * 1024 * 2 ^ k) = (((blk k i).1 : Nat) : Int) := by
            have e : (i : Int) * 1024 * 2 ^ k = ((1024 * i * 2 ^ k : Nat) : Int) := by
              rw [Int.natCast_mul, Int.natCast_mul, Int.natCast_pow]; show _ = (1024 : Int) * i * 2 ^ k; rw [Int.mul_comm (i : Int) 1024]
            rw [e]
            have e2 : 1024 * i * 2 ^ k = 1024 * (i * 2 ^ k) := Nat.mul_assoc _ _ _
            exact Go.IntWalk.wrap64_in _ (by omega)
          have HM := hidden hm
          clear hil hi2 hlen hsg h18 hsi hm
          rw [show optI (some i) = (i : Int) from rfl]
          generalize hva : (((blk k i).1 : Nat) : Int) = va at hsh hL
          have HVa := hidden hva
          clear hva
          iterate 41 go_step
          rw [hsh]
          clear hsh
          have hB2 := HB2.out
          iterate 2 go_step
          refine wpList_append_own _ rfl _ _ 80 rfl w.heap.size 105 i0 (.agg #[.int .i64 0, .int .i64 0]) 2 16 Tryz.underlying80 hinf hz0 hz1 hz2 rfl (by decide) _ _ _ rfl (HOw.out.alloc _) ⟨wr.heap.size, 0, none⟩ 1 1 [.int .i64 va, .int .i64 k] rfl rfl (two_new wr _ _ _) (by simp [Value.oneCell']) (by unfold maxLen; omega) (by omega) (by simp; omega) ?_
          intro v' w1 hown' hgrow _
          have hbl := out_below HOw.out HO.out.2 hgrow
          rw [hL.out.1, hL.out.2] at hown'
          have HO1 : Hid (OutB w w1 v' (freeUp G top k (i + 1))) := ⟨hown', hbl⟩
          have HBl := hidden hbl
          clear hown' hgrow hbl hB2 HOw HO HVa hL c0 hsz
          obtain ⟨b2, hc2, hcall2⟩ := HFst.out w1 HBl.out k hlt (i + 1) (by omega)
          rw [show ((i + 1 : Nat) : Int) = (i : Int) + 1 by omega] at hcall2
          have HC2 := hidden hcall2
          clear hcall2
          go_wp2_with fail
          refine HC2.out.mono ?_
          rintro r w' ⟨rfl, rfl⟩
          go_wp2_with fail
          go_roundg (1048577 - (i + 1))
          case measure => have := HB3.out; have := HSI.out; omega
          case rel => exact ⟨i + 1, rfl, by omega, HO1.out⟩
    · obtain rfl : k = top + 1 := by omega
      have hS := hidden (HS.out u3 wr _ HO.out (Nat.le_trans (freeTo_len G top ht (top + 1)) (by omega)) rfl)
      go_wp2_with fail
      refine hS.out.mono ?_
      rintro r w' ⟨rfl, L', p1, p2, p3, p4⟩
      have HR : Hid (NewBlks w (freeTo G top (top + 1)) (.returned u3) w') := ⟨u3, L', rfl, p1, p2, p3, HO.out.2.trans p4⟩
      clear p1 p2 p3 p4
      go_wp2_with fail
      go_ret
      exact HR.out
end Go.Proofs.YtcnbbenmlffgpaaGreatDoor

/- Lists of free blocks: the same used pages give the same list; quartermasterref03.Same compares them. Conditions: the cells are read. -/
namespace Go.Proofs.YtcnbbenmlffgpaaGreatDoor
open Go.RowKit

theorem mem_freeTo {G : Nat → Nat → Bool} {top n : Nat} {b : Nat × Nat} : b ∈ freeTo G top n ↔ ∃ k i, k < n ∧ i < 2 ^ (top - k) ∧ G k i = true ∧ b = blk k i := by
  unfold freeTo
  simp only [List.mem_flatMap, List.mem_range, List.mem_map]
  constructor
  · rintro ⟨k, hk, i, hi, rfl⟩
    obtain ⟨h1, h2⟩ := mem_on.1 hi
    exact ⟨k, i, hk, h1, h2, rfl⟩
  · rintro ⟨k, i, hk, h1, h2, rfl⟩
    exact ⟨k, hk, i, mem_on.2 ⟨h1, h2⟩, rfl⟩
/-- No two free blocks begin at one place. -/
theorem free_inj {u : Nat → Bool} {top k i k' i' : Nat} (hk : k ≤ top) (hk' : k' ≤ top) (h : fre u top k i = true) (h' : fre u top k' i' = true) (e : i * 2 ^ k = i' * 2 ^ k') : k = k' ∧ i = i' := by
  have key : ∀ {a x b y : Nat}, a < b → b ≤ top → fre u top a x = true → fre u top b y = true → x * 2 ^ a = y * 2 ^ b → False := by
    intro a x b y hab hb h1 h2 e
    unfold fre at h1 h2
    simp only [Bool.and_eq_true, Bool.or_eq_true, beq_iff_eq, Bool.not_eq_true'] at h1 h2
    rcases h1.2 with e1 | e1
    · omega
    · have hc : clr u (a + 1) (x / 2) = true := by
        rw [clr_iff]
        intro p hp
        refine (clr_iff u b y).1 h2.1 p ?_
        have e2 : b = (a + 1) + (b - (a + 1)) := by omega
        have hx : x = y * 2 ^ (b - a) := by
          have e3 : 2 ^ b = 2 ^ (b - a) * 2 ^ a := by rw [← Nat.pow_add]; congr 1; omega
          rw [e3, ← Nat.mul_assoc] at e
          exact Nat.eq_of_mul_eq_mul_right (Nat.two_pow_pos a) e
        have hx2 : x / 2 = y * 2 ^ (b - (a + 1)) := by
          have e3 : 2 ^ (b - a) = 2 ^ (b - (a + 1)) * 2 := by rw [← Nat.pow_succ]; congr 1; omega
          rw [hx, e3, ← Nat.mul_assoc, Nat.mul_div_cancel _ (by omega : 0 < 2)]
        rw [e2, Nat.pow_add, ← Nat.div_div_eq_div_mul, hp, hx2, Nat.mul_div_cancel _ (Nat.two_pow_pos _)]
      rw [hc] at e1; cases e1
  rcases Nat.lt_trichotomy k k' with hlt | rfl | hlt
  · exact (key hlt hk' h h' e).elim
  · exact ⟨rfl, Nat.eq_of_mul_eq_mul_right (Nat.two_pow_pos k) e⟩
  · exact (key hlt hk h' h e.symm).elim
theorem sorted_uniq : ∀ {L M : List (Nat × Nat)}, L.Perm M → L.Pairwise (fun a b => a.1 ≤ b.1) → M.Pairwise (fun a b => a.1 ≤ b.1) → (∀ a ∈ L, ∀ b ∈ L, a.1 = b.1 → a = b) → L = M
  | [], M, hp, _, _, _ => (List.nil_perm.1 hp).symm
  | x :: L, M, hp, h1, h2, hi => by
    cases M with
    | nil => exact absurd hp.symm (List.not_perm_nil_cons _ _)
    | cons y M =>
      obtain ⟨a1, a2⟩ := List.pairwise_cons.1 h1
      obtain ⟨b1, b2⟩ := List.pairwise_cons.1 h2
      have hy : y ∈ x :: L := hp.mem_iff.2 (by simp)
      have hx : x ∈ y :: M := hp.mem_iff.1 (by simp)
      have hxy : x = y := by
        refine hi x (by simp) y hy ?_
        have l1 : x.1 ≤ y.1 := by
          rcases List.mem_cons.1 hy with e | e
          · rw [e]; exact Nat.le_refl _
          · exact a1 y e
        have l2 : y.1 ≤ x.1 := by
          rcases List.mem_cons.1 hx with e | e
          · rw [e]; exact Nat.le_refl _
          · exact b1 x e
        omega
      subst hxy
      rw [sorted_uniq (List.Perm.cons_inv hp) a2 b2 fun a ha b hb => hi a (by simp [ha]) b (by simp [hb])]
/-- The list that Free tells, by the used pages. -/
theorem free_uniq {u v : Nat → Bool} {top : Nat} (huv : ∀ p, u p = v p) {L M : List (Nat × Nat)} (hL : L.Perm (freeTo (fre u top) top (top + 1))) (hM : M.Perm (freeTo (fre v top) top (top + 1))) (h1 : L.Pairwise (fun a b => a.1 ≤ b.1)) (h2 : M.Pairwise (fun a b => a.1 ≤ b.1)) : L = M := by
  have e : u = v := funext huv
  subst e
  refine sorted_uniq (hL.trans hM.symm) h1 h2 fun a ha b hb hab => ?_
  obtain ⟨k, i, k1, _, k3, rfl⟩ := mem_freeTo.1 (hL.mem_iff.1 ha)
  obtain ⟨k', i', k1', _, k3', rfl⟩ := mem_freeTo.1 (hL.mem_iff.1 hb)
  unfold blk at hab ⊢
  simp only at hab
  have e1 : i * 2 ^ k = i' * 2 ^ k' := by
    rw [Nat.mul_assoc, Nat.mul_assoc] at hab
    exact Nat.eq_of_mul_eq_mul_left (by omega : 0 < 1024) hab
  obtain ⟨rfl, rfl⟩ := free_inj (by omega) (by omega) k3 k3' e1
  rfl
/-- A slice holds these blocks. -/
def ReadsB (w : World) (a : Option Addr) (L : List (Nat × Nat)) : Prop := ∀ (j : Nat) (x : Nat × Nat), L[j]? = some x → ∃ g, a = some ⟨g, 0, none⟩ ∧ g < w.heap.size ∧ w.cell? ⟨g, j * 2, none⟩ = some (.int .i64 (x.1 : Int)) ∧ w.cell? ⟨g, j * 2 + 1, none⟩ = some (.int .i64 (x.2 : Int))
theorem ReadsB.below {w w' : World} {a : Option Addr} {L : List (Nat × Nat)} (h : ReadsB w a L) (hb : Below w.heap.size w w') : ReadsB w' a L := fun j x hj => by
  obtain ⟨g, h1, h2, h3, h4⟩ := h j x hj
  exact ⟨g, h1, Nat.lt_of_lt_of_le h2 hb.size, (World.cell?_of_block (w := w) (hb.block g h2)).trans h3, (World.cell?_of_block (w := w) (hb.block g h2)).trans h4⟩
theorem bcells_at : ∀ {L : List (Nat × Nat)} {j : Nat} {x : Nat × Nat}, L[j]? = some x → (bcellsL L)[j * 2]? = some (.int .i64 (x.1 : Int)) ∧ (bcellsL L)[j * 2 + 1]? = some (.int .i64 (x.2 : Int))
  | [], j, x, h => by simp at h
  | y :: L, 0, x, h => by
    simp at h; subst h
    exact ⟨rfl, rfl⟩
  | y :: L, j + 1, x, h => by
    rw [List.getElem?_cons_succ] at h
    obtain ⟨h1, h2⟩ := bcells_at (L := L) h
    have e : bcellsL (y :: L) = [.int .i64 (y.1 : Int), .int .i64 (y.2 : Int)] ++ bcellsL L := rfl
    rw [e, List.getElem?_append_right (by show 2 ≤ (j + 1) * 2; omega), List.getElem?_append_right (by show 2 ≤ (j + 1) * 2 + 1; omega)]
    have e1 : (j + 1) * 2 - [Value.int .i64 (y.1 : Int), .int .i64 (y.2 : Int)].length = j * 2 := by show (j + 1) * 2 - 2 = j * 2; omega
    have e2 : (j + 1) * 2 + 1 - [Value.int .i64 (y.1 : Int), .int .i64 (y.2 : Int)].length = j * 2 + 1 := by show (j + 1) * 2 + 1 - 2 = j * 2 + 1; omega
    rw [e1, e2]
    exact ⟨h1, h2⟩
theorem NewBlks.reads {w w' : World} {L : List (Nat × Nat)} {r : Ending} (h : NewBlks w L r w') : ∃ (a : Option Addr) (cap : Nat) (L' : List (Nat × Nat)), r = .returned (.slice a L'.length cap) ∧ L'.Perm L ∧ L'.Pairwise (fun a b => a.1 ≤ b.1) ∧ Below w.heap.size w w' ∧ ReadsB w' a L' ∧ ∀ b, a = some b → w.heap.size ≤ b.block := by
  obtain ⟨v, L', rfl, hp, hs, hrow, hb⟩ := h
  rcases hrow.2 with ⟨rfl, h0⟩ | ⟨g, cap, cur, rfl, hg, hgb, hn, hm, hsz, htk⟩
  · refine ⟨none, 0, L', by rw [h0], hp, hs, hb, fun j x hj => ?_, fun b hb => by cases hb⟩
    have := (List.getElem?_eq_some_iff.1 hj).1
    omega
  · refine ⟨_, cap, L', rfl, hp, hs, hb, fun j x hj => ?_, fun b hb => by cases hb; exact hg⟩
    obtain ⟨c1, c2⟩ := bcells_at hj
    have key : ∀ (i : Nat) (v : Value), (bcellsL L')[i]? = some v → w'.cell? ⟨g, i, none⟩ = some v := fun i v hv => by
      rw [← htk, List.getElem?_take] at hv
      split at hv
      · simp only [World.cell?, hgb, Option.isSome_none, Bool.false_eq_true, if_false]
        rw [← Array.getElem?_toList]; exact hv
      · cases hv
    exact ⟨g, rfl, lt_of_block hgb, key _ _ c1, key _ _ c2⟩
set_option maxHeartbeats 1000000 in
theorem sameb_any (w : World) (a b : Option Addr) (ca cb : Nat) (xs : List (Nat × Nat)) (ha : ReadsB w a xs) (hb : ReadsB w b xs) (hl : xs.length ≤ 33554432) :
    Calls Tryz.prog 40 #[.slice a xs.length ca, .slice b xs.length cb] w (Told w (.bool true)) := by
  have HX := hidden ha
  have HY := hidden hb
  clear ha hb
  generalize hn : xs.length = n at hl
  have HN : Hid (xs.length = n) := hn
  clear hn
  go_enter Tryz.func40, Tryz.ntmps40
  go_wp2_with fail
  go_loopg [5] n (fun gk i wr => ∃ k : Nat, k + gk = n ∧ i = .int .i64 k ∧ Below w.heap.size w wr)
  case atStart => exact ⟨0, Nat.zero_add _, rfl, Below.refl _ _⟩
  case round =>
    obtain ⟨k, hk, rfl, hch⟩ := hrel
    by_cases hlt : k < n
    · have ex : xs[k]? = some (xs[k]'(by rw [HN.out]; exact hlt)) := List.getElem?_eq_getElem _
      generalize xs[k]'(by rw [HN.out]; exact hlt) = x at ex
      obtain ⟨g1, rfl, hg1, cx0, cx1⟩ := HX.out k x ex
      obtain ⟨g2, rfl, hg2, cy0, cy1⟩ := HY.out k x ex
      have c0 := (World.cell?_of_block (w := w) (hch.block g1 hg1)).trans cx0
      have c1 := (World.cell?_of_block (w := w) (hch.block g1 hg1)).trans cx1
      have d0 := (World.cell?_of_block (w := w) (hch.block g2 hg2)).trans cy0
      have d1 := (World.cell?_of_block (w := w) (hch.block g2 hg2)).trans cy1
      have hki : (k : Int) < (n : Int) := by omega
      have hn6 : (n : Int) ≤ 33554432 := by omega
      clear ex cx0 cx1 cy0 cy1 hg1 hg2
      go_wp2
      go_region
      all_goals go_wp2
      all_goals go_roundg (n - (k + 1))
      all_goals first
        | omega
        | exact ⟨k + 1, by omega, by go_num, hch.drew⟩
    · go_wp2
      go_ret
      exact ⟨rfl, hch⟩
end Go.Proofs.YtcnbbenmlffgpaaGreatDoor

/- The kit's contract of slices.SortFunc, laid at this program: tables of numbers and one theorem. No condition. -/
namespace Go.Proofs.YtcnbbenmlffgpaaGreatDoor
open Go.Shelf
def sortBlk_ren : Go.Shelf.Ren := ⟨fun | 6 => 139 | 15 => 167 | 14 => 166 | 28 => 196 | 29 => 197 | 20 => 188 | 21 => 189 | 22 => 190 | 23 => 191 | 24 => 192 | 25 => 193 | 26 => 194 | 27 => 195 | 46 => 209 | 47 => 210 | 48 => 211 | 49 => 212 | 50 => 213 | 57 => 218 | n => n, fun | 22 => 80 | 24 => 105 | 25 => 223 | 3 => 3 | 39 => 103 | 0 => 0 | 53 => 27 | 55 => 193 | 4 => 4 | 46 => 254 | 45 => 253 | 50 => 233 | 5 => 5 | 9 => 9 | 66 => 265 | 70 => 269 | 76 => 274 | 77 => 94 | n => n, fun | n => n⟩
theorem sortBlk : Go.Proofs.SlLaysF0.n6 Tryz.prog sortBlk_ren := {
  mixed := by kernel_rfl
  f6 := ⟨Tryz.f139.name, by decide, Tryz.func139.trans (congrArg some (by kernel_rfl))⟩
  f14 := ⟨Tryz.f166.name, by decide, Tryz.func166.trans (congrArg some (by kernel_rfl))⟩
  f15 := Tryz.func167.trans (congrArg some (by kernel_rfl))
  f20 := ⟨Tryz.f188.name, by decide, Tryz.func188.trans (congrArg some (by kernel_rfl))⟩
  f21 := ⟨Tryz.f189.name, by decide, Tryz.func189.trans (congrArg some (by kernel_rfl))⟩
  f22 := ⟨Tryz.f190.name, by decide, Tryz.func190.trans (congrArg some (by kernel_rfl))⟩
  f23 := ⟨Tryz.f191.name, by decide, Tryz.func191.trans (congrArg some (by kernel_rfl))⟩
  f24 := ⟨Tryz.f192.name, by decide, Tryz.func192.trans (congrArg some (by kernel_rfl))⟩
  f25 := ⟨Tryz.f193.name, by decide, Tryz.func193.trans (congrArg some (by kernel_rfl))⟩
  f26 := ⟨Tryz.f194.name, by decide, Tryz.func194.trans (congrArg some (by kernel_rfl))⟩
  f27 := ⟨Tryz.f195.name, by decide, Tryz.func195.trans (congrArg some (by kernel_rfl))⟩
  f28 := Tryz.func196.trans (congrArg some (by kernel_rfl))
  f29 := Tryz.func197.trans (congrArg some (by kernel_rfl))
  f46 := ⟨Tryz.f209.name, by decide, Tryz.func209.trans (congrArg some (by kernel_rfl))⟩
  f47 := Tryz.func210.trans (congrArg some (by kernel_rfl))
  f48 := Tryz.func211.trans (congrArg some (by kernel_rfl))
  f49 := ⟨Tryz.f212.name, by decide, Tryz.func212.trans (congrArg some (by kernel_rfl))⟩
  f50 := ⟨Tryz.f213.name, by decide, Tryz.func213.trans (congrArg some (by kernel_rfl))⟩
  f57 := ⟨Tryz.f218.name, by decide, Tryz.func218.trans (congrArg some (by kernel_rfl))⟩
  t0 := Tryz.underlying0
  a0 := Tryz.isAgg0
  z0 := Tryz.sizeOf0
  v0 := Tryz.zeroValue0
  t3 := Tryz.underlying3
  a3 := Tryz.isAgg3
  z3 := Tryz.sizeOf3
  v3 := Tryz.zeroValue3
  t4 := Tryz.underlying4
  a4 := Tryz.isAgg4
  z4 := Tryz.sizeOf4
  v4 := Tryz.zeroValue4
  t5 := Tryz.underlying5
  a5 := Tryz.isAgg5
  z5 := Tryz.sizeOf5
  v5 := Tryz.zeroValue5
  t9 := Tryz.underlying9
  a9 := Tryz.isAgg9
  z9 := Tryz.sizeOf9
  v9 := Tryz.zeroValue9
  t22 := Tryz.underlying80
  a22 := Tryz.isAgg80
  z22 := Tryz.sizeOf80
  v22 := Tryz.zeroValue80
  t25 := Tryz.underlying223
  a25 := Tryz.isAgg223
  z25 := Tryz.sizeOf223
  v25 := Tryz.zeroValue223
  t39 := Tryz.underlying103
  a39 := Tryz.isAgg103
  z39 := Tryz.sizeOf103
  v39 := Tryz.zeroValue103
  t45 := Tryz.underlying253
  a45 := Tryz.isAgg253
  z45 := Tryz.sizeOf253
  v45 := Tryz.zeroValue253
  t46 := Tryz.underlying254
  a46 := Tryz.isAgg254
  z46 := Tryz.sizeOf254
  v46 := Tryz.zeroValue254
  t50 := Tryz.underlying233
  a50 := Tryz.isAgg233
  z50 := Tryz.sizeOf233
  v50 := Tryz.zeroValue233
  t53 := Tryz.underlying27
  a53 := Tryz.isAgg27
  z53 := Tryz.sizeOf27
  v53 := Tryz.zeroValue27
  t55 := Tryz.underlying193
  a55 := Tryz.isAgg193
  z55 := Tryz.sizeOf193
  v55 := Tryz.zeroValue193
  t66 := Tryz.underlying265
  a66 := Tryz.isAgg265
  z66 := Tryz.sizeOf265
  v66 := Tryz.zeroValue265
  t70 := Tryz.underlying269
  a70 := Tryz.isAgg269
  z70 := Tryz.sizeOf269
  v70 := Tryz.zeroValue269
  t76 := Tryz.underlying274
  a76 := Tryz.isAgg274
  z76 := Tryz.sizeOf274
  v76 := Tryz.zeroValue274
  t77 := Tryz.underlying94
  a77 := Tryz.isAgg94
  z77 := Tryz.sizeOf94
  v77 := Tryz.zeroValue94 }
end Go.Proofs.YtcnbbenmlffgpaaGreatDoor
