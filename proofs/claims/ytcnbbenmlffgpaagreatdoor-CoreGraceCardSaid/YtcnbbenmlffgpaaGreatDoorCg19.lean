/- CoreGrace returns true at every input: a doomed object is a zombie till just the tick that the period tells. No condition. Part of its proof. -/
import Derived.Test.YtcnbbenmlffgpaaGreatDoorCg18
set_option linter.unusedVariables false
/- Objects of a core lie apart; what is filled into one leaves all others. No condition. -/
namespace Go.Proofs.YtcnbbenmlffgpaaGreatDoor
open Go.RowKit

theorem obj_in {P : PL} {l : List Pl} {fr : List Nat} (m : MemI P l fr) {p : Pl} (hp : p ∈ l) (hi : p.is = true) : p.at_ + costK p.kind ≤ P.a.mem.length := by
  by_cases h8 : p.kind = 8
  · obtain ⟨g, hg, e⟩ := m.frame hp hi h8
    have := frame_mem m.pool hg
    rw [h8, costK_8]; omega
  · have := used_in_mem m.pool (m.used hp hi h8)
    rw [costK_ne h8]; omega
theorem objects_apart {P : PL} {l : List Pl} {fr : List Nat} (m : MemI P l fr) {i j : Nat} {p r : Pl} (hij : i ≠ j) (hi : l[i]? = some p) (hj : l[j]? = some r) (hp : p.is = true) (hr : r.is = true) : p.at_ + costK p.kind ≤ r.at_ ∨ r.at_ + costK r.kind ≤ p.at_ := by
  have hpm := List.mem_of_getElem? hi
  have hrm := List.mem_of_getElem? hj
  by_cases hp8 : p.kind = 8
  · obtain ⟨g, hg, eg⟩ := m.frame hpm hp hp8
    by_cases hr8 : r.kind = 8
    · obtain ⟨g', hg', eg'⟩ := m.frame hrm hr hr8
      have hnd : (atsOf l 8).Nodup := by
        refine m.frs.nodup_iff.2 ?_
        unfold List.Nodup
        rw [List.pairwise_map]
        exact (frames_nd m.pool).1.imp fun h e => h (by omega)
      have : g ≠ g' := fun e => hij (fmp_inj (atsF 8) hnd hi hj (b := p.at_) (by rw [← hp8]; exact atsF_some hp) (by rw [← hr8, atsF_some hr, eg', ← e, eg]))
      rw [hp8, hr8, costK_8]; omega
    · have := frame_used m.pool hg (m.used hrm hr hr8)
      rw [hp8, costK_8, costK_ne hr8]; omega
  · have hu := m.used hpm hp hp8
    by_cases hr8 : r.kind = 8
    · obtain ⟨g', hg', eg'⟩ := m.frame hrm hr hr8
      have := frame_used m.pool hg' hu
      rw [hr8, costK_8, costK_ne hp8]; omega
    · have hv := m.used hrm hr hr8
      rw [costK_ne hp8, costK_ne hr8]
      refine used_two m.pool hu hv fun e => ?_
      obtain ⟨k1, k5⟩ := (m.kind p hpm hp).resolve_left hp8
      exact hij (fmp_inj (atsF p.kind) (m.at_nd p.kind k1 k5) hi hj (b := p.at_) (atsF_some hp) (by rw [e.1, atsF_some hr, e.2]))
/-- Bytes of an object that is no factory are filled. -/
theorem Inv.fill {P : PL} {l : List Pl} {fr : List Nat} {xc : Int → Int} {zs : List Nat} (v : Inv P l fr xc zs) {i : Nat} {p : Pl} (hi : l[i]? = some p) (hp : p.is = true) (hk : p.kind ≠ 1) {c : Nat} (hc : c < 256) : Inv (P.setA (put_ P.a.mem p.at_ (List.replicate (costK p.kind) c))) l fr xc zs := by
  have hin := obj_in v.mem (List.mem_of_getElem? hi) hp
  have hl : (put_ P.a.mem p.at_ (List.replicate (costK p.kind) c)).length = P.a.mem.length := put_len _ _ _ (by rw [List.length_replicate]; exact hin)
  have ok := PL.ok_setA v.mem.pool hl (by
    intro y hy
    unfold put_ at hy
    simp only [List.mem_append] at hy
    rcases hy with (hy | hy) | hy
    · exact v.mem.pool.bytes y (List.mem_of_mem_take hy)
    · rw [List.eq_of_mem_replicate hy]; exact hc
    · exact v.mem.pool.bytes y (List.mem_of_mem_drop hy))
  refine ⟨v.len, v.st, v.mem.same ok (fun _ _ _ => rfl) (fun b hb => ?_), v.tre, v.que⟩
  have hbm := (v.mem.ats 1 (by omega) (by omega)).mem_iff.2 hb
  obtain ⟨r, hrm, hrf⟩ := List.mem_filterMap.1 hbm
  unfold atsF at hrf
  split at hrf
  · rename_i hcnd
    simp only [Bool.and_eq_true, beq_iff_eq] at hcnd
    cases hrf
    obtain ⟨j, hj⟩ := List.mem_iff_getElem?.1 hrm
    have hap := objects_apart v.mem (i := i) (j := j) (fun e => by
      subst e
      rw [hi] at hj; cases hj
      exact hk hcnd.2) hi hj hp hcnd.1
    rw [hcnd.2] at hap
    have : costK 1 = 64 := rfl
    exact (kept_put (by rw [List.length_replicate]; exact hin) (by rw [List.length_replicate]; omega)).word
  · cases hrf
/-- How many are live. -/
theorem allTo_count (l : List Pl) (s : Nat) : ∀ k, k ≤ l.length → (allTo l s k).length = ((l.take k).filter fun p => decide (p.st = s)).length := by
  intro k
  induction k with
  | zero => intro _; simp [allTo_zero]
  | succ k ih =>
    intro hk
    have hg : l[k]? = some l[k] := List.getElem?_eq_getElem (by omega)
    rw [allTo_succ hg, List.take_add_one, hg, List.length_append, ih (by omega), List.filter_append, List.length_append]
    congr 1
    by_cases h : l[k].st = s <;> simp [h]
theorem allL_count (l : List Pl) (s : Nat) : (allL l s).length = (l.filter fun p => decide (p.st = s)).length := by
  unfold allL
  rw [allTo_count l s l.length (Nat.le_refl _), List.take_length]
theorem allL_add {l : List Pl} {i : Nat} {p q : Pl} (hi : l[i]? = some p) (s : Nat) : (allL (l.set i q) s).length ≤ (allL l s).length + 1 := by
  rw [allL_count, allL_count]
  obtain ⟨R, h1, h2⟩ := set_perm q hi
  rw [(h2.filter _).length_eq, (h1.filter _).length_eq, List.filter_cons, List.filter_cons]
  split <;> split <;> simp <;> omega
theorem allL_drop {l : List Pl} {i : Nat} {p q : Pl} (hi : l[i]? = some p) {s : Nat} (hq : q.st ≠ s) : (allL (l.set i q) s).length ≤ (allL l s).length := by
  rw [allL_count, allL_count]
  obtain ⟨R, h1, h2⟩ := set_perm q hi
  rw [(h2.filter _).length_eq, (h1.filter _).length_eq, List.filter_cons, List.filter_cons, if_neg (by simpa using hq)]
  split <;> simp
/-- All are live, zombies or empty: if few are live and none is a zombie, there is room. -/
theorem room_some {S : CO} {fr : List Nat} {N K : Nat} (ok : S.Ok fr N K) (hts : S.ts = []) (hf : (allL S.l 1).length < 256) : ∃ i p, Fst S.l i p := by
  have hex : ∃ p ∈ S.l, p.st = 0 := by
    apply Classical.byContradiction
    intro hno
    have hall : ∀ p ∈ S.l, p.st = 1 := fun p hp => by
      have h2 := (ok.inv.st p hp).1
      have h0 : p.st ≠ 0 := fun e => hno ⟨p, hp, e⟩
      have hz : p.st ≠ 2 := fun e => by
        obtain ⟨i, hi⟩ := List.mem_iff_getElem?.1 hp
        have hi256 : i < 256 := by have := (List.getElem?_eq_some_iff.1 hi).1; rw [ok.inv.len] at this; exact this
        have := (ok.inv.que.has (nm i p)).2 ⟨p, pget_some.2 ⟨by rw [nm_mod hi256]; exact hi, by rw [nm_mod hi256], e⟩⟩
        rw [hts] at this; cases this
      omega
    have : (allL S.l 1).length = S.l.length := by
      rw [allL_count, List.filter_eq_self.2 fun p hp => by simpa using hall p hp]
    rw [ok.inv.len] at this; omega
  have key : ∀ n : Nat, (∃ (i : Nat) (p : Pl), i < n ∧ S.l[i]? = some p ∧ p.st = 0) → ∃ i p, Fst S.l i p := by
    intro n
    induction n with
    | zero => rintro ⟨i, p, h, _⟩; omega
    | succ n ih =>
      rintro ⟨i, p, h1, h2, h3⟩
      by_cases he : ∃ (j : Nat) (q : Pl), j < n ∧ S.l[j]? = some q ∧ q.st = 0
      · exact ih he
      · have hin : i = n := by
          apply Classical.byContradiction
          intro hne
          exact he ⟨i, p, by omega, h2, h3⟩
        subst hin
        exact ⟨i, p, h2, h3, fun j q hj hq e => he ⟨j, q, hj, hq, e⟩⟩
  obtain ⟨p, hp, h0⟩ := hex
  obtain ⟨i, hi⟩ := List.mem_iff_getElem?.1 hp
  exact key (i + 1) ⟨i, p, by omega, hi, h0⟩
/-- The same are live. -/
theorem live_same {l l' : List Pl} (hl : l.length ≤ 256) (hl' : l'.length ≤ 256) (h : ∀ x, pget l' 1 x = pget l 1 x) : allL l' 1 = allL l 1 := by
  have hm : ∀ x, x ∈ allL l' 1 ↔ x ∈ allL l 1 := fun x => by rw [mem_all hl', mem_all hl, h]
  have srt : ∀ (u v : List Nat), u.Pairwise (fun a b => a % 256 < b % 256) → v.Pairwise (fun a b => a % 256 < b % 256) → (∀ x, x ∈ u ↔ x ∈ v) → u = v := by
    intro u
    induction u with
    | nil =>
      intro v _ _ hx
      cases v with
      | nil => rfl
      | cons y r => have := (hx y).2 (by simp); cases this
    | cons y r ih =>
      intro v hu hv hx
      cases v with
      | nil => have := (hx y).1 (by simp); cases this
      | cons z s =>
        obtain ⟨u1, u2⟩ := List.pairwise_cons.1 hu
        obtain ⟨v1, v2⟩ := List.pairwise_cons.1 hv
        have hyz : y = z := by
          rcases List.mem_cons.1 ((hx y).1 (by simp)) with e | e
          · exact e
          · rcases List.mem_cons.1 ((hx z).2 (by simp)) with e' | e'
            · exact e'.symm
            · have := u1 z e'
              have := v1 y e
              omega
        subst hyz
        congr 1
        refine ih s u2 v2 fun x => ?_
        constructor
        · intro h
          rcases List.mem_cons.1 ((hx x).1 (by simp [h])) with e | e
          · subst e; have := u1 x h; omega
          · exact e
        · intro h
          rcases List.mem_cons.1 ((hx x).2 (by simp [h])) with e | e
          · subst e; have := v1 x h; omega
          · exact e
  exact srt _ _ (all_sorted hl' 1) (all_sorted hl 1) hm
end Go.Proofs.YtcnbbenmlffgpaaGreatDoor

/- CoreExact, one call behind the other. Conditions: the blocks hold what CO.hl says. -/
namespace Go.Proofs.YtcnbbenmlffgpaaGreatDoor
open Go.RowKit

def kindE (m : Nat) : Nat := [2, 3, 4, 5, 8][m]?.getD 2
theorem kindE_may (m : Nat) : (kindE m = 8 ∨ 2 ≤ kindE m ∧ kindE m ≤ 5) := by
  unfold kindE
  match m with
  | 0 => decide
  | 1 => decide
  | 2 => decide
  | 3 => decide
  | 4 => decide
  | n + 5 => simp
/-- What the round keeps to: the factory 1, its account, how much of all is left. -/
structure ExS (S : CO) (c qt aa n K : Nat) (f : Pl) : Prop where
  c : S.c = c
  ok : ∃ fr, S.Ok fr (n + 1) K
  qt : S.P.q.t = qt
  aa : S.P.a.a = aa
  get : pget S.l 1 1 = some f
  kind : f.kind = 1
  own : f.own = 1
  per : S.period = 1
  top : S.P.d.top = 8
  ps : S.P.d.ps.length ≤ n
  live : (allL S.l 1).length ≤ n
def ExAt (c qt aa i : Nat) (w wr : World) : Prop := ∃ (S : CO) (f : Pl), ExS S c qt aa (2 + i) i f ∧ S.ts = [] ∧ Step [] S.hl w wr
theorem ExAt.fresh {c qt aa i : Nat} {w wr : World} (h : ExAt c qt aa i w wr) : Below w.heap.size w wr := by
  obtain ⟨S, f, _, _, st⟩ := h
  exact st.fresh
theorem costK_pos {k : Nat} (h : k = 8 ∨ 2 ≤ k ∧ k ≤ 5) : 32 ≤ costK k ∧ costK k ≤ 1024 := by
  have : k = 2 ∨ k = 3 ∨ k = 4 ∨ k = 5 ∨ k = 8 := by omega
  rcases this with rfl | rfl | rfl | rfl | rfl <;> decide
set_option maxHeartbeats 1000000 in
theorem cost16_any (w : World) {k : Nat} (hk : k = 8 ∨ 2 ≤ k ∧ k ≤ 5) : Calls Tryz.prog 29 #[.int .i64 (k : Int)] w fun r w' => r = .returned (.int .i64 ((costK k : Nat) : Int)) ∧ w = w' := by
  have : k = 2 ∨ k = 3 ∨ k = 4 ∨ k = 5 ∨ k = 8 := by omega
  rcases this with rfl | rfl | rfl | rfl | rfl
  all_goals
    go_enter Tryz.func29, Tryz.ntmps29
    try push_cast
    go_wp2_with fail
    go_ret
    exact ⟨rfl, rfl⟩
/-- The start of a round: limit and use, then a Make. -/
theorem ex_start {c qt aa i : Nat} {w wr : World} (h : ExAt c qt aa i w wr) (hi : i ≤ 60) : ∃ lim use : Int, 0 ≤ use ∧ use ≤ lim ∧ lim ≤ 1073741824 ∧ ∀ w1, Below wr.heap.size wr w1 →
    Calls Tryz.prog 27 #[.pointer (some ⟨qt, 0, none⟩), .int .i64 1] w1 fun r w2 => r = .returned (.int .i64 lim) ∧ w1 = w2 ∧
    Calls Tryz.prog 28 #[.pointer (some ⟨qt, 0, none⟩), .int .i64 1] w1 fun r w3 => r = .returned (.int .i64 use) ∧ ∀ k : Nat, (k = 8 ∨ 2 ≤ k ∧ k ≤ 5) →
    Calls Tryz.prog 21 #[.pointer (some ⟨c, 0, none⟩), .int .u32 1, .int .i64 (k : Int), .int .i64 0] w3 fun r w4 =>
      (lim - use < ((costK k : Nat) : Int) ∧ r = .returned (.tuple #[.int .u32 0, .int .i64 5]) ∧ ExAt c qt aa (i + 1) w w4) ∨
      (((costK k : Nat) : Int) ≤ lim - use ∧ ∃ (x : Nat) (S : CO) (f q : Pl) (e : En Fa), r = .returned (.tuple #[.int .u32 (x : Int), .int .i64 0]) ∧ ExS S c qt aa (2 + (i + 1)) i f ∧ S.ts = [] ∧ pget S.l 1 x = some q ∧ q.kind = k ∧ x ≠ 0 ∧ x ≠ 1 ∧ find S.P.q.E 1 = some e ∧ e.q.limit = lim ∧ e.q.charged + e.q.given = use + ((costK k : Nat) : Int) ∧
        (∀ j, q.at_ ≤ j → j < q.at_ + costK k → S.P.a.mem[j]? = some 0) ∧ Step [] S.hl w w4) := by
  obtain ⟨S, f, ⟨ec, ⟨fr, ok⟩, eq, ea, hf, hk1, ho1, hper, htop, hps, hlv⟩, hts, st⟩ := h
  have hfm := pget_mem hf
  have hfi : f.is = true := Pl.is_iff.2 (.inl (pget_some.1 hf).2.2)
  obtain ⟨e, he⟩ := ok.inv.tre.acc hfm hfi hk1
  have he1 : find S.P.q.E 1 = some e := by rw [ho1] at he; exact he
  obtain ⟨b1, b2, b3, b4, b5, _⟩ := ok.inv.mem.pool.q.fa _ e he
  refine ⟨e.q.limit, e.q.charged + e.q.given, by omega, by omega, by omega, fun w1 hb => ?_⟩
  have st1 := st.trans (st.sep.grown hb)
  have hl := qlimit_some (PL.sQ (CO.sP st1.sep)) he1
  rw [eq] at hl
  unfold ptr at hl
  refine hl.mono ?_
  rintro r w2 ⟨rfl, rfl⟩
  refine ⟨rfl, rfl, ?_⟩
  have hu := quse_some (PL.sQ (CO.sP st1.sep)) ok.inv.mem.pool.q he1
  rw [eq] at hu
  unfold ptr at hu
  refine hu.mono ?_
  rintro r w3 ⟨rfl, hb3⟩
  refine ⟨rfl, fun k hk => ?_⟩
  have st3 := st1.trans (st1.sep.grown hb3)
  have hm := cmake_any st3.sep ok (by omega) (x := 1) (by omega) (k : Int) 0
  rw [ec] at hm
  refine hm.mono ?_
  intro r w4 hr
  have hlf : leftOf e = e.q.limit - (e.q.charged + e.q.given) := rfl
  by_cases hq : leftOf e < ((costK k : Nat) : Int)
  · obtain ⟨rfl, st4⟩ := hr.low hf hk1 (by omega) (fun h => by omega) he hq
    exact .inl ⟨by omega, rfl, S, f, ⟨ec, ⟨fr, ok.mono (by omega) (by omega)⟩, eq, ea, hf, hk1, ho1, hper, htop, by omega, by omega⟩, hts, st3.trans st4⟩
  · obtain ⟨i0, p0, hfst⟩ := room_some ok hts (by omega)
    obtain ⟨a, x, P', fr', rfl, hm, st4⟩ := hr.able hf (e := e) (i := i0) (p := p0) ⟨hk1, by omega, he, by omega, by rw [htop]; omega, hfst, fun h => by omega⟩
    have hi256 : i0 < 256 := by have := (List.getElem?_eq_some_iff.1 hfst.1).1; rw [ok.inv.len] at this; exact this
    have hne1 : i0 ≠ 1 := fun e1 => by
      obtain ⟨a1, _, a3⟩ := pget_some.1 hf
      have h1 := hfst.1
      rw [e1] at h1
      rw [show (1 : Nat) % 256 = 1 from rfl, h1] at a1
      cases a1
      have := hfst.2.1; omega
    have hne0 : i0 ≠ 0 := root_ne ok.inv.que hfst.1 (by have := hfst.2.1; omega)
    have hfac := hm.fac (by omega)
    refine .inr ⟨by omega, nm i0 p0, S.made f k a x i0 p0 P', f, ⟨k, a, f.own, 1, p0.age, x⟩, { e with q := { e.q with charged := e.q.charged + ((costK k : Nat) : Int) } }, rfl, ⟨ec, ⟨fr', ?_⟩, ?_, ?_, ?_, hk1, ho1, hper, ?_, ?_, ?_⟩, hts, ?_, rfl, ?_, ?_, ?_, rfl, ?_, ?_, st3.trans st4⟩
    · exact (hm.ok ok hfst.1).mono (by omega) (Nat.le_refl _)
    · show P'.q.t = qt; rw [hm.same.qt, eq]
    · show P'.a.a = aa; rw [hm.same.aa, ea]
    · show pget (S.l.set i0 _) 1 1 = some f
      rw [pget_set _ hfst.1, if_neg (by omega)]; exact hf
    · show P'.d.top = 8; rw [hm.same.top, htop]
    · have := hm.few; show P'.d.ps.length ≤ _; omega
    · show (allL (S.l.set i0 _) 1).length ≤ _
      have := allL_add (q := (⟨k, a, f.own, 1, p0.age, x⟩ : Pl)) hfst.1 1
      omega
    · show pget (S.l.set i0 _) 1 (nm i0 p0) = _
      rw [pget_set _ hfst.1, if_pos (nm_mod hi256 p0), if_pos ⟨rfl, rfl⟩]
    · unfold nm; omega
    · unfold nm; omega
    · show find P'.q.E 1 = _
      rw [hfac]
      rw [ho1] at he ⊢
      exact find_upd_same he _
    · show e.q.charged + _ + e.q.given = _; omega
    · exact hm.zero (by omega)
/-- The object lies in a block beside the core. -/
def Box (S : CO) (bx : Nat) (k a f : Nat) (w : World) : Prop := bx ∉ keys S.hl ∧ bx < w.heap.size ∧ w.cell? ⟨bx, 0, none⟩ = some (.int .i64 (k : Int)) ∧ w.cell? ⟨bx, 1, none⟩ = some (.int .i64 (a : Int)) ∧ w.cell? ⟨bx, 2, none⟩ = some (.int .i64 (f : Int))
theorem Box.new {S : CO} {w : World} (h : Sep w S.hl) (k a f : Nat) : Box S w.heap.size k a f (w.alloc (.cells #[.int .i64 (k : Int), .int .i64 (a : Int), .int .i64 (f : Int)] 39)) := by
  have hc := Cells.new w 39 [.int .i64 (k : Int), .int .i64 (a : Int), .int .i64 (f : Int)]
  exact ⟨fun hk => by have := h.lt hk; omega, by simp, hc.cell 0 _ rfl, hc.cell 1 _ rfl, hc.cell 2 _ rfl⟩
theorem Box.step {S S' : CO} {bx k a f : Nat} {w w' : World} (h : Box S bx k a f w) (st : Step S.hl S'.hl w w') : Box S' bx k a f w' := by
  obtain ⟨h1, h2, h3, h4, h5⟩ := h
  have hbk := st.chg.block bx h2 h1
  refine ⟨fun hk => ?_, Nat.lt_of_lt_of_le h2 st.chg.size, (World.cell?_of_block (w := w) hbk).trans h3, (World.cell?_of_block (w := w) hbk).trans h4, (World.cell?_of_block (w := w) hbk).trans h5⟩
  rcases st.new bx hk with h' | h'
  · exact h1 h'
  · omega
theorem Box.grown {S : CO} {bx k a f : Nat} {w w' : World} (h : Box S bx k a f w) (hb : Below w.heap.size w w') : Box S bx k a f w' := by
  obtain ⟨h1, h2, h3, h4, h5⟩ := h
  have hbk := hb.block bx h2
  exact ⟨h1, Nat.lt_of_lt_of_le h2 hb.size, (World.cell?_of_block (w := w) hbk).trans h3, (World.cell?_of_block (w := w) hbk).trans h4, (World.cell?_of_block (w := w) hbk).trans h5⟩
end Go.Proofs.YtcnbbenmlffgpaaGreatDoor

/- CoreExact, one call behind the other: behind a Make. Conditions: the blocks hold what CO.hl says. -/
namespace Go.Proofs.YtcnbbenmlffgpaaGreatDoor
open Go.RowKit

/-- Behind a Make that is OK. -/
structure ExM (S : CO) (c qt aa i x : Nat) (f q : Pl) (lim use : Int) (w wr : World) : Prop where
  s : ExS S c qt aa (2 + (i + 1)) i f
  ts : S.ts = []
  get : pget S.l 1 x = some q
  may : q.kind = 8 ∨ 2 ≤ q.kind ∧ q.kind ≤ 5
  x0 : x ≠ 0
  x1 : x ≠ 1
  acc : ∃ e, find S.P.q.E 1 = some e ∧ e.q.limit = lim ∧ e.q.charged + e.q.given = use + ((costK q.kind : Nat) : Int)
  zero : ∀ j, q.at_ ≤ j → j < q.at_ + costK q.kind → S.P.a.mem[j]? = some 0
  st : Step [] S.hl w wr
theorem ExM.grown {S : CO} {c qt aa i x : Nat} {f q : Pl} {lim use : Int} {w wr w' : World} (h : ExM S c qt aa i x f q lim use w wr) (hb : Below wr.heap.size wr w') : ExM S c qt aa i x f q lim use w w' :=
  ⟨h.s, h.ts, h.get, h.may, h.x0, h.x1, h.acc, h.zero, h.st.trans (h.st.sep.grown hb)⟩
theorem ExM.x32 {S : CO} {c qt aa i x : Nat} {f q : Pl} {lim use : Int} {w wr : World} (h : ExM S c qt aa i x f q lim use w wr) : x < 4294967296 := by
  obtain ⟨fr, ok⟩ := h.s.ok
  obtain ⟨a1, a2, _⟩ := pget_some.1 h.get
  have := (ok.inv.lok.2 q (List.mem_of_getElem? a1)).2
  unfold nm at a2; omega
theorem ExM.room {S : CO} {c qt aa i x : Nat} {f q : Pl} {lim use : Int} {w wr : World} (h : ExM S c qt aa i x f q lim use w wr) : q.at_ + costK q.kind ≤ S.P.a.mem.length ∧ S.P.a.mem.length ≤ 1073741824 := by
  obtain ⟨fr, ok⟩ := h.s.ok
  exact ⟨obj_in ok.inv.mem (pget_mem h.get) (Pl.is_iff.2 (.inl (pget_some.1 h.get).2.2)), mem_bound ok.inv.mem.pool⟩
theorem exm_of {S : CO} {c qt aa i x : Nat} {f q : Pl} {lim use : Int} {w wr : World} (h : ExM S c qt aa i x f q lim use w wr) : Calls Tryz.prog 18 #[.pointer (some ⟨c, 0, none⟩), .int .u32 (x : Int), .int .i64 (q.kind : Int)] wr fun r w' => r = .returned (.tuple #[.agg #[.int .i64 (q.kind : Int), .int .i64 (q.at_ : Int), .int .i64 (q.fac : Int)], .int .i64 0]) ∧ ExM S c qt aa i x f q lim use w w' := by
  obtain ⟨fr, ok⟩ := h.s.ok
  have := cof_some h.st.sep ok.inv.lok h.x32 (q.kind : Int) h.get (.inr rfl)
  rw [h.s.c] at this
  exact this.mono fun r w' ⟨e, hb⟩ => ⟨e, h.grown hb⟩
theorem exm_read {S : CO} {c qt aa i x : Nat} {f q : Pl} {lim use : Int} {w wr : World} (h : ExM S c qt aa i x f q lim use w wr) : Calls Tryz.prog 30 #[.pointer (some ⟨aa, 0, none⟩), .int .i64 (q.at_ : Int), .int .i64 ((costK q.kind : Nat) : Int)] wr fun r w' => ∃ g cap : Nat, r = .returned (.tuple #[.slice (some ⟨g, 0, none⟩) (costK q.kind) cap, .int .i64 0]) ∧ Below wr.heap.size wr w' ∧ g < w'.heap.size ∧ (∀ m, m < costK q.kind → w'.cell? ⟨g, m, none⟩ = some (.int .u8 0)) ∧ ExM S c qt aa i x f q lim use w w' := by
  have hc := costK_pos h.may
  obtain ⟨hr1, hr2⟩ := h.room
  have := read_ok (PL.sA (CO.sP h.st.sep)) q.at_ (costK q.kind) (by omega) hr1 hr2
  rw [h.s.aa] at this
  refine this.mono ?_
  rintro r w' ⟨v, rfl, hrow, hg⟩
  have hz : (S.P.a.mem.drop q.at_).take (costK q.kind) = List.replicate (costK q.kind) 0 := by
    apply List.ext_getElem?
    intro j
    rw [List.getElem?_take, List.getElem?_replicate]
    split
    · rw [List.getElem?_drop]
      exact h.zero _ (by omega) (by omega)
    · rfl
  rw [hz] at hrow
  have hb : Below wr.heap.size wr w' := ⟨hg.os, hg.tape, hg.output, hg.size, fun k hk => hg.block k hk (fun e => by cases e)⟩
  rcases hrow.2 with ⟨_, h0⟩ | ⟨g, cap, cur, rfl, hgb, hgc, hn, hm, hs, htk⟩
  · rw [List.length_replicate] at h0; omega
  · refine ⟨g, cap, by rw [List.length_replicate], hb, lt_of_block hgc, fun m hm' => ?_, h.grown hb⟩
    have hv : (bcells (List.replicate (costK q.kind) 0))[m]? = some (.int .u8 0) := by
      unfold bcells
      rw [List.getElem?_map, List.getElem?_replicate, if_pos hm']; rfl
    rw [← htk, List.getElem?_take] at hv
    split at hv
    · simp only [World.cell?, hgc, Option.isSome_none, Bool.false_eq_true, if_false]
      rw [← Array.getElem?_toList]; exact hv
    · cases hv
theorem exm_use {S : CO} {c qt aa i x : Nat} {f q : Pl} {lim use : Int} {w wr : World} (h : ExM S c qt aa i x f q lim use w wr) : Calls Tryz.prog 28 #[.pointer (some ⟨qt, 0, none⟩), .int .i64 1] wr fun r w' => r = .returned (.int .i64 (use + ((costK q.kind : Nat) : Int))) ∧ Below wr.heap.size wr w' ∧ ExM S c qt aa i x f q lim use w w' ∧
    Calls Tryz.prog 27 #[.pointer (some ⟨qt, 0, none⟩), .int .i64 1] w' fun r w2 => r = .returned (.int .i64 lim) ∧ w' = w2 := by
  obtain ⟨fr, ok⟩ := h.s.ok
  obtain ⟨e, he, e1, e2⟩ := h.acc
  have := quse_some (PL.sQ (CO.sP h.st.sep)) ok.inv.mem.pool.q he
  rw [h.s.qt, e2] at this
  unfold ptr at this
  refine this.mono ?_
  rintro r w' ⟨rfl, hb⟩
  have h' := h.grown hb
  refine ⟨rfl, hb, h', ?_⟩
  have := qlimit_some (PL.sQ (CO.sP h'.st.sep)) he
  rw [h.s.qt, e1] at this
  unfold ptr at this
  exact this
/-- What a Fill leaves. -/
def ExF (c qt aa i x : Nat) (q : Pl) (w wr : World) : Prop := ∃ (S : CO) (f : Pl), ExS S c qt aa (2 + (i + 1)) i f ∧ S.ts = [] ∧ pget S.l 1 x = some q ∧ q.kind ≠ 1 ∧ x ≠ 0 ∧ x ≠ 1 ∧ Step [] S.hl w wr
theorem ExF.at {c qt aa i x : Nat} {q : Pl} {w wr : World} (h : ExF c qt aa i x q w wr) : ExAt c qt aa (i + 1) w wr := by
  obtain ⟨S, f, ⟨ec, ⟨fr, ok⟩, eq, ea, hf, hk1, ho1, hper, htop, hps, hlv⟩, hts, _, _, _, _, st⟩ := h
  exact ⟨S, f, ⟨ec, ⟨fr, ok.mono (Nat.le_refl _) (by omega)⟩, eq, ea, hf, hk1, ho1, hper, htop, hps, hlv⟩, hts, st⟩
theorem exm_fill {S : CO} {c qt aa i x : Nat} {f q : Pl} {lim use : Int} {w wr : World} (h : ExM S c qt aa i x f q lim use w wr) {v : Nat} (hv : v < 256) : Calls Tryz.prog 31 #[.pointer (some ⟨aa, 0, none⟩), .int .i64 (q.at_ : Int), .int .i64 ((costK q.kind : Nat) : Int), .int .u8 (v : Int)] wr fun r w' => r = .returned (.int .i64 0) ∧ ExF c qt aa i x q w w' ∧ (∀ b k a o, Box S b k a o wr → w'.cell? ⟨b, 1, none⟩ = some (.int .i64 (a : Int))) := by
  have hc := costK_pos h.may
  obtain ⟨hr1, hr2⟩ := h.room
  obtain ⟨fr, ok⟩ := h.s.ok
  have ea0 := h.s.aa
  subst ea0
  have := fill_ok (PL.sA (CO.sP h.st.sep)) q.at_ (costK q.kind) v (by omega) hr1 hr2
  refine this.mono ?_
  rintro r w' ⟨rfl, st⟩
  have hi : q.is = true := Pl.is_iff.2 (.inl (pget_some.1 h.get).2.2)
  have hinv := ok.inv.fill (pget_some.1 h.get).1 hi (by have := h.may; omega) hv
  have st2 := CO.stepP h.st.sep (S.P.setA (put_ S.P.a.mem q.at_ (List.replicate (costK q.kind) v))) rfl (PL.stepA (CO.sP h.st.sep) _ st)
  obtain ⟨ec, _, eq, ea, hf, hk1, ho1, hper, htop, hps, hlv⟩ := h.s
  refine ⟨rfl, ⟨S.setP (S.P.setA (put_ S.P.a.mem q.at_ (List.replicate (costK q.kind) v))), f, ⟨ec, ⟨fr, hinv, ok.per, ok.due, ok.ord, ok.ov, ok.next, ok.now, ok.age⟩, eq, ea, hf, hk1, ho1, hper, htop, hps, hlv⟩, h.ts, h.get, by have := h.may; omega, h.x0, h.x1, h.st.trans st2⟩, fun b k a o hb => ?_⟩
  exact (hb.step st2).2.2.2.1
theorem exf_doom {c qt aa i x : Nat} {q : Pl} {w wr : World} (h : ExF c qt aa i x q w wr) (hi : i ≤ 60) : Calls Tryz.prog 19 #[.pointer (some ⟨c, 0, none⟩), .int .u32 (x : Int)] wr fun r w1 => r = .returned (.int .i64 0) ∧
    Calls Tryz.prog 20 #[.pointer (some ⟨c, 0, none⟩)] w1 fun r w2 => ∃ v cap, r = .returned (.slice v 1 cap) ∧ ExAt c qt aa (i + 1) w w2 := by
  obtain ⟨S, f, ⟨ec, ⟨fr, ok⟩, eq, ea, hf, hk1, ho1, hper, htop, hps, hlv⟩, hts, hx, hxk, hx0, hx1, st⟩ := h
  have hx32 : x < 4294967296 := by
    obtain ⟨a1, a2, _⟩ := pget_some.1 hx
    have := (ok.inv.lok.2 q (List.mem_of_getElem? a1)).2
    unfold nm at a2; omega
  have hkids : kids S.l x = [] := kids_none fun p hp => by rw [hx] at hp; cases hp; exact hxk
  have := cdoom_any st.sep ok (by omega) hx32
  rw [ec] at this
  refine this.mono ?_
  rintro r w1 (⟨e, _⟩ | ⟨_, e, _⟩ | ⟨_, _, e, _⟩ | ⟨p, rv, hp, _, hk, hov, rfl, st1⟩)
  · rw [hx] at e; cases e
  · exact absurd e hx0
  · exact absurd hkids e
  · rw [hx] at hp; cases hp
    refine ⟨rfl, ?_⟩
    have ok1 := ok.doomed hx hx0 hkids hov
    have st01 := st.trans st1
    have := ctick_any st01.sep ok1 (by omega)
    have ec1 : (S.doomed x q rv).c = c := ec
    rw [ec1] at this
    refine this.mono ?_
    rintro r w2 ⟨rv2, S', fr', v, rfl, hrow, hov2, htk, ok', st2, hoff⟩
    have ets : (S.doomed x q rv).ts = [(x, S.now + 1)] := by show S.ts ++ [(x, S.now + S.period)] = _; rw [hts, hper]; rfl
    have enow : (S.doomed x q rv).now = S.now := rfl
    have eN : dueN (S.doomed x q rv) = [x] := by unfold dueN; rw [ets, enow]; simp
    have eT : dueT (S.doomed x q rv) = [] := by unfold dueT; rw [ets, enow]; simp
    rw [eN] at hrow htk
    obtain ⟨va, cap, rfl, _⟩ := row_aside (L := [x]) hrow hoff
    obtain ⟨x1, x2, x3⟩ := pget_some.1 hx
    have hl0 : S.l.length ≤ 256 := by rw [ok.inv.len]; exact Nat.le_refl _
    have hl' : S'.l.length ≤ 256 := by rw [ok'.inv.len]; exact Nat.le_refl _
    have hld : (S.l.set (x % 256) { q with st := 2 }).length ≤ 256 := by rw [List.length_set]; exact hl0
    have hlive := live_same (l := S.l.set (x % 256) { q with st := 2 }) hld hl' fun y => htk.live y
    have hne : (1 : Nat) % 256 ≠ x % 256 := fun e => hx1 ((pget_same hf hx e).1).symm
    refine ⟨va, cap, rfl, S', f, ⟨htk.c.trans ec, ⟨fr', ok'⟩, ?_, ?_, ?_, hk1, ho1, htk.per.trans hper, ?_, ?_, ?_⟩, ?_, st01.trans st2⟩
    · rw [htk.same.qt]; exact eq
    · rw [htk.same.aa]; exact ea
    · rw [htk.live]
      show pget (S.l.set (x % 256) { q with st := 2 }) 1 1 = some f
      rw [pget_set _ x1, if_neg hne]; exact hf
    · rw [htk.same.top]; exact htop
    · exact Nat.le_trans htk.few hps
    · rw [hlive]
      exact Nat.le_trans (allL_drop x1 (by show (2 : Nat) ≠ 1; omega)) hlv
    · rw [htk.ts]; exact eT
end Go.Proofs.YtcnbbenmlffgpaaGreatDoor

/- CoreGrace, one call behind the other. Conditions: the blocks hold what CO.hl says. -/
namespace Go.Proofs.YtcnbbenmlffgpaaGreatDoor
open Go.RowKit

/-- The object 1 is a zombie, of a core that has had i ticks of n. -/
structure GrS (S : CO) (c n N K i : Nat) (q : Pl) (bo : Nat) (w wr : World) : Prop where
  c : S.c = c
  ok : ∃ fr, S.Ok fr N K
  now : S.now = i
  per : S.period = n
  get : pget S.l 2 1 = some q
  may : 2 ≤ q.kind ∧ q.kind ≤ 5
  ts : ∃ T, S.ts = (1, n) :: T ∧ ∀ t ∈ T, n ≤ t.2
  mem : ∀ j, q.at_ ≤ j → j < q.at_ + costK q.kind → S.P.a.mem[j]? = some 7
  st : Step [] S.hl w wr
  box : Box S bo q.kind q.at_ q.fac wr
def GrP (c n N K i : Nat) (q : Pl) (bo : Nat) (w wr : World) : Prop := ∃ S : CO, GrS S c n N K i q bo w wr
def GrE (c N K : Nat) (w wr : World) : Prop := ∃ (S : CO) (fr : List Nat), S.c = c ∧ S.Ok fr N K ∧ Old S.l 1 ∧ Step [] S.hl w wr
section
variable {S : CO} {c n N K i bo : Nat} {q : Pl} {w wr : World}
theorem GrS.grown (h : GrS S c n N K i q bo w wr) {w' : World} (hb : Below wr.heap.size wr w') : GrS S c n N K i q bo w w' :=
  ⟨h.c, h.ok, h.now, h.per, h.get, h.may, h.ts, h.mem, h.st.trans (h.st.sep.grown hb), h.box.grown hb⟩
theorem GrS.mono (h : GrS S c n N K i q bo w wr) {N' K' : Nat} (h1 : N ≤ N') (h2 : K ≤ K') : GrS S c n N' K' i q bo w wr := by
  obtain ⟨fr, ok⟩ := h.ok
  exact ⟨h.c, ⟨fr, ok.mono h1 h2⟩, h.now, h.per, h.get, h.may, h.ts, h.mem, h.st, h.box⟩
theorem gr_any (h : GrS S c n N K i q bo w wr) : Calls Tryz.prog 22 #[.pointer (some ⟨c, 0, none⟩), .int .u32 1] wr fun r w' => r = .returned (.tuple #[.agg #[.int .i64 (q.kind : Int), .int .i64 (q.at_ : Int), .int .i64 (q.fac : Int)], .bool true]) ∧ GrS S c n N K i q bo w w' := by
  obtain ⟨fr, ok⟩ := h.ok
  have := cany_any h.st.sep ok.inv.lok (x := 1) (by omega)
  unfold anyV at this
  rw [h.c, h.get] at this
  exact this.mono fun r w' ⟨e, hb⟩ => ⟨e, h.grown hb⟩
theorem GrS.room (h : GrS S c n N K i q bo w wr) : q.at_ + costK q.kind ≤ S.P.a.mem.length ∧ S.P.a.mem.length ≤ 1073741824 := by
  obtain ⟨fr, ok⟩ := h.ok
  exact ⟨obj_in ok.inv.mem (pget_mem h.get) (Pl.is_iff.2 (.inr (pget_some.1 h.get).2.2)), mem_bound ok.inv.mem.pool⟩
theorem gr_arena (h : GrS S c n N K i q bo w wr) : ∃ pp aa : Nat, (Calls Tryz.prog 24 #[.pointer (some ⟨c, 0, none⟩)] wr fun r w' => r = .returned (.pointer (some ⟨pp, 0, none⟩)) ∧ wr = w') ∧
    (Calls Tryz.prog 25 #[.pointer (some ⟨pp, 0, none⟩)] wr fun r w' => r = .returned (.pointer (some ⟨aa, 0, none⟩)) ∧ wr = w') ∧
    (Calls Tryz.prog 30 #[.pointer (some ⟨aa, 0, none⟩), .int .i64 (q.at_ : Int), .int .i64 ((costK q.kind : Nat) : Int)] wr fun r w' => ∃ g cap : Nat, r = .returned (.tuple #[.slice (some ⟨g, 0, none⟩) (costK q.kind) cap, .int .i64 0]) ∧ w'.cell? ⟨bo, 1, none⟩ = some (.int .i64 (q.at_ : Int)) ∧ g < w'.heap.size ∧ (∀ m, m < costK q.kind → w'.cell? ⟨g, m, none⟩ = some (.int .u8 7)) ∧ Below wr.heap.size wr w' ∧ GrS S c n N K i q bo w w') := by
  have hm := cmemory_any h.st.sep
  rw [h.c] at hm
  refine ⟨S.P.p, S.P.a.a, hm, parena_any (CO.sP h.st.sep), ?_⟩
  have hc := costK_pos (k := q.kind) (.inr h.may)
  obtain ⟨hr1, hr2⟩ := h.room
  refine (read_ok (PL.sA (CO.sP h.st.sep)) q.at_ (costK q.kind) (by omega) hr1 hr2).mono ?_
  rintro r w' ⟨v, rfl, hrow, hg⟩
  have hz : (S.P.a.mem.drop q.at_).take (costK q.kind) = List.replicate (costK q.kind) 7 := by
    apply List.ext_getElem?
    intro j
    rw [List.getElem?_take, List.getElem?_replicate]
    split
    · rw [List.getElem?_drop]
      exact h.mem _ (by omega) (by omega)
    · rfl
  rw [hz] at hrow
  have hb : Below wr.heap.size wr w' := ⟨hg.os, hg.tape, hg.output, hg.size, fun k hk => hg.block k hk (fun e => by cases e)⟩
  have h' := h.grown hb
  rcases hrow.2 with ⟨_, h0⟩ | ⟨g, cap, cur, rfl, hgb, hgc, hn, hm, hs, htk⟩
  · rw [List.length_replicate] at h0; omega
  · refine ⟨g, cap, by rw [List.length_replicate], h'.box.2.2.2.1, lt_of_block hgc, fun m hm' => ?_, hb, h'⟩
    have hv : (bcells (List.replicate (costK q.kind) 7))[m]? = some (.int .u8 7) := by
      unfold bcells
      rw [List.getElem?_map, List.getElem?_replicate, if_pos hm']; rfl
    rw [← htk, List.getElem?_take] at hv
    split at hv
    · simp only [World.cell?, hgc, Option.isSome_none, Bool.false_eq_true, if_false]
      rw [← Array.getElem?_toList]; exact hv
    · cases hv
theorem gr_left (h : GrS S c n N K i q bo w wr) (hK : K ≤ 1048576) : Calls Tryz.prog 23 #[.pointer (some ⟨c, 0, none⟩), .int .u32 1] wr fun r w' => r = .returned (.int .i64 ((n : Int) - (i : Int))) ∧ Below wr.heap.size wr w' ∧ GrS S c n N K i q bo w w' := by
  obtain ⟨fr, ok⟩ := h.ok
  obtain ⟨T, hT, _⟩ := h.ts
  have := cleft_any h.st.sep ok hK (x := 1) (by omega)
  have e : leftQ S.ts S.now 1 = (n : Int) - (i : Int) := by
    unfold leftQ
    rw [hT, h.now]; simp
  rw [h.c, e] at this
  exact this.mono fun r w' ⟨e, hb⟩ => ⟨e, hb, h.grown hb⟩
theorem gr_zombies (h : GrS S c n N K i q bo w wr) : Calls Tryz.prog 32 #[.pointer (some ⟨c, 0, none⟩)] wr fun r w' => ∃ a len cap, r = .returned (.slice a len cap) ∧ 0 < len ∧ len ≤ 256 ∧ Below wr.heap.size wr w' ∧ GrS S c n N K i q bo w w' := by
  obtain ⟨fr, ok⟩ := h.ok
  have := czombies_any h.st.sep ok.inv.lok
  rw [h.c] at this
  refine this.mono ?_
  intro r w' hr
  obtain ⟨a, cap, rfl, hb, _⟩ := hr.shape
  have hl : S.l.length ≤ 256 := by rw [ok.inv.lok.1]; exact Nat.le_refl _
  have hm : 1 ∈ allL S.l 2 := (mem_all hl).2 ⟨q, h.get⟩
  exact ⟨a, _, cap, rfl, List.length_pos_of_mem hm, Nat.le_trans (allTo_len S.l 2 S.l.length) hl, hb, h.grown hb⟩
theorem gr_play (h : GrS S c n N K i q bo w wr) (hN : N + 1 < 1048576) (hK : K + 20 < 1048575) (hin : 0 < n) (x : A5) (hx : x.Wf) (hk : x.kind ≠ 4) : Calls Tryz.prog 14 #[.pointer (some ⟨c, 0, none⟩), .agg #[.int .i64 x.kind, .int .i64 x.n, .int .i64 x.k, .int .i64 x.m, .int .u32 x.h]] wr fun r w' => r = .returned (.tuple #[]) ∧ GrP c n (N + 1) (K + 20) i q bo w w' := by
  obtain ⟨fr, ok⟩ := h.ok
  have := play_any h.st.sep ok hN hK x hx
  rw [h.c] at this
  refine this.mono ?_
  rintro r w' ⟨rfl, _, hn⟩
  obtain ⟨S', fr', ok', wt, en, st'⟩ := hn hk
  obtain ⟨z1, z2⟩ := wt.zombie en 1 q h.get
  obtain ⟨T, hT, hTd⟩ := h.ts
  obtain ⟨U, hU, hUd⟩ := wt.queue en
  refine ⟨rfl, S', wt.c.trans h.c, ⟨fr', ok'⟩, en.trans h.now, wt.per.trans h.per, z1, h.may, ⟨T ++ U, by rw [hU, hT]; rfl, fun t ht => ?_⟩, fun j h1 h2 => (z2 j h1 h2).trans (h.mem j h1 h2), h.st.trans st', h.box.step st'⟩
  rcases List.mem_append.1 ht with ht | ht
  · exact hTd t ht
  · rw [hUd t ht, h.per]; omega
theorem gr_tick (h : GrS S c n N K i q bo w wr) (hK : K < 1048575) (hi : i + 1 < n) : Calls Tryz.prog 20 #[.pointer (some ⟨c, 0, none⟩)] wr fun r w' => (∃ v cap, r = .returned (.slice v 0 cap)) ∧ GrP c n N (K + 1) (i + 1) q bo w w' := by
  obtain ⟨fr, ok⟩ := h.ok
  obtain ⟨T, hT, hTd⟩ := h.ts
  have := ctick_any h.st.sep ok hK
  rw [h.c] at this
  refine this.mono ?_
  rintro r w' ⟨rv, S', fr', v, rfl, hrow, hov, htk, ok', st', hoff⟩
  have eN : dueN S = [] := by
    unfold dueN
    rw [hT, h.now, List.takeWhile_cons, if_neg (by simp; omega)]; rfl
  have eT : dueT S = S.ts := by
    unfold dueT
    rw [hT, h.now, List.dropWhile_cons, if_neg (by simp; omega)]
  rw [eN] at hrow htk
  obtain ⟨va, cap, rfl, _⟩ := row_aside (L := []) hrow hoff
  refine ⟨⟨va, cap, rfl⟩, S', htk.c.trans h.c, ⟨fr', ok'⟩, ?_, htk.per.trans h.per, ?_, h.may, ⟨T, ?_, hTd⟩, fun j h1 h2 => ?_, h.st.trans st', h.box.step st'⟩
  · rw [htk.now]; show S.now + 1 = _; rw [h.now]
  · exact htk.keep 1 q (by simp) h.get
  · rw [htk.ts]; show dueT S = _; rw [eT, hT]
  · rw [htk.mem]; exact h.mem j h1 h2
theorem gr_tickn (h : GrS S c n N K i q bo w wr) (hK : K < 1048575) (hi : i + 1 = n) : Calls Tryz.prog 20 #[.pointer (some ⟨c, 0, none⟩)] wr fun r w' => (∃ g len cap, r = .returned (.slice (some ⟨g, 0, none⟩) len cap) ∧ 0 < len ∧ len ≤ 256 ∧ w'.cell? ⟨g, 0, none⟩ = some (.int .u32 1)) ∧ GrE c N (K + 1) w w' := by
  obtain ⟨fr, ok⟩ := h.ok
  obtain ⟨T, hT, hTd⟩ := h.ts
  have hdl := dueN_len ok
  have := ctick_any h.st.sep ok hK
  rw [h.c] at this
  refine this.mono ?_
  rintro r w' ⟨rv, S', fr', v, rfl, hrow, hov, htk, ok', st', hoff⟩
  obtain ⟨D, eN⟩ : ∃ D, dueN S = 1 :: D := by
    unfold dueN
    rw [hT, h.now, List.takeWhile_cons, if_pos (by simp; omega)]
    exact ⟨_, rfl⟩
  have hgone := htk.gone 1 (by rw [eN]; simp)
  obtain ⟨va, cap, rfl, hsd⟩ := row_aside hrow hoff
  obtain ⟨g, rfl, _, _, hc⟩ := hsd 0 1 (by rw [eN]; rfl)
  refine ⟨⟨g, _, cap, rfl, by rw [eN]; simp, hdl, hc⟩, S', fr', htk.c.trans h.c, ok', hgone, h.st.trans st'⟩
theorem gr_end (h : GrE c N K w wr) (hK : K ≤ 1048576) : Calls Tryz.prog 22 #[.pointer (some ⟨c, 0, none⟩), .int .u32 1] wr fun r w1 => r = .returned (.tuple #[.agg #[.int .i64 0, .int .i64 0, .int .i64 0], .bool false]) ∧ Below w.heap.size w w1 ∧ ∀ w2, Below w1.heap.size w1 w2 →
    Calls Tryz.prog 23 #[.pointer (some ⟨c, 0, none⟩), .int .u32 1] w2 fun r w3 => r = .returned (.int .i64 0) ∧ Below w.heap.size w w3 := by
  obtain ⟨S, fr, ec, ok, hold, st⟩ := h
  have h1 := hold.none 1
  have h2 := hold.none 2
  have := cany_any st.sep ok.inv.lok (x := 1) (by omega)
  unfold anyV at this
  rw [ec, h2, h1] at this
  refine this.mono ?_
  rintro r w1 ⟨rfl, hb⟩
  have st1 := st.trans (st.sep.grown hb)
  refine ⟨rfl, st1.fresh, fun w2 hb2 => ?_⟩
  have st2 := st1.trans (st1.sep.grown hb2)
  have := cleft_any st2.sep ok hK (x := 1) (by omega)
  have e : leftQ S.ts S.now 1 = 0 := by
    unfold leftQ
    rw [List.find?_eq_none.2 (fun t ht => by
      have : t.1 ≠ 1 := fun e => by
        obtain ⟨p, hp⟩ := (ok.inv.que.has 1).1 (List.mem_map.2 ⟨t, ht, e⟩)
        rw [h2] at hp; cases hp
      simpa using this)]
  rw [ec, e] at this
  refine this.mono ?_
  rintro r w3 ⟨rfl, hb3⟩
  exact ⟨rfl, (st2.trans (st2.sep.grown hb3)).fresh⟩
end
end Go.Proofs.YtcnbbenmlffgpaaGreatDoor

/- CoreGrace, one call behind the other: how it begins. Conditions: the blocks hold what CO.hl says. -/
namespace Go.Proofs.YtcnbbenmlffgpaaGreatDoor
open Go.RowKit

/-- The object 1 is live; no tick yet. -/
structure GrL (S : CO) (c n : Nat) (q : Pl) (w wr : World) : Prop where
  c : S.c = c
  ok : ∃ fr, S.Ok fr 2 0
  now : S.now = 0
  per : S.period = n
  get : pget S.l 1 1 = some q
  may : 2 ≤ q.kind ∧ q.kind ≤ 5
  ts : S.ts = []
  st : Step [] S.hl w wr
section
variable {S : CO} {c n : Nat} {q : Pl} {w wr : World}
theorem GrL.grown (h : GrL S c n q w wr) {w' : World} (hb : Below wr.heap.size wr w') : GrL S c n q w w' :=
  ⟨h.c, h.ok, h.now, h.per, h.get, h.may, h.ts, h.st.trans (h.st.sep.grown hb)⟩
theorem GrL.room (h : GrL S c n q w wr) : q.at_ + costK q.kind ≤ S.P.a.mem.length ∧ S.P.a.mem.length ≤ 1073741824 := by
  obtain ⟨fr, ok⟩ := h.ok
  exact ⟨obj_in ok.inv.mem (pget_mem h.get) (Pl.is_iff.2 (.inl (pget_some.1 h.get).2.2)), mem_bound ok.inv.mem.pool⟩
theorem gl_of (h : GrL S c n q w wr) : Calls Tryz.prog 18 #[.pointer (some ⟨c, 0, none⟩), .int .u32 1, .int .i64 (q.kind : Int)] wr fun r w' => r = .returned (.tuple #[.agg #[.int .i64 (q.kind : Int), .int .i64 (q.at_ : Int), .int .i64 (q.fac : Int)], .int .i64 0]) ∧ GrL S c n q w w' := by
  obtain ⟨fr, ok⟩ := h.ok
  have := cof_some h.st.sep ok.inv.lok (x := 1) (by omega) (q.kind : Int) h.get (.inr rfl)
  rw [h.c] at this
  exact this.mono fun r w' ⟨e, hb⟩ => ⟨e, h.grown hb⟩
/-- Memory, Arena, Fill, and two Dooms. -/
theorem gl_fill (h : GrL S c n q w wr) {bo : Nat} (hbx : Box S bo q.kind q.at_ q.fac wr) (hn : 0 < n) : ∃ pp aa : Nat, (Calls Tryz.prog 24 #[.pointer (some ⟨c, 0, none⟩)] wr fun r w' => r = .returned (.pointer (some ⟨pp, 0, none⟩)) ∧ wr = w') ∧
    (Calls Tryz.prog 25 #[.pointer (some ⟨pp, 0, none⟩)] wr fun r w' => r = .returned (.pointer (some ⟨aa, 0, none⟩)) ∧ wr = w') ∧
    (Calls Tryz.prog 31 #[.pointer (some ⟨aa, 0, none⟩), .int .i64 (q.at_ : Int), .int .i64 ((costK q.kind : Nat) : Int), .int .u8 7] wr fun r w1 => r = .returned (.int .i64 0) ∧ w1.cell? ⟨bo, 1, none⟩ = some (.int .i64 (q.at_ : Int)) ∧
      Calls Tryz.prog 19 #[.pointer (some ⟨c, 0, none⟩), .int .u32 1] w1 fun r w2 => r = .returned (.int .i64 0) ∧ w2.cell? ⟨bo, 1, none⟩ = some (.int .i64 (q.at_ : Int)) ∧
        Calls Tryz.prog 19 #[.pointer (some ⟨c, 0, none⟩), .int .u32 1] w2 fun r w3 => r = .returned (.int .i64 8) ∧ w3.cell? ⟨bo, 1, none⟩ = some (.int .i64 (q.at_ : Int)) ∧ GrP c n 2 0 0 { q with st := 2 } bo w w3) := by
  obtain ⟨fr, ok⟩ := h.ok
  have hm := cmemory_any h.st.sep
  rw [h.c] at hm
  refine ⟨S.P.p, S.P.a.a, hm, parena_any (CO.sP h.st.sep), ?_⟩
  have hc := costK_pos (k := q.kind) (.inr h.may)
  obtain ⟨hr1, hr2⟩ := h.room
  refine (fill_ok (PL.sA (CO.sP h.st.sep)) q.at_ (costK q.kind) 7 (by omega) hr1 hr2).mono ?_
  rintro r w1 ⟨rfl, st⟩
  have hi : q.is = true := Pl.is_iff.2 (.inl (pget_some.1 h.get).2.2)
  have hinv := ok.inv.fill (pget_some.1 h.get).1 hi (by have := h.may; omega) (show (7 : Nat) < 256 by omega)
  have st2 := CO.stepP h.st.sep (S.P.setA (put_ S.P.a.mem q.at_ (List.replicate (costK q.kind) 7))) rfl (PL.stepA (CO.sP h.st.sep) _ st)
  have hbx1 := hbx.step st2
  obtain ⟨S1, hS1⟩ : ∃ S1 : CO, S1 = S.setP (S.P.setA (put_ S.P.a.mem q.at_ (List.replicate (costK q.kind) 7))) := ⟨_, rfl⟩
  rw [← hS1] at st2 hbx1
  have ok1 : S1.Ok fr 2 0 := by rw [hS1]; exact ⟨hinv, ok.per, ok.due, ok.ord, ok.ov, ok.next, ok.now, ok.age⟩
  have hget1 : pget S1.l 1 1 = some q := by rw [hS1]; exact h.get
  have hc1 : S1.c = c := by rw [hS1]; exact h.c
  have hts1 : S1.ts = [] := by rw [hS1]; exact h.ts
  have hnow1 : S1.now = 0 := by rw [hS1]; exact h.now
  have hper1 : S1.period = n := by rw [hS1]; exact h.per
  have hmem1 : ∀ j, q.at_ ≤ j → j < q.at_ + costK q.kind → S1.P.a.mem[j]? = some 7 := fun j h1 h2 => by
    rw [hS1]
    show (put_ S.P.a.mem q.at_ (List.replicate (costK q.kind) 7))[j]? = some 7
    have : j = q.at_ + (j - q.at_) := by omega
    rw [this, put_in (by rw [List.length_replicate]; exact hr1) (by rw [List.length_replicate]; omega), List.getElem?_replicate, if_pos (by omega)]
  have st3 := h.st.trans st2
  refine ⟨rfl, hbx1.2.2.2.1, ?_⟩
  have hkids : kids S1.l 1 = [] := kids_none fun p hp => by rw [hget1] at hp; cases hp; have := h.may; omega
  have hd := cdoom_any st3.sep ok1 (by omega) (x := 1) (by omega)
  rw [hc1] at hd
  refine hd.mono ?_
  rintro r w2 (⟨e, _⟩ | ⟨_, e, _⟩ | ⟨_, _, e, _⟩ | ⟨p, rv, hp, h0, hk, hov, rfl, st4⟩)
  · rw [hget1] at e; cases e
  · cases e
  · exact absurd hkids e
  · rw [hget1] at hp; cases hp
    refine ⟨rfl, (hbx1.step st4).2.2.2.1, ?_⟩
    have ok2 := ok1.doomed hget1 h0 hkids hov
    have st5 := st3.trans st4
    obtain ⟨x1, x2, x3⟩ := pget_some.1 hget1
    have hnone : pget (S1.doomed 1 q rv).l 1 1 = none := by
      show pget (S1.l.set (1 % 256) { q with st := 2 }) 1 1 = none
      rw [pget_set _ x1, if_pos rfl, if_neg (by rintro ⟨_, h⟩; cases h)]
    have hzom : pget (S1.doomed 1 q rv).l 2 1 = some { q with st := 2 } := by
      show pget (S1.l.set (1 % 256) { q with st := 2 }) 2 1 = _
      rw [pget_set _ x1, if_pos rfl, if_pos ⟨x2, rfl⟩]
    have hd2 := cdoom_any st5.sep ok2 (by omega) (x := 1) (by omega)
    have hc2 : (S1.doomed 1 q rv).c = c := hc1
    rw [hc2] at hd2
    refine hd2.mono ?_
    rintro r w3 (⟨_, rfl, st6⟩ | ⟨e, _⟩ | ⟨e, _⟩ | ⟨p, rv2, hp2, _⟩)
    · refine ⟨rfl, ((hbx1.step st4).step st6).2.2.2.1, S1.doomed 1 q rv, hc1, ⟨fr, ok2⟩, hnow1, hper1, hzom, h.may, ⟨[], ?_, by simp⟩, hmem1, st5.trans st6, (hbx1.step st4).step st6⟩
      · show S1.ts ++ [(1, S1.now + S1.period)] = _
        rw [hts1, hnow1, hper1, Nat.zero_add]; rfl
    · exact absurd hnone e
    · exact absurd hnone e
    · rw [hnone] at hp2; cases hp2
end
set_option maxRecDepth 10000 in
theorem gl_first {S : CO} {n : Nat} {w wr : World} (hf : FreshO S 6 65536 n) (st : Step [] S.hl w wr) {k : Nat} (hk : 2 ≤ k ∧ k ≤ 5) :
    Calls Tryz.prog 21 #[.pointer (some ⟨S.c, 0, none⟩), .int .u32 0, .int .i64 (k : Int), .int .i64 0] wr fun r w1 => r = .returned (.tuple #[.int .u32 1, .int .i64 0]) ∧ ∃ (S1 : CO) (q : Pl), q.kind = k ∧ GrL S1 S.c n q w w1 := by
  obtain ⟨b, hq⟩ := hf.q
  have hfe : find S.P.q.E 0 = some ⟨0, b, ⟨65536, 64, 0, -1, 0⟩⟩ := by rw [hq]; rfl
  have hc := costK_pos (k := k) (.inr hk)
  refine (cmake_any st.sep hf.ok (by omega) (x := 0) (by omega) (k : Int) 0).mono ?_
  intro r w1 hr
  obtain ⟨a, x, P', fr', rfl, hm, st2⟩ := hr.able (f := ⟨1, 64, 0, 1, 0, 0⟩) (by rw [hf.l]; rfl) (e := ⟨0, b, ⟨65536, 64, 0, -1, 0⟩⟩) (i := 1) (p := noPl 0) ⟨rfl, by omega, hfe, by show ((costK k : Nat) : Int) ≤ 65536 - (64 + 0); omega, by rw [hf.ps, hf.top]; decide, by
    rw [hf.l]
    exact fst_at rfl rfl fun j hj => ⟨⟨1, 64, 0, 1, 0, 0⟩, by rw [show j = 0 by omega]; rfl, by decide⟩, fun h => by omega⟩
  have hi : S.l[1]? = some (noPl 0) := by rw [hf.l]; rfl
  refine ⟨rfl, S.made ⟨1, 64, 0, 1, 0, 0⟩ k a x 1 (noPl 0) P', ⟨k, a, 0, 1, 0, x⟩, rfl, rfl, ⟨fr', hm.ok hf.ok hi⟩, hf.now, hf.period, ?_, hk, hf.ts, st.trans st2⟩
  show pget (S.l.set 1 _) 1 1 = _
  rw [pget_set _ hi, if_pos (by decide), if_pos ⟨rfl, rfl⟩]
  rfl
end Go.Proofs.YtcnbbenmlffgpaaGreatDoor
