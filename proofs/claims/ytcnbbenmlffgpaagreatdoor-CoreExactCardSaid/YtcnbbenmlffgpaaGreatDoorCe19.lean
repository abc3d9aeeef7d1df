/- CoreExact returns true at every input: an object is made just if what it costs is left of the account. No condition. Part of its proof. -/
import Derived.Test.YtcnbbenmlffgpaaGreatDoorCe18
import Derived.Test.YtcnbbenmlffgpaaGreatDoorCe17
import Derived.Deep.RegionHeld3
import Derived.Deep.Cut
import Derived.Test.YtcnbbenmlffgpaaGreatDoorCe01
import Derived.Lib.LaidTab
import Derived.LaidMore
import Derived.MakeChecks
import Derived.Stop.LaidErr
import Derived.Test.YtcnbbenmlffgpaaGreatDoorRows
import Derived.WalkKit
import Derived.ProofKit
import Derived.OpenShut
import Derived.ShutString
import Derived.Below
import Derived.Stop.Joined
set_option linter.unusedVariables false
/- Objects of a core lie apart; what is filled into one leaves all others. No condition. -/
namespace Go.Proofs.YtcnbbenmlffgpaaGreatDoor
open Go.RowKit

theorem obj_in {P : PL} {l : List Pl} {fr : List Nat} (m : MemI P l fr) {p : Pl} (hp : p ∈ l) (hi : p.is = true) : p.at_ + costK p.kind ≤ P.a.mem.length := by
  by_cases h8 : p.kind = 8
  · obtain ⟨g, hg, e⟩ := m.frame hp hi h8
    have := frame_mem m.pool hg
    rw [h8, costK_8]; omega
  · have := used_in_mem m.pool (m.used hp hi h8)
    rw [costK_ne h8]; omega
theorem objects_apart {P : PL} {l : List Pl} {fr : List Nat} (m : MemI P l fr) {i j : Nat} {p r : Pl} (hij : i ≠ j) (hi : l[i]? = some p) (hj : l[j]? = some r) (hp : p.is = true) (hr : r.is = true) : p.at_ + costK p.kind ≤ r.at_ ∨ r.at_ + costK r.kind ≤ p.at_ := by
  have hpm := List.mem_of_getElem? hi
  have hrm := List.mem_of_getElem? hj
  by_cases hp8 : p.kind = 8
  · obtain ⟨g, hg, eg⟩ := m.frame hpm hp hp8
    by_cases hr8 : r.kind = 8
    · obtain ⟨g', hg', eg'⟩ := m.frame hrm hr hr8
      have hnd : (atsOf l 8).Nodup := by
        refine m.frs.nodup_iff.2 ?_
        unfold List.Nodup
        rw [List.pairwise_map]
        exact (frames_nd m.pool).1.imp fun h e => h (by omega)
      have : g ≠ g' := fun e => hij (fmp_inj (atsF 8) hnd hi hj (b := p.at_) (by rw [← hp8]; exact atsF_some hp) (by rw [← hr8, atsF_some hr, eg', ← e, eg]))
      rw [hp8, hr8, costK_8]; omega
    · have := frame_used m.pool hg (m.used hrm hr hr8)
      rw [hp8, costK_8, costK_ne hr8]; omega
  · have hu := m.used hpm hp hp8
    by_cases hr8 : r.kind = 8
    · obtain ⟨g', hg', eg'⟩ := m.frame hrm hr hr8
      have := frame_used m.pool hg' hu
      rw [hr8, costK_8, costK_ne hp8]; omega
    · have hv := m.used hrm hr hr8
      rw [costK_ne hp8, costK_ne hr8]
      refine used_two m.pool hu hv fun e => ?_
      obtain ⟨k1, k5⟩ := (m.kind p hpm hp).resolve_left hp8
      exact hij (fmp_inj (atsF p.kind) (m.at_nd p.kind k1 k5) hi hj (b := p.at_) (atsF_some hp) (by rw [e.1, atsF_some hr, e.2]))
/-- Bytes of an object that is no factory are filled. -/
theorem Inv.fill {P : PL} {l : List Pl} {fr : List Nat} {xc : Int → Int} {zs : List Nat} (v : Inv P l fr xc zs) {i : Nat} {p : Pl} (hi : l[i]? = some p) (hp : p.is = true) (hk : p.kind ≠ 1) {c : Nat} (hc : c < 256) : Inv (P.setA (put_ P.a.mem p.at_ (List.replicate (costK p.kind) c))) l fr xc zs := by
  have hin := obj_in v.mem (List.mem_of_getElem? hi) hp
  have hl : (put_ P.a.mem p.at_ (List.replicate (costK p.kind) c)).length = P.a.mem.length := put_len _ _ _ (by rw [List.length_replicate]; exact hin)
  have ok := PL.ok_setA v.mem.pool hl (by
    intro y hy
    unfold put_ at hy
    simp only [List.mem_append] at hy
    rcases hy with (hy | hy) | hy
    · exact v.mem.pool.bytes y (List.mem_of_mem_take hy)
    · rw [List.eq_of_mem_replicate hy]; exact hc
    · exact v.mem.pool.bytes y (List.mem_of_mem_drop hy))
  refine ⟨v.len, v.st, v.mem.same ok (fun _ _ _ => rfl) (fun b hb => ?_), v.tre, v.que⟩
  have hbm := (v.mem.ats 1 (by omega) (by omega)).mem_iff.2 hb
  obtain ⟨r, hrm, hrf⟩ := List.mem_filterMap.1 hbm
  unfold atsF at hrf
  split at hrf
  · rename_i hcnd
    simp only [Bool.and_eq_true, beq_iff_eq] at hcnd
    cases hrf
    obtain ⟨j, hj⟩ := List.mem_iff_getElem?.1 hrm
    have hap := objects_apart v.mem (i := i) (j := j) (fun e => by
      subst e
      rw [hi] at hj; cases hj
      exact hk hcnd.2) hi hj hp hcnd.1
    rw [hcnd.2] at hap
    have : costK 1 = 64 := rfl
    exact (kept_put (by rw [List.length_replicate]; exact hin) (by rw [List.length_replicate]; omega)).word
  · cases hrf
/-- How many are live. -/
theorem allTo_count (l : List Pl) (s : Nat) : ∀ k, k ≤ l.length → (allTo l s k).length = ((l.take k).filter fun p => decide (p.st = s)).length := by
  intro k
  induction k with
  | zero => intro _; simp [allTo_zero]
  | succ k ih =>
    intro hk
    have hg : l[k]? = some l[k] := List.getElem?_eq_getElem (by omega)
    rw [allTo_succ hg, List.take_add_one, hg, List.length_append, ih (by omega), List.filter_append, List.length_append]
    congr 1
    by_cases h : l[k].st = s <;> simp [h]
theorem allL_count (l : List Pl) (s : Nat) : (allL l s).length = (l.filter fun p => decide (p.st = s)).length := by
  unfold allL
  rw [allTo_count l s l.length (Nat.le_refl _), List.take_length]
theorem allL_add {l : List Pl} {i : Nat} {p q : Pl} (hi : l[i]? = some p) (s : Nat) : (allL (l.set i q) s).length ≤ (allL l s).length + 1 := by
  rw [allL_count, allL_count]
  obtain ⟨R, h1, h2⟩ := set_perm q hi
  rw [(h2.filter _).length_eq, (h1.filter _).length_eq, List.filter_cons, List.filter_cons]
  split <;> split <;> simp <;> omega
theorem allL_drop {l : List Pl} {i : Nat} {p q : Pl} (hi : l[i]? = some p) {s : Nat} (hq : q.st ≠ s) : (allL (l.set i q) s).length ≤ (allL l s).length := by
  rw [allL_count, allL_count]
  obtain ⟨R, h1, h2⟩ := set_perm q hi
  rw [(h2.filter _).length_eq, (h1.filter _).length_eq, List.filter_cons, List.filter_cons, if_neg (by simpa using hq)]
  split <;> simp
/-- All are live, zombies or empty: if few are live and none is a zombie, there is room. -/
theorem room_some {S : CO} {fr : List Nat} {N K : Nat} (ok : S.Ok fr N K) (hts : S.ts = []) (hf : (allL S.l 1).length < 256) : ∃ i p, Fst S.l i p := by
  have hex : ∃ p ∈ S.l, p.st = 0 := by
    apply Classical.byContradiction
    intro hno
    have hall : ∀ p ∈ S.l, p.st = 1 := fun p hp => by
      have h2 := (ok.inv.st p hp).1
      have h0 : p.st ≠ 0 := fun e => hno ⟨p, hp, e⟩
      have hz : p.st ≠ 2 := fun e => by
        obtain ⟨i, hi⟩ := List.mem_iff_getElem?.1 hp
        have hi256 : i < 256 := by have := (List.getElem?_eq_some_iff.1 hi).1; rw [ok.inv.len] at this; exact this
        have := (ok.inv.que.has (nm i p)).2 ⟨p, pget_some.2 ⟨by rw [nm_mod hi256]; exact hi, by rw [nm_mod hi256], e⟩⟩
        rw [hts] at this; cases this
      omega
    have : (allL S.l 1).length = S.l.length := by
      rw [allL_count, List.filter_eq_self.2 fun p hp => by simpa using hall p hp]
    rw [ok.inv.len] at this; omega
  have key : ∀ n : Nat, (∃ (i : Nat) (p : Pl), i < n ∧ S.l[i]? = some p ∧ p.st = 0) → ∃ i p, Fst S.l i p := by
    intro n
    induction n with
    | zero => rintro ⟨i, p, h, _⟩; omega
    | succ n ih =>
      rintro ⟨i, p, h1, h2, h3⟩
      by_cases he : ∃ (j : Nat) (q : Pl), j < n ∧ S.l[j]? = some q ∧ q.st = 0
      · exact ih he
      · have hin : i = n := by
          apply Classical.byContradiction
          intro hne
          exact he ⟨i, p, by omega, h2, h3⟩
        subst hin
        exact ⟨i, p, h2, h3, fun j q hj hq e => he ⟨j, q, hj, hq, e⟩⟩
  obtain ⟨p, hp, h0⟩ := hex
  obtain ⟨i, hi⟩ := List.mem_iff_getElem?.1 hp
  exact key (i + 1) ⟨i, p, by omega, hi, h0⟩
/-- The same are live. -/
theorem live_same {l l' : List Pl} (hl : l.length ≤ 256) (hl' : l'.length ≤ 256) (h : ∀ x, pget l' 1 x = pget l 1 x) : allL l' 1 = allL l 1 := by
  have hm : ∀ x, x ∈ allL l' 1 ↔ x ∈ allL l 1 := fun x => by rw [mem_all hl', mem_all hl, h]
  have srt : ∀ (u v : List Nat), u.Pairwise (fun a b => a % 256 < b % 256) → v.Pairwise (fun a b => a % 256 < b % 256) → (∀ x, x ∈ u ↔ x ∈ v) → u = v := by
    intro u
    induction u with
    | nil =>
      intro v _ _ hx
      cases v with
      | nil => rfl
      | cons y r => have := (hx y).2 (by simp); cases this
    | cons y r ih =>
      intro v hu hv hx
      cases v with
      | nil => have := (hx y).1 (by simp); cases this
      | cons z s =>
        obtain ⟨u1, u2⟩ := List.pairwise_cons.1 hu
        obtain ⟨v1, v2⟩ := List.pairwise_cons.1 hv
        have hyz : y = z := by
          rcases List.mem_cons.1 ((hx y).1 (by simp)) with e | e
          · exact e
          · rcases List.mem_cons.1 ((hx z).2 (by simp)) with e' | e'
            · exact e'.symm
            · have := u1 z e'
              have := v1 y e
              omega
        subst hyz
        congr 1
        refine ih s u2 v2 fun x => ?_
        constructor
        · intro h
          rcases List.mem_cons.1 ((hx x).1 (by simp [h])) with e | e
          · subst e; have := u1 x h; omega
          · exact e
        · intro h
          rcases List.mem_cons.1 ((hx x).2 (by simp [h])) with e | e
          · subst e; have := v1 x h; omega
          · exact e
  exact srt _ _ (all_sorted hl' 1) (all_sorted hl 1) hm
end Go.Proofs.YtcnbbenmlffgpaaGreatDoor

/- CoreExact, one call behind the other. Conditions: the blocks hold what CO.hl says. -/
namespace Go.Proofs.YtcnbbenmlffgpaaGreatDoor
open Go.RowKit

def kindE (m : Nat) : Nat := [2, 3, 4, 5, 8][m]?.getD 2
theorem kindE_may (m : Nat) : (kindE m = 8 ∨ 2 ≤ kindE m ∧ kindE m ≤ 5) := by
  unfold kindE
  match m with
  | 0 => decide
  | 1 => decide
  | 2 => decide
  | 3 => decide
  | 4 => decide
  | n + 5 => simp
/-- What the round keeps to: the factory 1, its account, how much of all is left. -/
structure ExS (S : CO) (c qt aa n K : Nat) (f : Pl) : Prop where
  c : S.c = c
  ok : ∃ fr, S.Ok fr (n + 1) K
  qt : S.P.q.t = qt
  aa : S.P.a.a = aa
  get : pget S.l 1 1 = some f
  kind : f.kind = 1
  own : f.own = 1
  per : S.period = 1
  top : S.P.d.top = 8
  ps : S.P.d.ps.length ≤ n
  live : (allL S.l 1).length ≤ n
def ExAt (c qt aa i : Nat) (w wr : World) : Prop := ∃ (S : CO) (f : Pl), ExS S c qt aa (2 + i) i f ∧ S.ts = [] ∧ Step [] S.hl w wr
theorem ExAt.fresh {c qt aa i : Nat} {w wr : World} (h : ExAt c qt aa i w wr) : Below w.heap.size w wr := by
  obtain ⟨S, f, _, _, st⟩ := h
  exact st.fresh
theorem costK_pos {k : Nat} (h : k = 8 ∨ 2 ≤ k ∧ k ≤ 5) : 32 ≤ costK k ∧ costK k ≤ 1024 := by
  have : k = 2 ∨ k = 3 ∨ k = 4 ∨ k = 5 ∨ k = 8 := by omega
  rcases this with rfl | rfl | rfl | rfl | rfl <;> decide
set_option maxHeartbeats 1000000 in
theorem cost16_any (w : World) {k : Nat} (hk : k = 8 ∨ 2 ≤ k ∧ k ≤ 5) : Calls Tryz.prog 29 #[.int .i64 (k : Int)] w fun r w' => r = .returned (.int .i64 ((costK k : Nat) : Int)) ∧ w = w' := by
  have : k = 2 ∨ k = 3 ∨ k = 4 ∨ k = 5 ∨ k = 8 := by omega
  rcases this with rfl | rfl | rfl | rfl | rfl
  all_goals
    go_enter Tryz.func29, Tryz.ntmps29
    try push_cast
    go_wp2_with fail
    go_ret
    exact ⟨rfl, rfl⟩
/-- The start of a round: limit and use, then a Make. -/
theorem ex_start {c qt aa i : Nat} {w wr : World} (h : ExAt c qt aa i w wr) (hi : i ≤ 60) : ∃ lim use : Int, 0 ≤ use ∧ use ≤ lim ∧ lim ≤ 1073741824 ∧ ∀ w1, Below wr.heap.size wr w1 →
    Calls Tryz.prog 27 #[.pointer (some ⟨qt, 0, none⟩), .int .i64 1] w1 fun r w2 => r = .returned (.int .i64 lim) ∧ w1 = w2 ∧
    Calls Tryz.prog 28 #[.pointer (some ⟨qt, 0, none⟩), .int .i64 1] w1 fun r w3 => r = .returned (.int .i64 use) ∧ ∀ k : Nat, (k = 8 ∨ 2 ≤ k ∧ k ≤ 5) →
    Calls Tryz.prog 21 #[.pointer (some ⟨c, 0, none⟩), .int .u32 1, .int .i64 (k : Int), .int .i64 0] w3 fun r w4 =>
      (lim - use < ((costK k : Nat) : Int) ∧ r = .returned (.tuple #[.int .u32 0, .int .i64 5]) ∧ ExAt c qt aa (i + 1) w w4) ∨
      (((costK k : Nat) : Int) ≤ lim - use ∧ ∃ (x : Nat) (S : CO) (f q : Pl) (e : En Fa), r = .returned (.tuple #[.int .u32 (x : Int), .int .i64 0]) ∧ ExS S c qt aa (2 + (i + 1)) i f ∧ S.ts = [] ∧ pget S.l 1 x = some q ∧ q.kind = k ∧ x ≠ 0 ∧ x ≠ 1 ∧ find S.P.q.E 1 = some e ∧ e.q.limit = lim ∧ e.q.charged + e.q.given = use + ((costK k : Nat) : Int) ∧
        (∀ j, q.at_ ≤ j → j < q.at_ + costK k → S.P.a.mem[j]? = some 0) ∧ Step [] S.hl w w4) := by
  obtain ⟨S, f, ⟨ec, ⟨fr, ok⟩, eq, ea, hf, hk1, ho1, hper, htop, hps, hlv⟩, hts, st⟩ := h
  have hfm := pget_mem hf
  have hfi : f.is = true := Pl.is_iff.2 (.inl (pget_some.1 hf).2.2)
  obtain ⟨e, he⟩ := ok.inv.tre.acc hfm hfi hk1
  have he1 : find S.P.q.E 1 = some e := by rw [ho1] at he; exact he
  obtain ⟨b1, b2, b3, b4, b5, _⟩ := ok.inv.mem.pool.q.fa _ e he
  refine ⟨e.q.limit, e.q.charged + e.q.given, by omega, by omega, by omega, fun w1 hb => ?_⟩
  have st1 := st.trans (st.sep.grown hb)
  have hl := qlimit_some (PL.sQ (CO.sP st1.sep)) he1
  rw [eq] at hl
  unfold ptr at hl
  refine hl.mono ?_
  rintro r w2 ⟨rfl, rfl⟩
  refine ⟨rfl, rfl, ?_⟩
  have hu := quse_some (PL.sQ (CO.sP st1.sep)) ok.inv.mem.pool.q he1
  rw [eq] at hu
  unfold ptr at hu
  refine hu.mono ?_
  rintro r w3 ⟨rfl, hb3⟩
  refine ⟨rfl, fun k hk => ?_⟩
  have st3 := st1.trans (st1.sep.grown hb3)
  have hm := cmake_any st3.sep ok (by omega) (x := 1) (by omega) (k : Int) 0
  rw [ec] at hm
  refine hm.mono ?_
  intro r w4 hr
  have hlf : leftOf e = e.q.limit - (e.q.charged + e.q.given) := rfl
  by_cases hq : leftOf e < ((costK k : Nat) : Int)
  · obtain ⟨rfl, st4⟩ := hr.low hf hk1 (by omega) (fun h => by omega) he hq
    exact .inl ⟨by omega, rfl, S, f, ⟨ec, ⟨fr, ok.mono (by omega) (by omega)⟩, eq, ea, hf, hk1, ho1, hper, htop, by omega, by omega⟩, hts, st3.trans st4⟩
  · obtain ⟨i0, p0, hfst⟩ := room_some ok hts (by omega)
    obtain ⟨a, x, P', fr', rfl, hm, st4⟩ := hr.able hf (e := e) (i := i0) (p := p0) ⟨hk1, by omega, he, by omega, by rw [htop]; omega, hfst, fun h => by omega⟩
    have hi256 : i0 < 256 := by have := (List.getElem?_eq_some_iff.1 hfst.1).1; rw [ok.inv.len] at this; exact this
    have hne1 : i0 ≠ 1 := fun e1 => by
      obtain ⟨a1, _, a3⟩ := pget_some.1 hf
      have h1 := hfst.1
      rw [e1] at h1
      rw [show (1 : Nat) % 256 = 1 from rfl, h1] at a1
      cases a1
      have := hfst.2.1; omega
    have hne0 : i0 ≠ 0 := root_ne ok.inv.que hfst.1 (by have := hfst.2.1; omega)
    have hfac := hm.fac (by omega)
    refine .inr ⟨by omega, nm i0 p0, S.made f k a x i0 p0 P', f, ⟨k, a, f.own, 1, p0.age, x⟩, { e with q := { e.q with charged := e.q.charged + ((costK k : Nat) : Int) } }, rfl, ⟨ec, ⟨fr', ?_⟩, ?_, ?_, ?_, hk1, ho1, hper, ?_, ?_, ?_⟩, hts, ?_, rfl, ?_, ?_, ?_, rfl, ?_, ?_, st3.trans st4⟩
    · exact (hm.ok ok hfst.1).mono (by omega) (Nat.le_refl _)
    · show P'.q.t = qt; rw [hm.same.qt, eq]
    · show P'.a.a = aa; rw [hm.same.aa, ea]
    · show pget (S.l.set i0 _) 1 1 = some f
      rw [pget_set _ hfst.1, if_neg (by omega)]; exact hf
    · show P'.d.top = 8; rw [hm.same.top, htop]
    · have := hm.few; show P'.d.ps.length ≤ _; omega
    · show (allL (S.l.set i0 _) 1).length ≤ _
      have := allL_add (q := (⟨k, a, f.own, 1, p0.age, x⟩ : Pl)) hfst.1 1
      omega
    · show pget (S.l.set i0 _) 1 (nm i0 p0) = _
      rw [pget_set _ hfst.1, if_pos (nm_mod hi256 p0), if_pos ⟨rfl, rfl⟩]
    · unfold nm; omega
    · unfold nm; omega
    · show find P'.q.E 1 = _
      rw [hfac]
      rw [ho1] at he ⊢
      exact find_upd_same he _
    · show e.q.charged + _ + e.q.given = _; omega
    · exact hm.zero (by omega)
/-- The object lies in a block beside the core. -/
def Box (S : CO) (bx : Nat) (k a f : Nat) (w : World) : Prop := bx ∉ keys S.hl ∧ bx < w.heap.size ∧ w.cell? ⟨bx, 0, none⟩ = some (.int .i64 (k : Int)) ∧ w.cell? ⟨bx, 1, none⟩ = some (.int .i64 (a : Int)) ∧ w.cell? ⟨bx, 2, none⟩ = some (.int .i64 (f : Int))
theorem Box.new {S : CO} {w : World} (h : Sep w S.hl) (k a f : Nat) : Box S w.heap.size k a f (w.alloc (.cells #[.int .i64 (k : Int), .int .i64 (a : Int), .int .i64 (f : Int)] 39)) := by
  have hc := Cells.new w 39 [.int .i64 (k : Int), .int .i64 (a : Int), .int .i64 (f : Int)]
  exact ⟨fun hk => by have := h.lt hk; omega, by simp, hc.cell 0 _ rfl, hc.cell 1 _ rfl, hc.cell 2 _ rfl⟩
theorem Box.step {S S' : CO} {bx k a f : Nat} {w w' : World} (h : Box S bx k a f w) (st : Step S.hl S'.hl w w') : Box S' bx k a f w' := by
  obtain ⟨h1, h2, h3, h4, h5⟩ := h
  have hbk := st.chg.block bx h2 h1
  refine ⟨fun hk => ?_, Nat.lt_of_lt_of_le h2 st.chg.size, (World.cell?_of_block (w := w) hbk).trans h3, (World.cell?_of_block (w := w) hbk).trans h4, (World.cell?_of_block (w := w) hbk).trans h5⟩
  rcases st.new bx hk with h' | h'
  · exact h1 h'
  · omega
theorem Box.grown {S : CO} {bx k a f : Nat} {w w' : World} (h : Box S bx k a f w) (hb : Below w.heap.size w w') : Box S bx k a f w' := by
  obtain ⟨h1, h2, h3, h4, h5⟩ := h
  have hbk := hb.block bx h2
  exact ⟨h1, Nat.lt_of_lt_of_le h2 hb.size, (World.cell?_of_block (w := w) hbk).trans h3, (World.cell?_of_block (w := w) hbk).trans h4, (World.cell?_of_block (w := w) hbk).trans h5⟩
end Go.Proofs.YtcnbbenmlffgpaaGreatDoor

/- CoreExact, one call behind the other: behind a Make. Conditions: the blocks hold what CO.hl says. -/
namespace Go.Proofs.YtcnbbenmlffgpaaGreatDoor
open Go.RowKit

/-- Behind a Make that is OK. -/
structure ExM (S : CO) (c qt aa i x : Nat) (f q : Pl) (lim use : Int) (w wr : World) : Prop where
  s : ExS S c qt aa (2 + (i + 1)) i f
  ts : S.ts = []
  get : pget S.l 1 x = some q
  may : q.kind = 8 ∨ 2 ≤ q.kind ∧ q.kind ≤ 5
  x0 : x ≠ 0
  x1 : x ≠ 1
  acc : ∃ e, find S.P.q.E 1 = some e ∧ e.q.limit = lim ∧ e.q.charged + e.q.given = use + ((costK q.kind : Nat) : Int)
  zero : ∀ j, q.at_ ≤ j → j < q.at_ + costK q.kind → S.P.a.mem[j]? = some 0
  st : Step [] S.hl w wr
theorem ExM.grown {S : CO} {c qt aa i x : Nat} {f q : Pl} {lim use : Int} {w wr w' : World} (h : ExM S c qt aa i x f q lim use w wr) (hb : Below wr.heap.size wr w') : ExM S c qt aa i x f q lim use w w' :=
  ⟨h.s, h.ts, h.get, h.may, h.x0, h.x1, h.acc, h.zero, h.st.trans (h.st.sep.grown hb)⟩
theorem ExM.x32 {S : CO} {c qt aa i x : Nat} {f q : Pl} {lim use : Int} {w wr : World} (h : ExM S c qt aa i x f q lim use w wr) : x < 4294967296 := by
  obtain ⟨fr, ok⟩ := h.s.ok
  obtain ⟨a1, a2, _⟩ := pget_some.1 h.get
  have := (ok.inv.lok.2 q (List.mem_of_getElem? a1)).2
  unfold nm at a2; omega
theorem ExM.room {S : CO} {c qt aa i x : Nat} {f q : Pl} {lim use : Int} {w wr : World} (h : ExM S c qt aa i x f q lim use w wr) : q.at_ + costK q.kind ≤ S.P.a.mem.length ∧ S.P.a.mem.length ≤ 1073741824 := by
  obtain ⟨fr, ok⟩ := h.s.ok
  exact ⟨obj_in ok.inv.mem (pget_mem h.get) (Pl.is_iff.2 (.inl (pget_some.1 h.get).2.2)), mem_bound ok.inv.mem.pool⟩
theorem exm_of {S : CO} {c qt aa i x : Nat} {f q : Pl} {lim use : Int} {w wr : World} (h : ExM S c qt aa i x f q lim use w wr) : Calls Tryz.prog 18 #[.pointer (some ⟨c, 0, none⟩), .int .u32 (x : Int), .int .i64 (q.kind : Int)] wr fun r w' => r = .returned (.tuple #[.agg #[.int .i64 (q.kind : Int), .int .i64 (q.at_ : Int), .int .i64 (q.fac : Int)], .int .i64 0]) ∧ ExM S c qt aa i x f q lim use w w' := by
  obtain ⟨fr, ok⟩ := h.s.ok
  have := cof_some h.st.sep ok.inv.lok h.x32 (q.kind : Int) h.get (.inr rfl)
  rw [h.s.c] at this
  exact this.mono fun r w' ⟨e, hb⟩ => ⟨e, h.grown hb⟩
theorem exm_read {S : CO} {c qt aa i x : Nat} {f q : Pl} {lim use : Int} {w wr : World} (h : ExM S c qt aa i x f q lim use w wr) : Calls Tryz.prog 30 #[.pointer (some ⟨aa, 0, none⟩), .int .i64 (q.at_ : Int), .int .i64 ((costK q.kind : Nat) : Int)] wr fun r w' => ∃ g cap : Nat, r = .returned (.tuple #[.slice (some ⟨g, 0, none⟩) (costK q.kind) cap, .int .i64 0]) ∧ Below wr.heap.size wr w' ∧ g < w'.heap.size ∧ (∀ m, m < costK q.kind → w'.cell? ⟨g, m, none⟩ = some (.int .u8 0)) ∧ ExM S c qt aa i x f q lim use w w' := by
  have hc := costK_pos h.may
  obtain ⟨hr1, hr2⟩ := h.room
  have := read_ok (PL.sA (CO.sP h.st.sep)) q.at_ (costK q.kind) (by omega) hr1 hr2
  rw [h.s.aa] at this
  refine this.mono ?_
  rintro r w' ⟨v, rfl, hrow, hg⟩
  have hz : (S.P.a.mem.drop q.at_).take (costK q.kind) = List.replicate (costK q.kind) 0 := by
    apply List.ext_getElem?
    intro j
    rw [List.getElem?_take, List.getElem?_replicate]
    split
    · rw [List.getElem?_drop]
      exact h.zero _ (by omega) (by omega)
    · rfl
  rw [hz] at hrow
  have hb : Below wr.heap.size wr w' := ⟨hg.os, hg.tape, hg.output, hg.size, fun k hk => hg.block k hk (fun e => by cases e)⟩
  rcases hrow.2 with ⟨_, h0⟩ | ⟨g, cap, cur, rfl, hgb, hgc, hn, hm, hs, htk⟩
  · rw [List.length_replicate] at h0; omega
  · refine ⟨g, cap, by rw [List.length_replicate], hb, lt_of_block hgc, fun m hm' => ?_, h.grown hb⟩
    have hv : (bcells (List.replicate (costK q.kind) 0))[m]? = some (.int .u8 0) := by
      unfold bcells
      rw [List.getElem?_map, List.getElem?_replicate, if_pos hm']; rfl
    rw [← htk, List.getElem?_take] at hv
    split at hv
    · simp only [World.cell?, hgc, Option.isSome_none, Bool.false_eq_true, if_false]
      rw [← Array.getElem?_toList]; exact hv
    · cases hv
theorem exm_use {S : CO} {c qt aa i x : Nat} {f q : Pl} {lim use : Int} {w wr : World} (h : ExM S c qt aa i x f q lim use w wr) : Calls Tryz.prog 28 #[.pointer (some ⟨qt, 0, none⟩), .int .i64 1] wr fun r w' => r = .returned (.int .i64 (use + ((costK q.kind : Nat) : Int))) ∧ Below wr.heap.size wr w' ∧ ExM S c qt aa i x f q lim use w w' ∧
    Calls Tryz.prog 27 #[.pointer (some ⟨qt, 0, none⟩), .int .i64 1] w' fun r w2 => r = .returned (.int .i64 lim) ∧ w' = w2 := by
  obtain ⟨fr, ok⟩ := h.s.ok
  obtain ⟨e, he, e1, e2⟩ := h.acc
  have := quse_some (PL.sQ (CO.sP h.st.sep)) ok.inv.mem.pool.q he
  rw [h.s.qt, e2] at this
  unfold ptr at this
  refine this.mono ?_
  rintro r w' ⟨rfl, hb⟩
  have h' := h.grown hb
  refine ⟨rfl, hb, h', ?_⟩
  have := qlimit_some (PL.sQ (CO.sP h'.st.sep)) he
  rw [h.s.qt, e1] at this
  unfold ptr at this
  exact this
/-- What a Fill leaves. -/
def ExF (c qt aa i x : Nat) (q : Pl) (w wr : World) : Prop := ∃ (S : CO) (f : Pl), ExS S c qt aa (2 + (i + 1)) i f ∧ S.ts = [] ∧ pget S.l 1 x = some q ∧ q.kind ≠ 1 ∧ x ≠ 0 ∧ x ≠ 1 ∧ Step [] S.hl w wr
theorem ExF.at {c qt aa i x : Nat} {q : Pl} {w wr : World} (h : ExF c qt aa i x q w wr) : ExAt c qt aa (i + 1) w wr := by
  obtain ⟨S, f, ⟨ec, ⟨fr, ok⟩, eq, ea, hf, hk1, ho1, hper, htop, hps, hlv⟩, hts, _, _, _, _, st⟩ := h
  exact ⟨S, f, ⟨ec, ⟨fr, ok.mono (Nat.le_refl _) (by omega)⟩, eq, ea, hf, hk1, ho1, hper, htop, hps, hlv⟩, hts, st⟩
theorem exm_fill {S : CO} {c qt aa i x : Nat} {f q : Pl} {lim use : Int} {w wr : World} (h : ExM S c qt aa i x f q lim use w wr) {v : Nat} (hv : v < 256) : Calls Tryz.prog 31 #[.pointer (some ⟨aa, 0, none⟩), .int .i64 (q.at_ : Int), .int .i64 ((costK q.kind : Nat) : Int), .int .u8 (v : Int)] wr fun r w' => r = .returned (.int .i64 0) ∧ ExF c qt aa i x q w w' ∧ (∀ b k a o, Box S b k a o wr → w'.cell? ⟨b, 1, none⟩ = some (.int .i64 (a : Int))) := by
  have hc := costK_pos h.may
  obtain ⟨hr1, hr2⟩ := h.room
  obtain ⟨fr, ok⟩ := h.s.ok
  have ea0 := h.s.aa
  subst ea0
  have := fill_ok (PL.sA (CO.sP h.st.sep)) q.at_ (costK q.kind) v (by omega) hr1 hr2
  refine this.mono ?_
  rintro r w' ⟨rfl, st⟩
  have hi : q.is = true := Pl.is_iff.2 (.inl (pget_some.1 h.get).2.2)
  have hinv := ok.inv.fill (pget_some.1 h.get).1 hi (by have := h.may; omega) hv
  have st2 := CO.stepP h.st.sep (S.P.setA (put_ S.P.a.mem q.at_ (List.replicate (costK q.kind) v))) rfl (PL.stepA (CO.sP h.st.sep) _ st)
  obtain ⟨ec, _, eq, ea, hf, hk1, ho1, hper, htop, hps, hlv⟩ := h.s
  refine ⟨rfl, ⟨S.setP (S.P.setA (put_ S.P.a.mem q.at_ (List.replicate (costK q.kind) v))), f, ⟨ec, ⟨fr, hinv, ok.per, ok.due, ok.ord, ok.ov, ok.next, ok.now, ok.age⟩, eq, ea, hf, hk1, ho1, hper, htop, hps, hlv⟩, h.ts, h.get, by have := h.may; omega, h.x0, h.x1, h.st.trans st2⟩, fun b k a o hb => ?_⟩
  exact (hb.step st2).2.2.2.1
theorem exf_doom {c qt aa i x : Nat} {q : Pl} {w wr : World} (h : ExF c qt aa i x q w wr) (hi : i ≤ 60) : Calls Tryz.prog 19 #[.pointer (some ⟨c, 0, none⟩), .int .u32 (x : Int)] wr fun r w1 => r = .returned (.int .i64 0) ∧
    Calls Tryz.prog 20 #[.pointer (some ⟨c, 0, none⟩)] w1 fun r w2 => ∃ v cap, r = .returned (.slice v 1 cap) ∧ ExAt c qt aa (i + 1) w w2 := by
  obtain ⟨S, f, ⟨ec, ⟨fr, ok⟩, eq, ea, hf, hk1, ho1, hper, htop, hps, hlv⟩, hts, hx, hxk, hx0, hx1, st⟩ := h
  have hx32 : x < 4294967296 := by
    obtain ⟨a1, a2, _⟩ := pget_some.1 hx
    have := (ok.inv.lok.2 q (List.mem_of_getElem? a1)).2
    unfold nm at a2; omega
  have hkids : kids S.l x = [] := kids_none fun p hp => by rw [hx] at hp; cases hp; exact hxk
  have := cdoom_any st.sep ok (by omega) hx32
  rw [ec] at this
  refine this.mono ?_
  rintro r w1 (⟨e, _⟩ | ⟨_, e, _⟩ | ⟨_, _, e, _⟩ | ⟨p, rv, hp, _, hk, hov, rfl, st1⟩)
  · rw [hx] at e; cases e
  · exact absurd e hx0
  · exact absurd hkids e
  · rw [hx] at hp; cases hp
    refine ⟨rfl, ?_⟩
    have ok1 := ok.doomed hx hx0 hkids hov
    have st01 := st.trans st1
    have := ctick_any st01.sep ok1 (by omega)
    have ec1 : (S.doomed x q rv).c = c := ec
    rw [ec1] at this
    refine this.mono ?_
    rintro r w2 ⟨rv2, S', fr', v, rfl, hrow, hov2, htk, ok', st2, hoff⟩
    have ets : (S.doomed x q rv).ts = [(x, S.now + 1)] := by show S.ts ++ [(x, S.now + S.period)] = _; rw [hts, hper]; rfl
    have enow : (S.doomed x q rv).now = S.now := rfl
    have eN : dueN (S.doomed x q rv) = [x] := by unfold dueN; rw [ets, enow]; simp
    have eT : dueT (S.doomed x q rv) = [] := by unfold dueT; rw [ets, enow]; simp
    rw [eN] at hrow htk
    obtain ⟨va, cap, rfl, _⟩ := row_aside (L := [x]) hrow hoff
    obtain ⟨x1, x2, x3⟩ := pget_some.1 hx
    have hl0 : S.l.length ≤ 256 := by rw [ok.inv.len]; exact Nat.le_refl _
    have hl' : S'.l.length ≤ 256 := by rw [ok'.inv.len]; exact Nat.le_refl _
    have hld : (S.l.set (x % 256) { q with st := 2 }).length ≤ 256 := by rw [List.length_set]; exact hl0
    have hlive := live_same (l := S.l.set (x % 256) { q with st := 2 }) hld hl' fun y => htk.live y
    have hne : (1 : Nat) % 256 ≠ x % 256 := fun e => hx1 ((pget_same hf hx e).1).symm
    refine ⟨va, cap, rfl, S', f, ⟨htk.c.trans ec, ⟨fr', ok'⟩, ?_, ?_, ?_, hk1, ho1, htk.per.trans hper, ?_, ?_, ?_⟩, ?_, st01.trans st2⟩
    · rw [htk.same.qt]; exact eq
    · rw [htk.same.aa]; exact ea
    · rw [htk.live]
      show pget (S.l.set (x % 256) { q with st := 2 }) 1 1 = some f
      rw [pget_set _ x1, if_neg hne]; exact hf
    · rw [htk.same.top]; exact htop
    · exact Nat.le_trans htk.few hps
    · rw [hlive]
      exact Nat.le_trans (allL_drop x1 (by show (2 : Nat) ≠ 1; omega)) hlv
    · rw [htk.ts]; exact eT
end Go.Proofs.YtcnbbenmlffgpaaGreatDoor

/- What is read of a slice of bytes that came in. No condition. -/
namespace Go.Proofs.YtcnbbenmlffgpaaGreatDoor
open Go.ChangeShapes Go.WideShapes Go.ChangeAt Go.RowKit Go.Deep

/-- A slice that came in holds these bytes. -/
def IsB8 (w : World) (a0 : Option Addr) (len : Nat) (A : Nat → Nat) : Prop := ∀ j, j < len → ∃ g off, a0 = some ⟨g, off, none⟩ ∧ g < w.heap.size ∧ w.cell? ⟨g, off + j, none⟩ = some (.int .u8 (A j : Int)) ∧ A j < 256
theorem IsB8.read {w wr : World} {a0 : Option Addr} {len : Nat} {A : Nat → Nat} (h : IsB8 w a0 len A) (hb : Below w.heap.size w wr) {j : Nat} (hj : j < len) : ∃ g off, a0 = some ⟨g, off, none⟩ ∧ (∀ wr', Below w.heap.size w wr' → wr'.cell? ⟨g, off + j, none⟩ = some (.int .u8 (A j : Int))) ∧ A j < 256 := by
  obtain ⟨g, off, h1, h2, h3, h4⟩ := h j hj
  exact ⟨g, off, h1, fun wr' hb' => (World.cell?_of_block (w := w) (hb'.block g h2)).trans h3, h4⟩
theorem cellsB8 : Tryz.prog.cellsOf 5 = 1 := by kernel_rfl
theorem open_b8s {H : Type} {enc : TypeId × Value → H} {w : World} {fuel : Nat} {a0 : Option Addr} {len cap : Nat} {x : DataW H × List MemPlace}
    (h : DataW.trod enc Tryz.prog w 0 (fun _ => true) true fuel 50 [.slice a0 len cap] = some x) : ∃ A, IsB8 w a0 len A := by
  rcases open_slice Tryz.underlying50 h with ⟨hcs, _⟩ | ⟨a, len', cap', m, n, D, Pl, hcs, _, hl, _, hmm, _, hi⟩
  · simp only [List.cons.injEq, Value.slice.injEq, and_true] at hcs
    obtain ⟨rfl, rfl, rfl⟩ := hcs
    exact ⟨fun _ => 0, fun j hj => absurd hj (Nat.not_lt_zero _)⟩
  · simp only [List.cons.injEq, Value.slice.injEq, and_true] at hcs
    obtain ⟨rfl, rfl, rfl⟩ := hcs
    have hm : len ≤ m := by rw [hmm]; simp; exact hl
    have each : ∀ j, j < len → ∃ x : Nat, w.cell? (a.add j) = some (.int .u8 (x : Int)) ∧ x < 256 := by
      intro j hj
      obtain ⟨cs', hc, ht⟩ := hi j (by omega)
      rw [cellsB8, Nat.mul_one] at hc
      obtain ⟨_, hcl, hat⟩ := World.cells?_some hc
      obtain ⟨v, e0, _, hw⟩ := DataW.trod_int Tryz.underlying5 ht
      have hb := bounds_u8 (n := v) (by simp_all)
      obtain ⟨y, rfl⟩ := Int.eq_ofNat_of_zero_le hb.1
      refine ⟨y, ?_, by omega⟩
      have := hat 0 (by omega)
      simp only [e0] at this
      simpa [Addr.add] using this
    by_cases h0 : len = 0
    · exact ⟨fun _ => 0, fun j hj => by omega⟩
    · obtain ⟨x0, c0, _⟩ := each 0 (by omega)
      have hp := addr_plain5 (x := a) (by simpa [Addr.add] using c0)
      refine ⟨fun j => if hj : j < len then (each j hj).choose else 0, fun j hj => ?_⟩
      obtain ⟨h1, h2⟩ := (each j hj).choose_spec
      simp only [hj, dif_pos]
      generalize (each j hj).choose = y at h1 h2
      rw [hp, add_plain5] at h1
      exact ⟨a.block, a.off, congrArg some hp, World.block_lt_of_cell? w ⟨a.block, a.off + j, none⟩ h1, h1, h2⟩
end Go.Proofs.YtcnbbenmlffgpaaGreatDoor

/- The law CoreExact is true. Conditions: the package-level variables lie, the bytes are read. -/
namespace Go.Proofs.YtcnbbenmlffgpaaGreatDoor
open Go.RowKit

/-- The first factory of the law, and where the quota and the arena are. -/
theorem ex_first {S : CO} {w wr : World} (hf : FreshO S 8 262144 1) (st : Step [] S.hl w wr) {lim : Nat} (hl : lim < 65536) :
    Calls Tryz.prog 21 #[.pointer (some ⟨S.c, 0, none⟩), .int .u32 0, .int .i64 1, .int .i64 (lim : Int)] wr fun r w1 => r = .returned (.tuple #[.int .u32 1, .int .i64 0]) ∧
      Calls Tryz.prog 16 #[.pointer (some ⟨S.c, 0, none⟩), .int .u32 1] w1 fun r w2 => r = .returned (.tuple #[.int .i64 1, .int .i64 0]) ∧
        ∃ pp aa qt : Nat, (Calls Tryz.prog 24 #[.pointer (some ⟨S.c, 0, none⟩)] w2 fun r w' => r = .returned (.pointer (some ⟨pp, 0, none⟩)) ∧ w2 = w') ∧
          (Calls Tryz.prog 25 #[.pointer (some ⟨pp, 0, none⟩)] w2 fun r w' => r = .returned (.pointer (some ⟨aa, 0, none⟩)) ∧ w2 = w') ∧
          (Calls Tryz.prog 26 #[.pointer (some ⟨pp, 0, none⟩)] w2 fun r w' => r = .returned (.pointer (some ⟨qt, 0, none⟩)) ∧ w2 = w') ∧ ExAt S.c qt aa 0 w w2 := by
  obtain ⟨b, hq⟩ := hf.q
  have hfe : find S.P.q.E 0 = some ⟨0, b, ⟨262144, 64, 0, -1, 0⟩⟩ := by rw [hq]; rfl
  refine (cmake_any st.sep hf.ok (by omega) (x := 0) (by omega) ((1 : Nat) : Int) (lim : Int)).mono ?_
  intro r w1 hr
  obtain ⟨a, x, P', fr', rfl, hm, st2⟩ := hr.able (f := ⟨1, 64, 0, 1, 0, 0⟩) (by rw [hf.l]; rfl) (e := ⟨0, b, ⟨262144, 64, 0, -1, 0⟩⟩) (i := 1) (p := noPl 0) ⟨rfl, by omega, hfe, (by decide : (64 : Int) ≤ 262144 - (64 + 0)), by rw [hf.ps, hf.top]; decide, by
    rw [hf.l]
    exact fst_at rfl rfl fun j hj => ⟨⟨1, 64, 0, 1, 0, 0⟩, by rw [show j = 0 by omega]; rfl, by decide⟩, fun _ => ⟨by omega, by show (lim : Int) ≤ 262144 - (64 + 0) - 64; omega, by rw [hq]; exact (by decide : 1 < 32)⟩⟩
  have hi : S.l[1]? = some (noPl 0) := by rw [hf.l]; rfl
  obtain ⟨f1, f2, b', f3⟩ := hm.fac1 rfl
  rw [hf.next] at f1 f2
  have hx : x = 1 := by omega
  subst hx
  have ok1 := hm.ok hf.ok hi
  have st1 := st.trans st2
  have hget : pget (S.made ⟨1, 64, 0, 1, 0, 0⟩ 1 a 1 1 (noPl 0) P').l 1 1 = some ⟨1, a, 0, 1, 0, 1⟩ := by
    show pget (S.l.set 1 _) 1 1 = _
    rw [hf.l]; exact la1_get a
  refine ⟨rfl, (cown_some st1.sep ok1 (x := 1) (by omega) hget rfl).mono ?_⟩
  rintro r w2 ⟨rfl, hb⟩
  have st3 := st1.trans (st1.sep.grown hb)
  refine ⟨rfl, P'.p, P'.a.a, P'.q.t, cmemory_any st3.sep, parena_any (CO.sP st3.sep), pquota_any (CO.sP st3.sep), S.made ⟨1, 64, 0, 1, 0, 0⟩ 1 a 1 1 (noPl 0) P', _, ⟨rfl, ⟨fr', ok1.mono (by omega) (Nat.le_refl _)⟩, rfl, rfl, hget, rfl, rfl, hf.period, ?_, ?_, ?_⟩, hf.ts, st3⟩
  · show P'.d.top = 8; rw [hm.same.top, hf.top]
  · have := hm.few; rw [hf.ps] at this; exact this
  · show (allL (S.l.set 1 _) 1).length ≤ 2
    have h1 := allL_add (q := (⟨1, a, 0, 1, (noPl 0).age, 1⟩ : Pl)) hi 1
    have h2 : (allL S.l 1).length = 1 := by rw [hf.l]; kernel_rfl
    exact Nat.le_trans h1 (by rw [h2]; exact Nat.le_refl _)
set_option maxHeartbeats 16000000 in
set_option maxRecDepth 100000 in
theorem exact_any {w : World} (henv : Env w) (lim : Nat) (hlim : lim < 65536) (a0 : Option Addr) (len cap : Nat) (A : Nat → Nat) (hA : IsB8 w a0 len A) (cv : Nat) (hcv : cv < 256) : Calls Tryz.prog 5 #[.int .u16 (lim : Int), .slice a0 len cap, .int .u8 (cv : Int)] w (Told w (.bool true)) := by
  have hal := alive16_any henv
  have h18 : ((2 ^ (8 + 10) : Nat) : Int) = 262144 := by decide
  have HAl : Hid (∀ r w1, Told w (.bool true) r w1 → r = .returned (.bool true) ∧ Below w.heap.size w w1 ∧ Calls Tryz.prog 13 #[.int .i64 262144, .int .i64 262144, .int .i64 1] w1 fun r w2 => ∃ c : Nat, r = .returned (.pointer (some ⟨c, 0, none⟩)) ∧
      Calls Tryz.prog 21 #[.pointer (some ⟨c, 0, none⟩), .int .u32 0, .int .i64 1, .int .i64 (lim : Int)] w2 fun r w1 => r = .returned (.tuple #[.int .u32 1, .int .i64 0]) ∧
      Calls Tryz.prog 16 #[.pointer (some ⟨c, 0, none⟩), .int .u32 1] w1 fun r w2 => r = .returned (.tuple #[.int .i64 1, .int .i64 0]) ∧
        ∃ pp aa qt : Nat, (Calls Tryz.prog 24 #[.pointer (some ⟨c, 0, none⟩)] w2 fun r w' => r = .returned (.pointer (some ⟨pp, 0, none⟩)) ∧ w2 = w') ∧
          (Calls Tryz.prog 25 #[.pointer (some ⟨pp, 0, none⟩)] w2 fun r w' => r = .returned (.pointer (some ⟨aa, 0, none⟩)) ∧ w2 = w') ∧
          (Calls Tryz.prog 26 #[.pointer (some ⟨pp, 0, none⟩)] w2 fun r w' => r = .returned (.pointer (some ⟨qt, 0, none⟩)) ∧ w2 = w') ∧ ExAt c qt aa 0 w w2) := by
    rintro r w1 ⟨rfl, hb⟩
    have := cnew_any (Sep.nil (henv.below hb)) 8 (by omega) (by omega) 262144 (by omega) (by rw [h18]; omega) 1 (by omega) (by omega)
    rw [h18] at this
    refine ⟨rfl, hb, this.mono ?_⟩
    rintro r w2 ⟨S, rfl, hf, st⟩
    have st1 : Step [] S.hl w1 w2 := by simpa using st
    have st2 : Step [] S.hl w w2 := ((Sep.nil henv).grown hb).trans st1
    exact ⟨S.c, rfl, ex_first hf st2 hlim⟩
  have HA := hidden hA
  have HCv := hidden hcv
  have hl1 : (lim : Int) < 65536 := by omega
  have hl0 : (0 : Int) ≤ (lim : Int) := by omega
  clear henv hA h18 hcv hlim
  go_enter Tryz.func5, Tryz.ntmps5
  go_wp2_with fail
  refine hal.mono ?_
  intro r w1 hx
  obtain ⟨rfl, hb1, hnew⟩ := HAl.out _ _ hx
  have HNew := hidden hnew
  have HB1 := hidden hb1
  clear hx hb1 hnew hal HAl
  by_cases h60 : 60 < len
  · have HR : Hid (Told w (.bool true) (.returned (.bool true)) w1) := ⟨rfl, HB1.out⟩
    have h60i : (60 : Int) < len := by omega
    clear h60
    go_wp2_with fail
    first | exact HR.out | (go_ret; exact HR.out)
  have hlen : (len : Int) ≤ 60 := by omega
  have hd60 : decide ((60 : Int) < (len : Int)) = false := by rw [decide_eq_false_iff_not]; omega
  clear h60
  go_wp2_with fail
  refine HNew.out.mono ?_
  rintro r w2 ⟨c, rfl, hx⟩
  have H1 := hidden hx
  clear hx HNew
  go_wp2_with fail
  refine H1.out.mono ?_
  rintro r w3 ⟨rfl, hx⟩
  have H2 := hidden hx
  clear hx H1
  go_wp2_with fail
  refine H2.out.mono ?_
  rintro r w4 ⟨rfl, pp, aa, qt, hme, har, hqu, hex⟩
  have HMe := hidden hme
  have HAr := hidden har
  have HQu := hidden hqu
  have HEx := hidden hex
  clear hme har hqu hex H2
  go_wp2_with fail
  refine HMe.out.mono ?_
  rintro r w' ⟨rfl, rfl⟩
  go_wp2_with fail
  refine HAr.out.mono ?_
  rintro r w' ⟨rfl, rfl⟩
  go_wp2_with fail
  refine HMe.out.mono ?_
  rintro r w' ⟨rfl, rfl⟩
  go_wp2_with fail
  refine HQu.out.mono ?_
  rintro r w' ⟨rfl, rfl⟩
  clear HMe HAr HQu
  go_wp2_with fail
  go_loopg [14] len (fun gk iv wr => ∃ (i : Nat), iv = .int .i64 i ∧ i + gk = len ∧ ExAt c qt aa i w wr)
  case atStart => exact ⟨0, rfl, Nat.zero_add _, HEx.out⟩
  case round =>
    clear HEx
    obtain ⟨i, rfl, hig, hex⟩ := hrel
    have HIg := hidden hig
    by_cases hlt : i < len
    · obtain ⟨gA, offA, rfl, hcA, hA256⟩ := HA.out.read hex.fresh hlt
      obtain ⟨limv, use, hu0, hul, hlm, hst⟩ := ex_start hex (by omega)
      have hbA : Below wr.heap.size wr (wr.alloc (.cells #[.int .i64 2, .int .i64 3, .int .i64 4, .int .i64 5, .int .i64 8] 3)) := (Below.refl _ _).alloc (Nat.le_refl _) _
      have hca := hcA _ (hex.fresh.trans (hbA.mono hex.fresh.size))
      have hL := hst _ hbA
      have hkk := kindE_may (A i % 5)
      have hcK : (wr.alloc (.cells #[.int .i64 2, .int .i64 3, .int .i64 4, .int .i64 5, .int .i64 8] 3)).cell? ⟨wr.heap.size, A i % 5, none⟩ = some (.int .i64 ((kindE (A i % 5) : Nat) : Int)) := by
        have hm : A i % 5 < 5 := Nat.mod_lt _ (by omega)
        refine (Cells.new wr 3 [.int .i64 2, .int .i64 3, .int .i64 4, .int .i64 5, .int .i64 8]).cell (A i % 5) _ ?_
        have : A i % 5 = 0 ∨ A i % 5 = 1 ∨ A i % 5 = 2 ∨ A i % 5 = 3 ∨ A i % 5 = 4 := by omega
        rcases this with e | e | e | e | e <;> rw [e] <;> rfl
      have HCA := hidden hcA
      have HL := hidden hL
      have HKK := hidden hkk
      have HU := hidden (show 0 ≤ use ∧ use ≤ limv ∧ limv ≤ 1073741824 from ⟨hu0, hul, hlm⟩)
      have hmod : ((A i : Nat) : Int).tmod 5 = ((A i % 5 : Nat) : Int) := by
        rw [Int.tmod_eq_emod_of_nonneg (by omega)]; rfl
      generalize hkd : kindE (A i % 5) = kd at *
      have hm5 : A i % 5 < 5 := Nat.mod_lt _ (by omega)
      generalize hmm : A i % 5 = m5 at *
      generalize hai : A i = ai at *
      have hm5i : ((m5 : Nat) : Int) < 5 := by omega
      have hm5z : (0 : Int) ≤ ((m5 : Nat) : Int) := by omega
      have hw1 : IntKind.i64.wrap ((m5 : Nat) : Int) = (m5 : Int) := Go.IntWalk.i64_in _ (by omega)
      have hii : (i : Int) < (len : Int) := by omega
      have hai2 : ((ai : Nat) : Int) < 256 := by omega
      have hai0 : (0 : Int) ≤ ((ai : Nat) : Int) := by omega
      clear hst hL hkk hex hcA hig hkd hmm hai hul hlm hu0 hbA
      go_wp2_with fail
      refine HL.out.mono ?_
      rintro r w5 ⟨rfl, rfl, hx⟩
      have HL2 := hidden hx
      clear hx HL
      go_wp2_with fail
      refine HL2.out.mono ?_
      rintro r w6 ⟨rfl, hx⟩
      have HMk := hidden (hx kd HKK.out)
      obtain ⟨hu0, hu1, hu2⟩ := HU.out
      have hw2 : IntKind.i64.wrap (limv - use) = limv - use := Go.IntWalk.i64_in _ (by omega)
      have hw3 : wrap64 (limv - use) = limv - use := Go.IntWalk.wrap64_in _ (by omega)
      clear hx HL2 hcK hca hmod hw1
      go_wp2_with fail
      refine HMk.out.mono ?_
      have hcost := fun wx => cost16_any wx HKK.out
      have hcp := costK_pos HKK.out
      generalize hck : costK kd = ck at *
      have HCk := hidden hck
      have hcost2 : ∀ wx : World, Calls Tryz.prog 29 #[.int .i64 (kd : Int)] wx fun r w' => r = .returned (.int .i64 (ck : Int)) ∧ wx = w' := hcost
      have HCost := hidden hcost2
      clear hcost hcost2 hck HMk
      rintro r w7 (⟨hlow, rfl, hex⟩ | ⟨hle, x, S, f, q, e, rfl, hs, hts, hgx, hqk, hx0, hx1, hfe, he1, he2, hz, st⟩)
      · have HEx := hidden hex
        have tl : decide ((ck : Int) ≤ limv - use) = false := by rw [decide_eq_false_iff_not]; omega
        clear hex
        go_wp2_with fail
        refine (HCost.out _).mono ?_
        rintro r w' ⟨rfl, rfl⟩
        go_wp2_with fail
        go_roundg (len - (i + 1))
        case measure => have := HIg.out; omega
        case rel => exact ⟨i + 1, by go_num, by have := HIg.out; omega, HEx.out⟩
      · have hM : ExM S c qt aa i x f q limv use w w7 := ⟨hs, hts, hgx, by rw [hqk]; exact HKK.out, hx0, hx1, ⟨e, hfe, he1, by rw [hqk, HCk.out]; exact he2⟩, fun j h1 h2 => hz j h1 (by rw [hqk, HCk.out] at h2; exact h2), st⟩
        have hq2 : ((q.kind : Nat) : Int) = (kd : Int) := by rw [hqk]
        have HM := hidden hM
        have HQk := hidden hqk
        have tl : decide ((ck : Int) ≤ limv - use) = true := by rw [decide_eq_true_eq]; omega
        have hof := exm_of hM
        rw [hq2] at hof
        have HOf := hidden hof
        clear hM hof hs hts hgx hx0 hx1 hfe he1 he2 hz st hq2 hqk
        go_wp2_with fail
        refine (HCost.out _).mono ?_
        rintro r w' ⟨rfl, rfl⟩
        go_wp2_with fail
        refine HOf.out.mono ?_
        rintro r w8 ⟨rfl, hM8⟩
        have hbx : Box S w8.heap.size q.kind q.at_ q.fac (w8.alloc (.cells #[.int .i64 (kd : Int), .int .i64 (q.at_ : Int), .int .i64 (q.fac : Int)] 39)) := by
          have := Box.new hM8.st.sep q.kind q.at_ q.fac
          rw [HQk.out] at this ⊢; exact this
        have hM9 := hM8.grown ((Below.refl _ _).alloc (Nat.le_refl _) (.cells #[.int .i64 (kd : Int), .int .i64 (q.at_ : Int), .int .i64 (q.fac : Int)] 39))
        generalize hw9 : w8.alloc (.cells #[.int .i64 (kd : Int), .int .i64 (q.at_ : Int), .int .i64 (q.fac : Int)] 39) = w9 at *
        have hM9d := hM9.grown ((Below.refl w9.heap.size w9).drew)
        have hrd := exm_read hM9d
        rw [HQk.out, HCk.out] at hrd
        have HRd : Hid (Calls Tryz.prog 30 #[.pointer (some ⟨aa, 0, none⟩), .int .i64 (q.at_ : Int), .int .i64 (ck : Int)] w9.drew fun r w' => ∃ g cap : Nat, r = .returned (.tuple #[.slice (some ⟨g, 0, none⟩) ck cap, .int .i64 0]) ∧ w'.cell? ⟨w8.heap.size, 1, none⟩ = some (.int .i64 (q.at_ : Int)) ∧ g < w'.heap.size ∧ (∀ m, m < ck → w'.cell? ⟨g, m, none⟩ = some (.int .u8 0)) ∧ Box S w8.heap.size q.kind q.at_ q.fac w' ∧ ExM S c qt aa i x f q limv use w w') := by
          refine hrd.mono ?_
          rintro r w' ⟨g, cap, rfl, hb, hg, hz, hM⟩
          have hb2 := hbx.grown ((Below.refl w9.heap.size w9).drew.trans hb)
          exact ⟨g, cap, rfl, hb2.2.2.2.1, hg, hz, hb2, hM⟩
        have b1 := hbx.2.2.2.1
        have d1 : w9.drew.cell? ⟨w8.heap.size, 1, none⟩ = some (.int .i64 (q.at_ : Int)) := b1
        have HW9 := hidden hw9
        clear hM8 hbx hM9 hM9d hrd hw9 HOf
        go_upto_region 23 with fail
        rw [HW9.out]
        go_wp2_with fail
        go_region_held3 (fun w' => w'.cell? ⟨w8.heap.size, 1, none⟩ = some (.int .i64 (q.at_ : Int))) (first | exact b1 | exact d1 | exact f1)
          (first | (go_at_call 29; refine (HCost.out _).mono ?_; rintro r w' ⟨rfl, rfl⟩) | (go_at_call 30; refine HRd.out.mono ?_; rintro r w10 ⟨gb, capb, rfl, f1, hgb, hzb, hbx10, hM10⟩; have HZb := hidden hzb; have HBx := hidden hbx10; have HM10 := hidden hM10; clear hzb hbx10 hM10))
        all_goals
          have huse := exm_use HM10.out
          rw [HQk.out, HCk.out] at huse
          have HUse := hidden huse
          have HRow : Hid (∀ wx : World, Below w10.heap.size w10 wx → ∀ m, m < ck → wx.cell? ⟨gb, m, none⟩ = some (.int .u8 0)) := fun wx hb m hm => (World.cell?_of_block (w := w10) (hb.block gb hgb)).trans (HZb.out m hm)
          have hck1 : ((ck : Nat) : Int) ≤ 1024 := by omega
          have hck0 : (32 : Int) ≤ ((ck : Nat) : Int) := by omega
          have hcc : (((ck : Nat) : Int) != ((ck : Nat) : Int)) = false := by simp
          have ht : ((use + ((ck : Nat) : Int)) != (limv - (limv - use) + ((ck : Nat) : Int))) = false := by simp; omega
          clear huse HZb hgb HRd b1 d1
          try clear f1
          go_wp2_with fail
          refine (HCost.out _).mono ?_
          rintro r w' ⟨rfl, rfl⟩
          go_wp2_with fail
          refine HUse.out.mono ?_
          rintro r w11 ⟨rfl, hb11, hM11, hlim⟩
          have HLim := hidden hlim
          have HM11 := hidden hM11
          have HB11 := hidden hb11
          clear hlim hM11 hb11 HUse
          go_wp2_with fail
          refine HLim.out.mono ?_
          rintro r w' ⟨rfl, rfl⟩
          go_wp2_with fail
          refine (HCost.out _).mono ?_
          rintro r w' ⟨rfl, rfl⟩
          go_wp2_with fail
          obtain ⟨gko, hgo⟩ : ∃ g, g = gk := ⟨_, rfl⟩
          subst hgo
          obtain ⟨wo, hwo⟩ : ∃ wo, wo = wr := ⟨_, rfl⟩
          subst hwo
          go_loopg [23] ck (fun gi v wi => ∃ m : Nat, v = .int .i64 (m : Int) ∧ m + gi = ck ∧ wi = w11)
          case atStart => exact ⟨0, rfl, Nat.zero_add _, rfl⟩
          case round =>
            obtain ⟨m, rfl, hmg, rfl⟩ := hrel
            have HMg := hidden hmg
            by_cases hmc : m < ck
            · have hcz := HRow.out _ HB11.out m hmc
              have hmi : (m : Int) < (ck : Int) := by omega
              clear hmg
              go_wp2_with fail
              go_roundg (ck - (m + 1))
              case measure => have := HMg.out; omega
              case rel => exact ⟨m + 1, by go_num, by have := HMg.out; omega, rfl⟩
            · have hbx11 := HBx.out.grown HB11.out
              have hM11d := HM11.out.grown ((Below.refl wr.heap.size wr).drew)
              have hfl := exm_fill hM11d HCv.out
              rw [HQk.out, HCk.out] at hfl
              have hbxd := hbx11.grown ((Below.refl wr.heap.size wr).drew)
              have HFl : Hid (Calls Tryz.prog 31 #[.pointer (some ⟨aa, 0, none⟩), .int .i64 (q.at_ : Int), .int .i64 (ck : Int), .int .u8 (cv : Int)] wr.drew fun r w' => r = .returned (.int .i64 0) ∧ w'.cell? ⟨w8.heap.size, 1, none⟩ = some (.int .i64 (q.at_ : Int)) ∧ ExF c qt aa i x q w w') := by
                refine hfl.mono ?_
                rintro r w' ⟨rfl, hF, hb⟩
                exact ⟨rfl, hb _ _ _ _ hbxd, hF⟩
              have b1 := hbx11.2.2.2.1
              have d1 : wr.drew.cell? ⟨w8.heap.size, 1, none⟩ = some (.int .i64 (q.at_ : Int)) := b1
              obtain rfl : m = ck := by have := HMg.out; omega
              clear hbx11 hM11d hfl hbxd hmg
              go_wp2_with fail
              go_region_held3 (fun w' => w'.cell? ⟨w8.heap.size, 1, none⟩ = some (.int .i64 (q.at_ : Int))) (first | exact b1 | exact d1 | exact f1)
                (first | (go_at_call 29; refine (HCost.out _).mono ?_; rintro r w' ⟨rfl, rfl⟩) | (go_at_call 31; refine HFl.out.mono ?_; rintro r w12 ⟨rfl, f1, hF⟩; have HF := hidden hF; clear hF))
              all_goals
                have hca2 := HCA.out _ HF.out.at.fresh
                have HDm := hidden (exf_doom HF.out (by omega))
                clear b1 d1 HFl
                by_cases h128 : 128 ≤ ai
                · have t8 : decide ((128 : Int) ≤ ((ai : Nat) : Int)) = true := by rw [decide_eq_true_eq]; omega
                  go_wp2_with fail
                  refine HDm.out.mono ?_
                  rintro r w13 ⟨rfl, htk⟩
                  have HTk := hidden htk
                  clear htk HDm
                  go_wp2_with fail
                  refine HTk.out.mono ?_
                  rintro r w14 ⟨tv, tcap, rfl, hex⟩
                  have HEx := hidden hex
                  clear hex HTk
                  go_wp2_with fail
                  go_roundg (len - (i + 1))
                  case measure => have := HIg.out; omega
                  case rel => exact ⟨i + 1, by go_num, by have := HIg.out; omega, HEx.out⟩
                · have t8 : decide ((128 : Int) ≤ ((ai : Nat) : Int)) = false := by rw [decide_eq_false_iff_not]; omega
                  go_wp2_with fail
                  go_roundg (len - (i + 1))
                  case measure => have := HIg.out; omega
                  case rel => exact ⟨i + 1, by go_num, by have := HIg.out; omega, HF.out.at⟩
    · have HR : Hid (Told w (.bool true) (.returned (.bool true)) wr) := ⟨rfl, hex.fresh⟩
      obtain rfl : i = len := by omega
      clear hex hig HIg
      go_wp2_with fail
      first | exact HR.out | (go_ret; exact HR.out)
end Go.Proofs.YtcnbbenmlffgpaaGreatDoor

/- What the row's listed variables say of memory: the tables lie. No condition. -/
namespace Go.Proofs.YtcnbbenmlffgpaaGreatDoor
open Go.RowKit

def laids : List (String × DataW Unit) := [("math/bits.deBruijn32tab", Rows.laid_math_bits_deBruijn32tab), ("math/bits.deBruijn64tab", Rows.laid_math_bits_deBruijn64tab), ("quartermaster/pool.costs", Rows.laid_quartermaster_pool_costs)]
def dbt32 : List Int := [0, 1, 28, 2, 29, 14, 24, 3, 30, 22, 20, 15, 25, 17, 4, 8, 31, 27, 13, 23, 21, 19, 16, 7, 26, 12, 18, 6, 11, 5, 10, 9]
theorem g32 : Tryz.prog.globalNamed "math/bits.deBruijn32tab" = some 2 := by kernel_rfl
theorem t32 : (Tryz.prog.globals[2]?).map (·.type) = some 264 := by kernel_rfl
theorem g64 : Tryz.prog.globalNamed "math/bits.deBruijn64tab" = some 1 := by kernel_rfl
theorem gCost : Tryz.prog.globalNamed "quartermaster/pool.costs" = some 0 := by kernel_rfl
theorem t64 : (Tryz.prog.globals[1]?).map (·.type) = some 239 := by kernel_rfl
theorem tCost : (Tryz.prog.globals[0]?).map (·.type) = some 176 := by kernel_rfl
theorem env_of_laid {W : World} (h : laidMetH Tryz.prog laids W) : Env W := by
  rw [MakeChecks.laidMetH_plain _ _ _ (by kernel_rfl)] at h
  have h1 : laidMet Tryz.prog (("math/bits.deBruijn32tab", Lib.tabData .u8 dbt32) :: [("math/bits.deBruijn64tab", Rows.laid_math_bits_deBruijn64tab), ("quartermaster/pool.costs", Rows.laid_quartermaster_pool_costs)]) W := h
  have hA := Lib.tabIs_of_head g32 t32 Tryz.underlying264 Tryz.underlying5 (by kernel_rfl) (by kernel_rfl) h1
  have h2 : laidMet Tryz.prog (("math/bits.deBruijn64tab", Lib.tabData .u8 (dbt.map fun (n : Nat) => (n : Int))) :: [("quartermaster/pool.costs", Rows.laid_quartermaster_pool_costs)]) W := laidMet.tail h1
  have h3 : laidMet Tryz.prog (("quartermaster/pool.costs", Lib.tabData .i64 costL) :: []) W := laidMet.tail h2
  have hB := Lib.tabIs_of_head g64 t64 Tryz.underlying239 Tryz.underlying5 (by kernel_rfl) (by kernel_rfl) h2
  have hC := Lib.tabIs_of_head gCost tCost Tryz.underlying176 Tryz.underlying3 (by kernel_rfl) (by kernel_rfl) h3
  have cB : TabB W := by
    intro j v hv
    have hj := (List.getElem?_eq_some_iff.1 hv).1
    have := hB.cell g64 j (by simpa using hj)
    rw [this]
    congr 2
    simp [List.getD, hv]
  have cC : TabC W := by
    intro j v hv
    have hj := (List.getElem?_eq_some_iff.1 hv).1
    have := hC.cell gCost j (by simpa using hj)
    rw [this]
    congr 2
    simp [List.getD, hv]
  refine ⟨?_, cB, cC⟩
  have c0 := World.block_lt_of_cell? W ⟨1, 0, none⟩ (cB 0 0 rfl)
  have c1 := World.block_lt_of_cell? W ⟨0, 0, none⟩ (cC 0 0 rfl)
  have c2 := World.block_lt_of_cell? W ⟨2, 0, none⟩ (hA.cell g32 0 (by decide))
  have c0' : 1 < W.heap.size := c0
  have c1' : 0 < W.heap.size := c1
  have c2' : 2 < W.heap.size := c2
  unfold GB
  omega
end Go.Proofs.YtcnbbenmlffgpaaGreatDoor

/-
  CoreExact returns true at every input, whatever lies in memory, where the listed variables lie as laid.
  By hand, after the frame of the guide's worked examples. Not trusted: Lean checks it.
-/
namespace Go.Proofs.YtcnbbenmlffgpaaGreatDoor.coreExact
open Go.ChangeShapes Go.WideShapes Go.ChangeAt Go.RowKit
set_option linter.unusedVariables false

theorem own : ownKnob Tryz.prog.godebug = none := by kernel_rfl
theorem laidOut : laidOutB Tryz.prog = true := by kernel_rfl
/-- The door's own heap meets the condition: closed facts. -/
theorem door_met (os : Os) (args : Array Value) : laidMetH Tryz.prog laids ((World.doorLaid Tryz.prog 400 os).forCall (fun _ _ => 0) ⟨#[], args, []⟩).memory :=
  laidMetH_of_parts3 (fuel := 8) (laidMet_of_run' 8 (by kernel_rfl) (by kernel_rfl)) (by kernel_rfl) (by kernel_rfl)

set_option maxRecDepth 100000 in
theorem lifted (os : Os) (started : os.Started) (H : Type) (enc : TypeId × Value → H) :
    ReturnsInHanded {} Tryz.checked os 5 .any (fun w args => (Rows.coreExactSpec.pre enc Tryz.prog Tryz.f5 [] false w args ∧ laidMetH Tryz.prog laids w) ∧ sizedMet enc Tryz.prog Tryz.f5 (OpenSpec.ofChange Rows.coreExactSpec) false w args)
      (Rows.coreExactSpec.post enc Tryz.prog Tryz.f5 false true false false) := by
  refine returnsInHanded_of_change_and (C := Tryz.checked) (X := fun w _ => laidMetH Tryz.prog laids w) (fun _ _ _ hh h => h.of_heap hh) own started (by kernel_rfl) Tryz.func5
    (ChangeSpec.witness_shaped (enc := enc) (C := Tryz.checked) (os := os) (X := fun w _ => laidMetH Tryz.prog laids w) false (World.doorLaid Tryz.prog 400 os) #[.int .u16 0, .slice none 0 0, .int .u8 0] 8 rfl (World.shaped_of_RefB (by kernel_rfl) (by kernel_rfl)) (by kernel_rfl) (by kernel_rfl) (by kernel_rfl) (door_met os _)) ?_
  intro W base args ds gs before hval0 hW _ _ hL _
  have hval : ∀ (j : Nat) t v, Tryz.f5.params[j]? = some t → args[j]? = some v → Value.okWide Tryz.prog W .any base t v := hval0
  have hW' := hW
  obtain ⟨p, q, hA0, hV, rfl, hfz, hnd⟩ := hW
  have hA : DataW.TrodAll enc Tryz.prog W 0 (fun _ => true) true Tryz.f5.params.toList args.toList ds p := hA0
  rw [Tryz.params5] at hA hval
  obtain ⟨v0, v1, v2, d0, d1, d2, p0, p1, p2, rfl, rfl, rfl, h0, h1, h2⟩ := trodAll_three hA
  obtain ⟨rfl, rfl⟩ := trodVars_none hV
  obtain ⟨n0, rfl, rfl, rfl, wf0⟩ := open_int Tryz.underlying49 (hval 0 49 v0 rfl rfl) h0
  have hb0 : 0 ≤ n0 ∧ n0 < 65536 := by
    have := bounds_u16 wf0
    omega
  obtain ⟨m0, rfl⟩ := Int.eq_ofNat_of_zero_le hb0.1
  obtain ⟨a1, len1, cap1, rfl⟩ := okWide_slice Tryz.underlying50 (hval 1 50 v1 rfl rfl)
  have k1 := h1
  have lt1 : ∀ x ∈ p1, x.block < W.heap.size := by obtain ⟨m, hm⟩ := k1; exact DataW.trod_lt m _ _ _ hm
  obtain ⟨A1, hAct1⟩ : ∃ A, IsB8 W a1 len1 A := by
    obtain ⟨fuel, hf⟩ := h1
    exact open_b8s (by simpa [Value.cells] using hf)
  obtain ⟨n2, rfl, rfl, rfl, wf2⟩ := open_int Tryz.underlying5 (hval 2 5 v2 rfl rfl) h2
  have hb2 : 0 ≤ n2 ∧ n2 < 256 := by
    have := bounds_u8 wf2
    omega
  obtain ⟨m2, rfl⟩ := Int.eq_ofNat_of_zero_le hb2.1
  clear hA0 hval0
  refine (exact_any (env_of_laid hL) m0 (by omega) a1 len1 cap1 A1 hAct1 m2 (by omega)).mono fun e W' ⟨he, bel⟩ => ?_
  subst he
  exact ⟨_, rfl, _, _, _, [], _, [], hW', trodAll_mk1 (shut_bool Tryz.underlying4 _), trodAll_mk3 (shut_int Tryz.underlying49 wf0) (Below.trod laidOut (by kernel_rfl) (of_decide_eq_true (by kernel_rfl)) k1 bel lt1) (shut_int Tryz.underlying5 wf2), rfl, bel.frame _, fun h => by cases h⟩

theorem over : Rows.coreExactRow.holds Tryz.pinned (OpenSpec.ofChange Rows.coreExactSpec) :=
  OpenClaim.holds_of_wide 5 Tryz.f5 rfl rfl rfl rfl rfl rfl rfl ⟨rfl, rfl, rfl, rfl, rfl⟩ rfl rfl rfl rfl rfl (by kernel_rfl) Tryz.func5 (by kernel_rfl)
    (of_decide_eq_true (by kernel_rfl)) (by unfold Func.isWrapper; first | (rw [if_pos (by decide +kernel)]; kernel_rfl) | (rw [if_neg (by decide +kernel)]; exact ⟨rfl, rfl⟩))
    (fun os started H enc _ => lifted os started H enc)

/-- THE ROW. -/
theorem proved : Rows.CoreExactSaid := over
end Go.Proofs.YtcnbbenmlffgpaaGreatDoor.coreExact
