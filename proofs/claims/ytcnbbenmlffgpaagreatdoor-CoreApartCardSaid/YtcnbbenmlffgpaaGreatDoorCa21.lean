/- CoreApart returns true at every input. No condition. Part of its proof. -/
import Derived.Test.YtcnbbenmlffgpaaGreatDoorCa20
import Derived.Test.YtcnbbenmlffgpaaGreatDoorCa03
import Derived.Shelf.SlSortCmp.NoneTotal
import Derived.Shelf.SlIterI.Nil
import Derived.Shelf.SortM.Plain
import Derived.Shelf.SortM.SortNone
import Derived.Shelf.SlGeneric
import Derived.Ground.GgzProg
import Derived.Ground.SlgmProg
import Derived.Test.YtcnbbenmlffgpaaGreatDoorProg
import Derived.Test.YtcnbbenmlffgpaaGreatDoorCa14
set_option linter.unusedVariables false
/- Walks of the allocator's sorted: a row of blocks is put in order. Condition: the slice owns its row. -/
namespace Go.Proofs.YtcnbbenmlffgpaaGreatDoor
open Go.RowKit Go.Shelf
open Go.Sort (flatK HoldsK putRowK)

set_option maxHeartbeats 1000000 in
theorem sorted1_any (x y : Nat × Nat) (W : World) : Calls Tryz.prog 140 #[.agg (encB x).toArray, .agg (encB y).toArray] W fun e w' => e = .returned (.int .i64 (cmpI (x.1 : Int) (y.1 : Int))) ∧ ∃ q os', w' = Go.Sort.grow (W.drewN q) os' := by
  have hc := fun w : World => cmp_any (w := w) (x.1 : Int) (y.1 : Int)
  generalize cmpI (x.1 : Int) (y.1 : Int) = c at *
  unfold encB
  go_enter Tryz.func140, Tryz.ntmps140
  go_wp2_with (go_at_call 141; refine (hc _).mono ?_; rintro e w' ⟨rfl, rfl⟩)
  go_ret
  exact ⟨rfl, 0, _, by rw [Go.Sort.alloc_eq_grow, Go.Sort.alloc_eq_grow, Go.Sort.grow_grow]; rfl⟩
def cfB (x y : Nat × Nat) : Int := cmpI (x.1 : Int) (y.1 : Int)
theorem ltB (x y : Nat × Nat) : ltOf cfB x y = decide (x.1 < y.1) := by
  unfold ltOf cfB cmpI
  by_cases h1 : (x.1 : Int) < (y.1 : Int)
  · have : x.1 < y.1 := by omega
    simp [h1, this]
  · have h1' : ¬ x.1 < y.1 := by omega
    by_cases h2 : (y.1 : Int) < (x.1 : Int) <;> simp [h1, h1', h2]
theorem swoB : Go.Sort.SWO (ltOf cfB) where
  irrefl x := by rw [ltB]; simp
  trans x y z h1 h2 := by rw [ltB] at *; simp at *; omega
  ntrans x y z h1 h2 := by rw [ltB] at *; simp at *; omega
theorem bcellsL_get (l : List (Nat × Nat)) (k : Nat) (x : Nat × Nat) (h : l[k]? = some x) : (bcellsL l)[k * 2]? = some (.int .i64 (x.1 : Int)) ∧ (bcellsL l)[k * 2 + 1]? = some (.int .i64 (x.2 : Int)) := by
  induction l generalizing k with
  | nil => simp at h
  | cons y r ih =>
    cases k with
    | zero => simp at h; subst h; exact ⟨rfl, rfl⟩
    | succ k =>
      have := ih k (by simpa using h)
      have e1 : (k + 1) * 2 = (k * 2) + 1 + 1 := by omega
      have e2 : (k + 1) * 2 + 1 = (k * 2 + 1) + 1 + 1 := by omega
      rw [e1]
      exact ⟨this.1, this.2⟩
theorem bcellsL_len (l : List (Nat × Nat)) : (bcellsL l).length = l.length * 2 := by
  induction l with
  | nil => rfl
  | cons y r ih =>
    show (_ :: _ :: bcellsL r).length = _
    simp [ih]; omega
theorem flat_list (d : Array (Nat × Nat)) : (flatK encB 2 d).toList = bcellsL d.toList := by
  apply List.ext_getElem?
  intro t
  rcases Nat.lt_or_ge t (d.size * 2) with h | h
  · have hk : t / 2 < d.size := by omega
    have hx : d.toList[t / 2]? = some d[t / 2]! := by
      rw [getElem!_pos d (t / 2) hk, Array.getElem?_toList, Array.getElem?_eq_getElem hk]
    obtain ⟨e1, e2⟩ := bcellsL_get d.toList (t / 2) _ hx
    have e0 : (flatK encB 2 d).toList[t]? = some ((encB d[t / 2]!)[t % 2]!) := by
      simp [flatK, h]
    rw [e0]
    rcases Nat.mod_two_eq_zero_or_one t with hm | hm
    · have ht : t = t / 2 * 2 := by omega
      rw [hm]
      conv => rhs; rw [ht]
      rw [e1]; rfl
    · have ht : t = t / 2 * 2 + 1 := by omega
      rw [hm]
      conv => rhs; rw [ht]
      rw [e2]; rfl
  · rw [List.getElem?_eq_none (by simp; omega), List.getElem?_eq_none (by rw [bcellsL_len]; simpa using h)]
theorem perm_lists {d d' : Array (Nat × Nat)} (h : Go.Sort.PermIn 0 d.size d d') : d'.toList.Perm d.toList ∧ d'.size = d.size := by
  obtain ⟨h1, _, h3⟩ := h
  refine ⟨?_, h1⟩
  have e1 : d'.extract 0 d.size = d' := by rw [← h1]; simp
  rw [e1] at h3
  simpa using h3
theorem sorted_list {d : Array (Nat × Nat)} {n : Nat} (hn : n = d.size) (h : Go.Sort.SortedIn (ltOf cfB) 0 n d) : d.toList.Pairwise (fun a b => a.1 ≤ b.1) := by
  subst hn
  rw [List.pairwise_iff_getElem]
  intro i j hi hj hij
  have := h i j (Nat.zero_le _) hij (by simpa using hj)
  rw [ltB] at this
  simp only [decide_eq_false_iff_not, Nat.not_lt] at this
  rw [getElem!_pos d i (by simpa using hi), getElem!_pos d j (by simpa using hj)] at this
  simpa using this
theorem holds_of_row {w : World} {g : Nat} {cur : Array Value} {e : TypeId} {L : List (Nat × Nat)} (hb : w.heap[g]? = some (.cells cur e (0, 0))) (ht : cur.toList.take (L.length * 2) = bcellsL L) : HoldsK encB 2 w g 0 L.toArray := by
  intro j hj
  have hj' : j < L.length * 2 := by simpa using hj
  refine ⟨?_, by simp [World.frozen?, hb]⟩
  have h1 : (cur.toList.take (L.length * 2))[j]? = (flatK encB 2 L.toArray).toList[j]? := by rw [ht, flat_list]
  rw [List.getElem?_take_of_lt hj'] at h1
  simp only [World.cell?, hb, Nat.zero_add, Option.isSome_none, Bool.false_eq_true, if_false, id]
  rw [← Array.getElem?_toList, h1, getElem!_pos _ j hj]
  simp [hj']
theorem take_putCellsB (cur F : Array Value) (h : F.size ≤ cur.size) : (Go.Sort.putCells id 0 F cur).toList.take F.size = F.toList := by
  apply List.ext_getElem?
  intro j
  by_cases hj : j < F.size
  · rw [List.getElem?_take_of_lt hj, Array.getElem?_toList]
    simp [Go.Sort.putCells, hj, show j < cur.size by omega]
  · rw [List.getElem?_take_eq_none (by omega), List.getElem?_eq_none (by simp; omega)]
theorem heap_sortedB {w : World} {g n : Nat} {os : Array Obj} {cur : Array Value} {e : TypeId} (d : Array (Nat × Nat)) (hb : w.heap[g]? = some (.cells cur e (0, 0))) :
    (sortWorldK encB 2 w g 0 n d os).heap[g]? = some (.cells (Go.Sort.putCells id 0 (flatK encB 2 d) cur) e (0, 0)) := by
  have hg : g < w.heap.size := (Array.getElem?_eq_some_iff.1 hb).1
  unfold sortWorldK putRowK
  rw [Go.Sort.heap_grow_old _ _ (by simpa using hg)]
  simp [Go.Sort.putRow, Go.Sort.mapBlock, Go.Sort.ahead, Array.getElem?_modify, hb, Go.Sort.onCells]
theorem grown_sortedB {w : World} {g n : Nat} {os : Array Obj} (d : Array (Nat × Nat)) : w.grownBy (sortWorldK encB 2 w g 0 n d os) (some g) := by
  unfold sortWorldK putRowK
  refine ⟨rfl, rfl, rfl, by simp, fun k hk hne => ?_⟩
  rw [Go.Sort.heap_grow_old _ _ (by simpa using hk)]
  have : g ≠ k := fun e => hne (by rw [e])
  simp [Go.Sort.putRow, Go.Sort.mapBlock, Go.Sort.ahead, Array.getElem?_modify, this]
set_option maxHeartbeats 1000000 in
theorem sorted_any {w w1 : World} {v : Value} {L : List (Nat × Nat)} (h : OutB w w1 v L) (hl : L.length ≤ 22020096) : Calls Tryz.prog 89 #[v] w1 (SortedP w.heap.size L v w1) := by
  obtain ⟨⟨hlen, hrow⟩, hb⟩ := h
  rcases hrow with ⟨rfl, h0⟩ | ⟨g, cap, cur, rfl, hg, hgb, hn, hm, hs, ht⟩
  · have hL : L = [] := List.eq_nil_of_length_eq_zero h0
    subst hL
    have hcon := AnyF.slices_SortFunc_none sortBlk none 0 (.func (.func 140) #[] #[]) w1
    change Calls Tryz.prog 139 _ _ _ at hcon
    have HR : Hid (SortedP w.heap.size [] (.slice none 0 0) w1 (.returned (.slice none 0 0)) w1) := ⟨rfl, [], List.Perm.refl _, List.Pairwise.nil, ⟨rfl, .inl ⟨rfl, rfl⟩⟩, Below.refl _ _⟩
    clear hlen hb h0 hl
    go_enter Tryz.func89, Tryz.ntmps89
    go_wp2_with (go_at_call 139; refine hcon.mono ?_; rintro e w' ⟨rfl, rfl⟩)
    go_ret
    exact HR.out
  · have eg : ∀ args w, (callFunc 140 args).run Tryz.prog w = .ok (.enter 140 args) w := enters_of Tryz.func140 (by kernel_rfl) rfl
    have hcm : CmpLays Tryz.prog 140 #[] encB 2 cfB g 0 L.toArray.size w1 := fun _ _ _ _ x y => sorted1_any x y _
    have hcon := AnyQ.slices_SortFunc sortBlk 2 Tryz.isAgg105 Tryz.sizeOf105 encB (fun _ => rfl) (fun x v hv => by simp [encB] at hv; rcases hv with rfl | rfl <;> rfl) cfB swoB 140 #[] g 0 cap L.toArray w1 eg hcm (holds_of_row hgb ht) (lt_of_block hgb) (by simp; omega)
    change Calls Tryz.prog 139 _ _ _ at hcon
    have HR : Hid (∀ w2, (∃ d' n os, Go.Sort.PermIn 0 L.toArray.size L.toArray d' ∧ Go.Sort.SortedIn (ltOf cfB) 0 L.toArray.size d' ∧ w2 = sortWorldK encB 2 w1 g 0 n d' os) → SortedP w.heap.size L (.slice (some ⟨g, 0, none⟩) L.length cap) w1 (.returned (.slice (some ⟨g, 0, none⟩) L.length cap)) w2) := by
      rintro w2 ⟨d', n, os, hp, hsd, rfl⟩
      obtain ⟨p1, p2⟩ := perm_lists hp
      have p1' : d'.toList.Perm L := by simpa using p1
      have p3 : d'.toList.length = L.length := p1'.length_eq
      refine ⟨rfl, d'.toList, p1', sorted_list p2.symm hsd, ⟨bcellsL_len _, .inr ⟨g, cap, _, by rw [p3], hg, heap_sortedB d' hgb, by rw [p3]; exact hn, hm, by simp [Go.Sort.putCells, hs], ?_⟩⟩, ?_⟩
      · have e : d'.toList.length * 2 = (flatK encB 2 d').size := by simp
        rw [e, take_putCellsB _ _ (by rw [← e, p3, hs]; omega), flat_list]
      · have hgr := grown_sortedB (w := w1) (g := g) (n := n) (os := os) d'
        exact ⟨hgr.os, hgr.tape, hgr.output, hgr.size, fun k hk => by
          rcases Nat.lt_or_ge k w1.heap.size with e | e
          · exact hgr.block k e (fun e' => by cases e'; omega)
          · have := hb.size; omega⟩
    rw [List.size_toArray] at hcon
    have HCon : Hid (∀ (r : Ending) (w2 : World), (r = .returned (.tuple #[]) ∧ ∃ d' n os, Go.Sort.PermIn 0 L.length L.toArray d' ∧ Go.Sort.SortedIn (ltOf cfB) 0 L.length d' ∧ w2 = sortWorldK encB 2 w1 g 0 n d' os) → r = .returned (.tuple #[]) ∧ SortedP w.heap.size L (.slice (some ⟨g, 0, none⟩) L.length cap) w1 (.returned (.slice (some ⟨g, 0, none⟩) L.length cap)) w2) := fun r w2 ⟨e, hx⟩ => ⟨e, HR.out w2 (by simpa using hx)⟩
    clear HR hlen hgb ht hs hn hm hcm eg hl hb hg
    generalize L.length = ll at *
    go_enter Tryz.func89, Tryz.ntmps89
    go_wp2_with fail
    refine hcon.mono ?_
    intro r w2 hx
    obtain ⟨rfl, hy⟩ := HCon.out _ _ hx
    have HY := hidden hy
    clear hx hy
    go_wp2_with fail
    go_ret
    exact HY.out
theorem bfree_any {w : World} {d : BD} {G : Nat → Nat → Bool} (h : Sep w d.hl) (hi : d.Is G) : Calls Tryz.prog 42 #[.pointer (some ⟨d.b, 0, none⟩)] w (NewBlks w (freeTo G d.top (d.top + 1))) :=
  free_walk h hi fun _ _ _ ho hl _ => sorted_any ho hl
end Go.Proofs.YtcnbbenmlffgpaaGreatDoor

/- CoreBack, one call behind the other. Conditions: the blocks hold what CO.hl says. -/
namespace Go.Proofs.YtcnbbenmlffgpaaGreatDoor
open Go.RowKit

/-- All that is live is under the first factory. -/
theorem all_under {S : CO} {fr : List Nat} {N K : Nat} (ok : S.Ok fr N K) : ∀ (x : Nat) (q : Pl), pget S.l 1 x = some q → x ≠ 0 → x ∈ under S.l S.P.q.next.toNat 0 := by
  have t := ok.inv.tree
  obtain ⟨r, r1, r2, r3, r4, r5, r6⟩ := ok.inv.que.root
  have hroot : pget S.l 1 0 = some r := pget_some.2 ⟨r1, by simp [nm, r5], r4⟩
  have key : ∀ n x q, q.fac < n → pget S.l 1 x = some q → x ≠ 0 → x ∈ under S.l S.P.q.next.toNat 0 := by
    intro n
    induction n with
    | zero => intro x q h; omega
    | succ n ih =>
      intro x q hn hq hx
      obtain ⟨a1, a2, a3⟩ := pget_some.1 hq
      have hi0 := root_name ok.inv.que hq hx
      obtain ⟨f, hf, f1, f2, f3⟩ := ok.inv.que.live (x % 256) q a1 hi0 a3
      obtain ⟨j, hj⟩ := List.mem_iff_getElem?.1 hf
      have hj256 : j < 256 := by have := (List.getElem?_eq_some_iff.1 hj).1; rw [ok.inv.len] at this; exact this
      have hfp : pget S.l 1 (nm j f) = some f := pget_some.2 ⟨by rw [nm_mod hj256]; exact hj, by rw [nm_mod hj256], f1⟩
      refine under_all t hroot r2 hq hx hx ?_
      by_cases h0 : nm j f = 0
      · left
        rw [h0, hroot] at hfp; cases hfp
        rw [← f3]
      · right
        have hlt := t.rise _ f hfp h0 f2
        exact ⟨nm j f, ih _ f (by omega) hfp h0, f, hfp, f2, f3⟩
  exact fun x q hq hx => key (q.fac + 1) x q (by omega) hq hx
theorem Step.beside {w w' : World} {A A' D : HL} (h : Sep w (A ++ D)) (st : Step A A' w w') : Step (A ++ D) (A' ++ D) w w' := Step.frame [] D h st
/-- The core under way, another one beside it. -/
def BkAt (S0 D : CO) (N K : Nat) (w wr : World) : Prop := ∃ (S : CO) (fr : List Nat), S.Ok fr N K ∧ Went S0 S ∧ Step [] (S.hl ++ D.hl) w wr
theorem bk_play {S0 D : CO} {N K : Nat} {w wr : World} (h : BkAt S0 D N K w wr) (hN : N + 1 < 1048576) (hK : K + 20 < 1048575) (x : A5) (hx : x.Wf) : Calls Tryz.prog 14 #[.pointer (some ⟨S0.c, 0, none⟩), .agg #[.int .i64 x.kind, .int .i64 x.n, .int .i64 x.k, .int .i64 x.m, .int .u32 x.h]] wr fun r w' => r = .returned (.tuple #[]) ∧ BkAt S0 D (N + 1) (K + 20) w w' := by
  obtain ⟨S, fr, ok, wt, st⟩ := h
  have := play_any st.sep.left ok hN hK x hx
  rw [wt.c] at this
  refine this.mono ?_
  rintro r w' ⟨rfl, ⟨S', fr', ok', wt', st'⟩, _⟩
  exact ⟨rfl, S', fr', ok', wt.trans wt', st.trans (st'.beside st.sep)⟩
/-- Those of L from i on are still to be doomed. -/
def BdAt (S0 D S1 : CO) (N K : Nat) (L : List Nat) (ua : Option Addr) (i : Nat) (w wr : World) : Prop := ∃ (S : CO) (fr : List Nat), S.Ok fr N K ∧ Went S0 S ∧ S.now = S1.now ∧ Dmd S1.l (L.take i) S.l ∧ Step [] (S.hl ++ D.hl) w wr ∧ Aside (S.hl ++ D.hl) L ua wr
theorem BdAt.row {S0 D S1 : CO} {N K : Nat} {L : List Nat} {ua : Option Addr} {i : Nat} {w wr : World} (h : BdAt S0 D S1 N K L ua i w wr) {j x : Nat} (hj : L[j]? = some x) : ∃ g, ua = some ⟨g, 0, none⟩ ∧ wr.cell? ⟨g, j, none⟩ = some (.int .u32 (x : Int)) := by
  obtain ⟨S, fr, _, _, _, _, _, hsd⟩ := h
  obtain ⟨g, h1, _, _, h4⟩ := hsd j x hj
  exact ⟨g, h1, h4⟩
theorem bk_under {S0 D : CO} {N K : Nat} {w wr : World} (h : BkAt S0 D N K w wr) : Calls Tryz.prog 17 #[.pointer (some ⟨S0.c, 0, none⟩), .int .u32 0] wr fun r w' => ∃ (S1 : CO) (fr : List Nat) (L : List Nat) (ua : Option Addr) (cap : Nat), r = .returned (.slice ua L.length cap) ∧ L.length ≤ 256 ∧ S1.Ok fr N K ∧ L = under S1.l S1.P.q.next.toNat 0 ∧ BdAt S0 D S1 N K L ua 0 w w' := by
  obtain ⟨S, fr, ok, wt, st⟩ := h
  have := cunder_any st.sep.left ok (x := 0) (by omega)
  rw [wt.c] at this
  refine this.mono ?_
  intro r w' hr
  obtain ⟨a, cap, rfl, hb, hsd⟩ := hr.aside st.sep
  refine ⟨S, fr, _, a, cap, rfl, ?_, ok, rfl, S, fr, ok, wt, rfl, by rw [List.take_zero]; exact Dmd.nil _, st.trans (st.sep.grown hb), hsd⟩
  have h1 := pre_len ok.inv.tree 0
  rw [pre_split ok.inv.tree 0, List.length_cons, List.length_reverse] at h1
  omega
theorem bk_doom {S0 D S1 : CO} {fr1 : List Nat} {N1 K1 N K : Nat} (ok1 : S1.Ok fr1 N1 K1) {L : List Nat} (hL : L = under S1.l S1.P.q.next.toNat 0) {ua : Option Addr} {j x : Nat} {w wr : World} (hu : BdAt S0 D S1 N K L ua j w wr) (hK : K ≤ 1048576) (hj : L[j]? = some x) :
    Calls Tryz.prog 19 #[.pointer (some ⟨S0.c, 0, none⟩), .int .u32 (x : Int)] wr fun r w' => r = .returned (.int .i64 0) ∧ BdAt S0 D S1 N K L ua (j + 1) w w' := by
  obtain ⟨S, fr, ok, wt, en, d, st, hsd⟩ := hu
  have t := ok1.inv.tree
  obtain ⟨r, r1, r2, r3, r4, r5, r6⟩ := ok1.inv.que.root
  have hroot : pget S1.l 1 0 = some r := pget_some.2 ⟨r1, by simp [nm, r5], r4⟩
  have hsp : under S1.l S1.P.q.next.toNat 0 = L.take j ++ x :: L.drop (j + 1) := by
    rw [← hL]
    have e := (List.getElem?_eq_some_iff.1 hj).2
    rw [← e, List.getElem_cons_drop, List.take_append_drop]
  obtain ⟨q, h1, h2, h3, h4, h5, h6, h7⟩ := under_row t hroot r2 hsp
  have hxA : x ∉ L.take j := fun hm => h5 x hm rfl
  have hl0 : S1.l.length ≤ 256 := by rw [ok1.inv.lok.1]; exact Nat.le_refl _
  have hl1 : S.l.length ≤ 256 := by rw [ok.inv.lok.1]; exact Nat.le_refl _
  have hkids := d.none_left hl0 hl1 h6
  have hx : pget S.l 1 x = some q := by rw [d x, if_neg hxA]; exact h1
  have := cdoom_any st.sep.left ok hK (pget_lt ok hx)
  rw [wt.c] at this
  refine this.mono ?_
  rintro r w' (⟨e, _⟩ | ⟨_, e, _⟩ | ⟨_, _, e, _⟩ | ⟨p', rv, hp', h0, hk', hov, rfl, st'⟩)
  · rw [hx] at e; cases e
  · exact absurd e h3
  · exact absurd hkids e
  · have sb := st'.beside st.sep
    refine ⟨rfl, _, fr, ok.doomed hp' h0 hk' hov, wt.trans (Went.doomed ok hp' h0 rv), en, ?_, st.trans sb, hsd.step sb⟩
    have : L.take (j + 1) = L.take j ++ [x] := by rw [List.take_add_one, hj]; rfl
    rw [this]
    exact d.step (dmd_set hp')
/-- So many ticks went by behind the dooming. -/
def BtAt (S0 D : CO) (N K n t0 i : Nat) (w wr : World) : Prop := ∃ (S : CO) (fr : List Nat), S.Ok fr N (K + i) ∧ Went S0 S ∧ S.now = t0 + i ∧ (∀ x p, pget S.l 1 x = some p → x = 0) ∧ (∀ t ∈ S.ts, t.2 ≤ t0 + n) ∧ Step [] (S.hl ++ D.hl) w wr
theorem BdAt.ticks {S0 D S1 : CO} {fr1 : List Nat} {N K n : Nat} (ok1 : S1.Ok fr1 N K) (hper : S0.period = n) {L : List Nat} (hL : L = under S1.l S1.P.q.next.toNat 0) {ua : Option Addr} {w wr : World} (hu : BdAt S0 D S1 N K L ua L.length w wr) : BtAt S0 D N K n S1.now 0 w wr := by
  obtain ⟨S, fr, ok, wt, en, d, st, hsd⟩ := hu
  rw [List.take_length] at d
  refine ⟨S, fr, ok, wt, en, fun x p hp => ?_, fun t ht => ?_, st⟩
  · apply Classical.byContradiction
    intro h0
    rw [d x] at hp
    split at hp
    · cases hp
    · rename_i hm
      exact hm (by rw [hL]; exact all_under ok1 x p hp h0)
  · have := (ok.due t ht).2
    rw [wt.per, hper, en] at this
    exact this
theorem bk_tick {S0 D : CO} {N K n t0 i : Nat} {w wr : World} (h : BtAt S0 D N K n t0 i w wr) (hK : K + i < 1048575) : Calls Tryz.prog 20 #[.pointer (some ⟨S0.c, 0, none⟩)] wr fun r w' => (∃ a : Value, r = .returned a) ∧ BtAt S0 D N K n t0 (i + 1) w w' := by
  obtain ⟨S, fr, ok, wt, en, hlv, hts, st⟩ := h
  have := ctick_any st.sep.left ok hK
  rw [wt.c] at this
  refine this.mono ?_
  rintro r w' ⟨rv, S', fr', v, rfl, hrow, hov, htk, ok', st', hoff⟩
  refine ⟨⟨_, rfl⟩, S', fr', ok', wt.trans htk.went, ?_, fun x p hp => ?_, fun t ht => ?_, st.trans (st'.beside st.sep)⟩
  · rw [htk.now]; show S.now + 1 = _; omega
  · rw [htk.live] at hp; exact hlv x p hp
  · rw [htk.ts] at ht
    exact hts t ((List.dropWhile_sublist _).subset ht)
/-- Two cores of which nothing is left but the first factory have the same free blocks. -/
theorem alone_ps {S0 S : CO} {fr0 fr : List Nat} {N0 K0 N K : Nat} (ok0 : S0.Ok fr0 N0 K0) (ok : S.Ok fr N K) (wt : Went S0 S) (h0 : ∀ x p, pget S0.l 1 x = some p → x = 0) (t0 : S0.ts = []) (h1 : ∀ x p, pget S.l 1 x = some p → x = 0) (t1 : S.ts = []) : S.P.d.ps.Perm S0.P.d.ps := by
  obtain ⟨r0, a0, rfl⟩ := ok0.alone h0 t0
  obtain ⟨r, a, rfl⟩ := ok.alone h1 t1
  have hr : r = r0 := by
    have := a.root
    rw [wt.root, a0.root] at this
    exact (Option.some.inj this).symm
  refine ps_perm ok0.inv.mem.pool ok.inv.mem.pool (fun k => ?_) (List.Perm.refl _)
  by_cases hk0 : k = 0
  · subst hk0; exact List.Perm.refl _
  · by_cases hk6 : 6 ≤ k
    · exact wt.high k hk6
    · rw [a.used k (by omega) (by omega), a0.used k (by omega) (by omega), hr]
end Go.Proofs.YtcnbbenmlffgpaaGreatDoor

/- The kit's contracts of maps.Keys, slices.Sorted and slices.Sort at whole numbers, laid at this program: tables of numbers and three theorems. No condition. -/
namespace Go.Proofs.YtcnbbenmlffgpaaGreatDoor
open Go.Shelf
def keysI_ren : Go.Shelf.Ren := ⟨fun | 7 => 94 | 10 => 144 | n => n, fun | 23 => 170 | 26 => 3 | 3 => 131 | 28 => 168 | 0 => 0 | 27 => 167 | 33 => 129 | 4 => 4 | n => n, fun | n => n⟩
theorem keysI : Go.Proofs.SlLaysZI.n7 Tryz.prog keysI_ren := {
  mixed := by kernel_rfl
  f7 := ⟨Tryz.f94.name, by decide, Tryz.func94.trans (congrArg some (by kernel_rfl))⟩
  f10 := ⟨Tryz.f144.name, by decide, Tryz.func144.trans (congrArg some (by kernel_rfl))⟩
  t0 := Tryz.underlying0
  a0 := Tryz.isAgg0
  z0 := Tryz.sizeOf0
  v0 := Tryz.zeroValue0
  t4 := Tryz.underlying4
  a4 := Tryz.isAgg4
  z4 := Tryz.sizeOf4
  v4 := Tryz.zeroValue4
  t23 := Tryz.underlying170
  a23 := Tryz.isAgg170
  z23 := Tryz.sizeOf170
  v23 := Tryz.zeroValue170
  t26 := Tryz.underlying3
  a26 := Tryz.isAgg3
  z26 := Tryz.sizeOf3
  v26 := Tryz.zeroValue3
  t27 := Tryz.underlying167
  a27 := Tryz.isAgg167
  z27 := Tryz.sizeOf167
  v27 := Tryz.zeroValue167
  t28 := Tryz.underlying168
  a28 := Tryz.isAgg168
  z28 := Tryz.sizeOf168
  v28 := Tryz.zeroValue168
  t33 := Tryz.underlying129
  a33 := Tryz.isAgg129
  z33 := Tryz.sizeOf129
  v33 := Tryz.zeroValue129 }
def sortedI_ren : Go.Shelf.Ren := ⟨fun | 6 => 93 | 8 => 142 | 9 => 143 | 11 => 169 | 13 => 167 | 12 => 170 | 23 => 196 | 24 => 197 | 14 => 198 | 15 => 199 | 16 => 200 | 17 => 201 | 18 => 202 | 19 => 203 | 20 => 204 | 21 => 205 | 22 => 206 | 25 => 214 | 26 => 210 | 27 => 211 | 28 => 215 | 29 => 216 | 30 => 168 | 31 => 219 | n => n, fun | 26 => 3 | 28 => 168 | 24 => 57 | 0 => 0 | 3 => 3 | 37 => 103 | 48 => 27 | 50 => 193 | 4 => 4 | 40 => 254 | 39 => 253 | 45 => 233 | 5 => 5 | 9 => 9 | 51 => 265 | 55 => 269 | 57 => 274 | 58 => 94 | 33 => 129 | n => n, fun | n => n⟩
theorem sortedI : Go.Proofs.SlLaysZI.n6 Tryz.prog sortedI_ren := {
  mixed := by kernel_rfl
  f6 := ⟨Tryz.f93.name, by decide, Tryz.func93.trans (congrArg some (by kernel_rfl))⟩
  f8 := ⟨Tryz.f142.name, by decide, Tryz.func142.trans (congrArg some (by kernel_rfl))⟩
  f11 := ⟨Tryz.f169.name, by decide, Tryz.func169.trans (congrArg some (by kernel_rfl))⟩
  t0 := Tryz.underlying0
  a0 := Tryz.isAgg0
  z0 := Tryz.sizeOf0
  v0 := Tryz.zeroValue0
  t24 := Tryz.underlying57
  a24 := Tryz.isAgg57
  z24 := Tryz.sizeOf57
  v24 := Tryz.zeroValue57
  t26 := Tryz.underlying3
  a26 := Tryz.isAgg3
  z26 := Tryz.sizeOf3
  v26 := Tryz.zeroValue3
  t28 := Tryz.underlying168
  a28 := Tryz.isAgg168
  z28 := Tryz.sizeOf168
  v28 := Tryz.zeroValue168
  i26 := by kernel_rfl }
def sortI_ren : Go.Shelf.Ren := ⟨fun | 5 => 143 | 8 => 167 | 7 => 170 | 19 => 196 | 20 => 197 | 10 => 198 | 11 => 199 | 12 => 200 | 13 => 201 | 14 => 202 | 15 => 203 | 16 => 204 | 17 => 205 | 18 => 206 | 30 => 214 | 31 => 210 | 32 => 211 | 33 => 215 | 34 => 216 | 35 => 168 | 40 => 219 | n => n, fun | 23 => 57 | 25 => 3 | 3 => 3 | 32 => 103 | 22 => 57 | 0 => 0 | 44 => 27 | 46 => 193 | 4 => 4 | 36 => 254 | 35 => 253 | 41 => 233 | 5 => 5 | 9 => 9 | 53 => 265 | 57 => 269 | 63 => 274 | 64 => 94 | n => n, fun | n => n⟩
theorem sortI : Go.Proofs.SlLaysM.n5 Tryz.prog sortI_ren := {
  mixed := by kernel_rfl
  f5 := ⟨Tryz.f143.name, by decide, Tryz.func143.trans (congrArg some (by kernel_rfl))⟩
  f7 := ⟨Tryz.f170.name, by decide, Tryz.func170.trans (congrArg some (by kernel_rfl))⟩
  f8 := Tryz.func167.trans (congrArg some (by kernel_rfl))
  f10 := ⟨Tryz.f198.name, by decide, Tryz.func198.trans (congrArg some (by kernel_rfl))⟩
  f11 := ⟨Tryz.f199.name, by decide, Tryz.func199.trans (congrArg some (by kernel_rfl))⟩
  f12 := ⟨Tryz.f200.name, by decide, Tryz.func200.trans (congrArg some (by kernel_rfl))⟩
  f13 := ⟨Tryz.f201.name, by decide, Tryz.func201.trans (congrArg some (by kernel_rfl))⟩
  f14 := ⟨Tryz.f202.name, by decide, Tryz.func202.trans (congrArg some (by kernel_rfl))⟩
  f15 := ⟨Tryz.f203.name, by decide, Tryz.func203.trans (congrArg some (by kernel_rfl))⟩
  f16 := ⟨Tryz.f204.name, by decide, Tryz.func204.trans (congrArg some (by kernel_rfl))⟩
  f17 := ⟨Tryz.f205.name, by decide, Tryz.func205.trans (congrArg some (by kernel_rfl))⟩
  f18 := ⟨Tryz.f206.name, by decide, Tryz.func206.trans (congrArg some (by kernel_rfl))⟩
  f19 := Tryz.func196.trans (congrArg some (by kernel_rfl))
  f20 := Tryz.func197.trans (congrArg some (by kernel_rfl))
  f30 := ⟨Tryz.f214.name, by decide, Tryz.func214.trans (congrArg some (by kernel_rfl))⟩
  f31 := Tryz.func210.trans (congrArg some (by kernel_rfl))
  f32 := Tryz.func211.trans (congrArg some (by kernel_rfl))
  f33 := ⟨Tryz.f215.name, by decide, Tryz.func215.trans (congrArg some (by kernel_rfl))⟩
  f34 := ⟨Tryz.f216.name, by decide, Tryz.func216.trans (congrArg some (by kernel_rfl))⟩
  f35 := ⟨Tryz.f168.name, by decide, Tryz.func168.trans (congrArg some (by kernel_rfl))⟩
  f40 := ⟨Tryz.f219.name, by decide, Tryz.func219.trans (congrArg some (by kernel_rfl))⟩
  t0 := Tryz.underlying0
  a0 := Tryz.isAgg0
  z0 := Tryz.sizeOf0
  v0 := Tryz.zeroValue0
  t3 := Tryz.underlying3
  a3 := Tryz.isAgg3
  z3 := Tryz.sizeOf3
  v3 := Tryz.zeroValue3
  t4 := Tryz.underlying4
  a4 := Tryz.isAgg4
  z4 := Tryz.sizeOf4
  v4 := Tryz.zeroValue4
  t5 := Tryz.underlying5
  a5 := Tryz.isAgg5
  z5 := Tryz.sizeOf5
  v5 := Tryz.zeroValue5
  t9 := Tryz.underlying9
  a9 := Tryz.isAgg9
  z9 := Tryz.sizeOf9
  v9 := Tryz.zeroValue9
  t22 := Tryz.underlying57
  a22 := Tryz.isAgg57
  z22 := Tryz.sizeOf57
  v22 := Tryz.zeroValue57
  t23 := Tryz.underlying57
  a23 := Tryz.isAgg57
  z23 := Tryz.sizeOf57
  v23 := Tryz.zeroValue57
  t25 := Tryz.underlying3
  a25 := Tryz.isAgg3
  z25 := Tryz.sizeOf3
  v25 := Tryz.zeroValue3
  t32 := Tryz.underlying103
  a32 := Tryz.isAgg103
  z32 := Tryz.sizeOf103
  v32 := Tryz.zeroValue103
  t35 := Tryz.underlying253
  a35 := Tryz.isAgg253
  z35 := Tryz.sizeOf253
  v35 := Tryz.zeroValue253
  t36 := Tryz.underlying254
  a36 := Tryz.isAgg254
  z36 := Tryz.sizeOf254
  v36 := Tryz.zeroValue254
  t41 := Tryz.underlying233
  a41 := Tryz.isAgg233
  z41 := Tryz.sizeOf233
  v41 := Tryz.zeroValue233
  t44 := Tryz.underlying27
  a44 := Tryz.isAgg27
  z44 := Tryz.sizeOf27
  v44 := Tryz.zeroValue27
  t46 := Tryz.underlying193
  a46 := Tryz.isAgg193
  z46 := Tryz.sizeOf193
  v46 := Tryz.zeroValue193
  t53 := Tryz.underlying265
  a53 := Tryz.isAgg265
  z53 := Tryz.sizeOf265
  v53 := Tryz.zeroValue265
  t57 := Tryz.underlying269
  a57 := Tryz.isAgg269
  z57 := Tryz.sizeOf269
  v57 := Tryz.zeroValue269
  t63 := Tryz.underlying274
  a63 := Tryz.isAgg274
  z63 := Tryz.sizeOf274
  v63 := Tryz.zeroValue274
  t64 := Tryz.underlying94
  a64 := Tryz.isAgg94
  z64 := Tryz.sizeOf94
  v64 := Tryz.zeroValue94 }
end Go.Proofs.YtcnbbenmlffgpaaGreatDoor

/- Walk of the tree's Ids: the ids, sorted, in a new row. Conditions: the tree's blocks hold what QT.hl says; the ids are small numbers. -/
namespace Go.Proofs.YtcnbbenmlffgpaaGreatDoor
open Go.RowKit Go.Maps Go.Sort Go.Shelf

abbrev idR : Value → Option (DataW Unit × List MemPlace) := fun _ => some (.nil, [])
theorem owns_mapInt {w : World} {m : Nat} {kv : List (Int × Value)} (h : MapInt w m kv) {P : Program} {k : TypeId} (hk : P.underlying k = some (.int .i64)) (hsz : kv.length ≤ maxLen) (hid : ∀ p ∈ kv, (Lit.int .i64 p.1).wf = true) :
    ∃ D : DataW Unit, w.ownsMap P k idR m kv.length D ∧ (intKeys D).Perm (kv.map (·.1)) ∧ Maps.size D = kv.length := by
  obtain ⟨es, clock, hb, hs, hr⟩ := h
  have hlen : es.size = kv.length := by
    have := congrArg List.length hr
    simpa using this
  have hrd : ∀ p ∈ kv, keyOf P k (.int .i64 p.1) = some (.int .i64 p.1) := fun p hp => keyOf_int_mk hk (hid p hp)
  have hmem : ∀ x ∈ es.toList, ∃ p ∈ kv, x.key = .int .i64 p.1 := by
    intro x hx
    have hm : (x.key, x.val) ∈ kv.map (fun p => (Value.int .i64 p.1, p.2)) := by
      rw [← hr]; exact List.mem_map.2 ⟨x, hx, rfl⟩
    obtain ⟨p, hp, he⟩ := List.mem_map.1 hm
    exact ⟨p, hp, ((Prod.mk.injEq _ _ _ _).mp he).1.symm⟩
  have hF : WideElems.Fit P k idR es clock := by
    refine ⟨by omega, hs, fun x hx => ?_⟩
    obtain ⟨p, hp, he⟩ := hmem x hx
    exact ⟨(.int .i64 p.1, .nil), by simp [WideElems.rd, he, hrd p hp]⟩
  have hrg : es.toList.map (WideElems.rg P k idR) = kv.map fun (p : Int × Value) => (Lit.int .i64 p.1, (DataW.nil : DataW Unit)) := by
    have e1 : es.toList.map (WideElems.rg P k idR) = (es.toList.map fun (e : MapEntry) => (e.key, e.val)).map fun (z : Value × Value) => ((keyOf P k z.1).map fun (key : Lit) => (key, (DataW.nil : DataW Unit))).getD (.bool false, .nil) := by
      rw [List.map_map]
      refine List.map_congr_left fun x _ => ?_
      cases hkx : keyOf P k x.key <;> simp [WideElems.rg, WideElems.rd, hkx]
    rw [e1, hr, List.map_map]
    refine List.map_congr_left fun p hp => ?_
    simp [hrd p hp]
  refine ⟨_, ⟨es, clock, hb, hF, by omega, rfl⟩, ?_, ?_⟩
  · show (List.map (fun (p : Lit × DataW Unit) => Go.intOf p.1) _).Perm _
    refine ((WideShapes.sorted_perm _).map _).trans ?_
    rw [hrg, List.map_map]
    exact List.Perm.of_eq rfl
  · show (List.foldr DataW.insert [] _).length = _
    rw [length_sorted, hrg]
    simp

/-- slices.Sort's two contracts at this program. -/
theorem sortsI (m : Nat) : AnyZI.SortsIn Tryz.prog sortedI_ren Fence.wide m :=
  ⟨fun blk off cap ss W hH hblk hsz => callsIn_wide.2 (AnyM.slices_Sort_int sortI blk off cap ss W hH hblk hsz),
   fun p cap W => callsIn_wide.2 (AnyM.slices_Sort_int_none sortI p cap W)⟩

def IdsQ (w : World) (q : QT) (e : Ending) (w' : World) : Prop :=
  ∃ v, e = .returned v ∧ w'.ownsRow w.heap.size 3 1 v q.E.length (((q.E.map (·.id)).mergeSort leI).map encZ) ∧ Below w.heap.size w w'
set_option maxHeartbeats 2000000 in
theorem qids_any {w : World} {q : QT} (h : Sep w q.hl) (hsz : q.E.length ≤ 1000) (hid : ∀ e ∈ q.E, 0 ≤ e.id ∧ e.id < 1048576) :
    Calls Tryz.prog 50 #[ptr q.t] w (IdsQ w q) := by
  have hl : (kvs q.E).length = q.E.length := by simp [kvs]
  obtain ⟨D, hown, hperm, hD⟩ := owns_mapInt (QT.map h) (k := 3) Tryz.underlying3 (by rw [hl]; unfold maxLen; omega) (by
    intro p hp
    obtain ⟨e, he, rfl⟩ := List.mem_map.1 hp
    have := hid e he
    have h1 : IntKind.i64.min = -9223372036854775808 := rfl
    have h2 : IntKind.i64.max = 9223372036854775807 := rfl
    simp only [Lit.wf, Bool.and_eq_true, decide_eq_true_eq, h1, h2]
    omega)
  have hperm' : (intKeys D).Perm (q.E.map (·.id)) := by
    unfold kvs at hperm
    rw [List.map_map] at hperm
    exact hperm
  have c0 := QT.c0 h
  have hbl := hown.lt
  have hseq : SeqGives Fence.wide 2 Tryz.prog 144 #[.pointer (some ⟨w.heap.size, 0, none⟩)] encZ (fun ss => ss.Perm (intKeys D)) (Maps.size D) (w.alloc (.cells #[.map (some q.m)] 170)) :=
    AnyZI.keys_gives (ρ := keysI_ren) { keysI with } Fence.wide _ trivial rfl (by omega) w.heap.size q.m (kvs q.E).length D _ (by simp) (by simp) (by
      obtain ⟨es, clock, hb, Ft, hs, hD⟩ := hown
      exact ⟨es, clock, (Below.heap_alloc _ _ q.m hbl).trans hb, Ft, hs, hD⟩)
  have cK : ∀ mb W, Calls Tryz.prog 94 #[.map mb] W fun e w' => e = .returned (.func (.func 144) #[] #[.pointer (some ⟨W.heap.size, 0, none⟩)]) ∧ w' = W.alloc (.cells #[.map mb] 170) := fun mb W => (callsIn_wide (n := 5)).1 (AnyZI.keys_in keysI Fence.wide 5 trivial rfl mb W)
  have cS := AnyZI.sorted_in sortedI Fence.wide 5 trivial trivial trivial trivial rfl (by omega) (sortsI _) (enters_of Tryz.func143 (by kernel_rfl) rfl) 144 #[.pointer (some ⟨w.heap.size, 0, none⟩)] trivial (enters_of Tryz.func144 (by kernel_rfl) rfl) _ _ (by rw [hD, hl]; unfold maxLen; omega) (by rw [hD, hl]; omega) _ hseq
  change CallsIn _ _ Tryz.prog 93 _ _ _ at cS
  have cS := callsIn_wide.1 cS
  have hfin : ∀ e w', (∃ (v : Value) (ss : List Int), e = .returned v ∧ ss.Perm (intKeys D) ∧
      w'.ownsRow (w.alloc (.cells #[.map (some q.m)] 170)).heap.size 3 1 v ss.length ((ss.mergeSort (fun x y => decide (x ≤ y))).map encZ) ∧ (v = .slice none 0 0 ↔ ss = []) ∧ Below (w.alloc (.cells #[.map (some q.m)] 170)).heap.size (w.alloc (.cells #[.map (some q.m)] 170)) w') → IdsQ w q e w' := by
    rintro e w' ⟨v, ss, rfl, hS, hrow, _, hb⟩
    have hp := hS.trans hperm'
    rw [mergeSort_of_perm_i hp, show ss.length = q.E.length by simpa using hp.length_eq] at hrow
    exact ⟨v, rfl, ownsRow_base_a hrow (by simp), ((Below.refl _ w).alloc (Nat.le_refl _) _).trans (hb.mono (by simp))⟩
  have HF := hidden hfin
  generalize hQ : IdsQ w q = Q at *
  clear h hid hown hperm hperm' hseq hD hfin hQ hl hsz
  unfold ptr at *
  go_enter Tryz.func50, Tryz.ntmps50
  go_wp2_with (first
    | (go_at_call 94; refine (cK _ _).mono ?_; rintro e w' ⟨rfl, rfl⟩)
    | (go_at_call 93; refine cS.mono ?_; intro e w' hres; have HR := hidden hres; obtain ⟨v, ss, rfl, hS, hrow, hnil, hb⟩ := hres; clear hS hrow hnil hb))
  exact HF.out _ _ HR.out
end Go.Proofs.YtcnbbenmlffgpaaGreatDoor

/- CoreBack: how it ends. Conditions: the blocks hold what CO.hl says. -/
namespace Go.Proofs.YtcnbbenmlffgpaaGreatDoor
open Go.RowKit

set_option maxRecDepth 20000 in
theorem newL_only {a x : Nat} {p : Pl} (h : pget (newL a) 1 x = some p) : x = 0 := by
  obtain ⟨h1, h2, h3⟩ := pget_some.1 h
  by_cases h0 : x % 256 = 0
  · rw [h0] at h1 h2
    have : p = ⟨1, a, 0, 1, 0, 0⟩ := by
      unfold newL at h1
      rw [List.getElem?_cons_zero] at h1
      exact (Option.some.inj h1).symm
    subst this
    simp only [nm] at h2
    omega
  · exfalso
    have : p = noPl 0 := by
      unfold newL at h1
      obtain ⟨m, hm⟩ := Nat.exists_eq_succ_of_ne_zero h0
      rw [hm, List.getElem?_cons_succ] at h1
      exact List.eq_of_mem_replicate (List.mem_of_getElem? h1)
    subst this
    cases h3
/-- What is known of the two cores at the end. -/
structure BeS (S D : CO) : Prop where
  ok : ∃ fr N K, S.Ok fr N K
  okd : D.Ok [] 1 0
  al : ∃ r, Alone S r
  top : S.P.d.top = 6
  topd : D.P.d.top = 6
  ps : S.P.d.ps.Perm [0]
  psd : D.P.d.ps = [0]
theorem BtAt.ends {S0 D : CO} {N K n t0 : Nat} {limit : Int} {w wr : World} (hS0 : FreshO S0 6 limit n) (hD : FreshO D 6 65536 n) (h : BtAt S0 D N K n t0 n w wr) : ∃ S : CO, S.c = S0.c ∧ BeS S D ∧ Step [] (S.hl ++ D.hl) w wr := by
  obtain ⟨S, fr, ok, wt, en, hlv, hts, st⟩ := h
  have hts0 : S.ts = [] := by
    cases e : S.ts with
    | nil => rfl
    | cons t r =>
      have h1 := (ok.due t (by rw [e]; exact List.mem_cons_self)).1
      have h2 := hts t (by rw [e]; exact List.mem_cons_self)
      omega
  obtain ⟨r, a, rfl⟩ := ok.alone hlv hts0
  refine ⟨S, wt.c, ⟨⟨_, _, _, ok⟩, hD.ok, ⟨r, a⟩, wt.same.top.trans hS0.top, hD.top, ?_, hD.ps⟩, st⟩
  have := alone_ps hS0.ok ok wt (fun x p hp => by rw [hS0.l] at hp; exact newL_only hp) hS0.ts hlv hts0
  rw [hS0.ps] at this
  exact this
section
variable {S D : CO} {w wr : World}
/-- Free of both, and the comparing. -/
theorem be_free (e : BeS S D) (st : Step [] (S.hl ++ D.hl) w wr) : ∃ pp bb : Nat, (Calls Tryz.prog 24 #[.pointer (some ⟨S.c, 0, none⟩)] wr fun r w' => r = .returned (.pointer (some ⟨pp, 0, none⟩)) ∧ wr = w') ∧
    (Calls Tryz.prog 41 #[.pointer (some ⟨pp, 0, none⟩)] wr fun r w' => r = .returned (.pointer (some ⟨bb, 0, none⟩)) ∧ wr = w') ∧
    (Calls Tryz.prog 42 #[.pointer (some ⟨bb, 0, none⟩)] wr fun r w1 => ∃ (a : Option Addr) (len cap pd bd : Nat), r = .returned (.slice a len cap) ∧
      (Calls Tryz.prog 24 #[.pointer (some ⟨D.c, 0, none⟩)] w1 fun r w' => r = .returned (.pointer (some ⟨pd, 0, none⟩)) ∧ w1 = w') ∧
      (Calls Tryz.prog 41 #[.pointer (some ⟨pd, 0, none⟩)] w1 fun r w' => r = .returned (.pointer (some ⟨bd, 0, none⟩)) ∧ w1 = w') ∧
      (Calls Tryz.prog 42 #[.pointer (some ⟨bd, 0, none⟩)] w1 fun r w2 => ∃ (a' : Option Addr) (cap' : Nat), r = .returned (.slice a' len cap') ∧
        Calls Tryz.prog 40 #[.slice a len cap, .slice a' len cap'] w2 (Told w (.bool true)))) := by
  obtain ⟨fr, N, K, ok⟩ := e.ok
  have s1 : Sep wr S.hl := st.sep.left
  refine ⟨S.P.p, S.P.d.b, cmemory_any s1, pblocks_any (CO.sP s1), ?_⟩
  refine (bfree_any (PL.sD (CO.sP s1)) ok.inv.mem.pool.d.is).mono ?_
  intro r w1 hr
  obtain ⟨a, cap, L, rfl, hp, hs, hb, hrd, _⟩ := hr.reads
  have st1 := st.trans (st.sep.grown hb)
  have s2 : Sep w1 D.hl := st1.sep.right
  refine ⟨a, L.length, cap, D.P.p, D.P.d.b, rfl, cmemory_any s2, pblocks_any (CO.sP s2), ?_⟩
  refine (bfree_any (PL.sD (CO.sP s2)) e.okd.inv.mem.pool.d.is).mono ?_
  intro r w2 hr2
  obtain ⟨a', cap', M, rfl, hp', hs', hb', hrd', _⟩ := hr2.reads
  have st2 := st1.trans (st1.sep.grown hb')
  have hu : ∀ p, uOf S.P.d.ps p = uOf D.P.d.ps p := fun p => by
    unfold uOf
    rw [e.psd]
    have : p ∈ S.P.d.ps ↔ p ∈ [0] := e.ps.mem_iff
    simp only [this]
  rw [e.top] at hp
  rw [e.topd] at hp'
  have hLM : L = M := free_uniq hu hp hp' hs hs'
  subst hLM
  refine ⟨a', cap', rfl, ?_⟩
  have hlen : L.length ≤ 33554432 := by
    rw [hp.length_eq]
    exact Nat.le_trans (freeTo_len _ 6 (by omega) 7) (by omega)
  refine (sameb_any w2 a a' cap cap' L (hrd.below hb') hrd' hlen).mono ?_
  rintro r w3 ⟨rfl, hb3⟩
  exact ⟨rfl, (st2.trans (st2.sep.grown hb3)).fresh⟩
/-- The ids. -/
theorem be_ids (e : BeS S D) (st : Step [] (S.hl ++ D.hl) w wr) : ∃ pp qt : Nat, (Calls Tryz.prog 24 #[.pointer (some ⟨S.c, 0, none⟩)] wr fun r w' => r = .returned (.pointer (some ⟨pp, 0, none⟩)) ∧ wr = w') ∧
    (Calls Tryz.prog 26 #[.pointer (some ⟨pp, 0, none⟩)] wr fun r w' => r = .returned (.pointer (some ⟨qt, 0, none⟩)) ∧ wr = w') ∧
    (Calls Tryz.prog 28 #[.pointer (some ⟨qt, 0, none⟩), .int .i64 0] wr fun r w1 => r = .returned (.int .i64 64) ∧
      (Calls Tryz.prog 24 #[.pointer (some ⟨S.c, 0, none⟩)] w1 fun r w' => r = .returned (.pointer (some ⟨pp, 0, none⟩)) ∧ w1 = w') ∧
      (Calls Tryz.prog 26 #[.pointer (some ⟨pp, 0, none⟩)] w1 fun r w' => r = .returned (.pointer (some ⟨qt, 0, none⟩)) ∧ w1 = w') ∧
      (Calls Tryz.prog 50 #[.pointer (some ⟨qt, 0, none⟩)] w1 fun r w2 => ∃ (a : Option Addr) (cap : Nat), r = .returned (.slice a 1 cap) ∧ Step [] (S.hl ++ D.hl) w w2)) := by
  obtain ⟨fr, N, K, ok⟩ := e.ok
  obtain ⟨r, al⟩ := e.al
  obtain ⟨x, hE, x0, xc, xg, xk⟩ := al.acc
  have hf : find S.P.q.E 0 = some x := by rw [hE]; unfold find; rw [if_pos x0.symm]
  have s1 : Sep wr S.hl := st.sep.left
  refine ⟨S.P.p, S.P.q.t, cmemory_any s1, pquota_any (CO.sP s1), ?_⟩
  have hu := quse_some (PL.sQ (CO.sP s1)) ok.inv.mem.pool.q hf
  rw [xc, xg] at hu
  refine hu.mono ?_
  rintro r w1 ⟨rfl, hb⟩
  have st1 := st.trans (st.sep.grown hb)
  have s2 : Sep w1 S.hl := st1.sep.left
  refine ⟨rfl, cmemory_any s2, pquota_any (CO.sP s2), ?_⟩
  refine (qids_any (PL.sQ (CO.sP s2)) (by rw [hE]; show 1 ≤ 1000; omega) (fun y hy => by rw [hE] at hy; rw [List.mem_singleton.1 hy, x0]; omega)).mono ?_
  rintro r w2 ⟨v, rfl, hrow, hb2⟩
  have hl : S.P.q.E.length = 1 := by rw [hE]; rfl
  rw [hl] at hrow
  have st2 := st1.trans (st1.sep.grown hb2)
  rcases hrow.2 with ⟨_, h0⟩ | ⟨g, cap, cur, rfl, _⟩
  · omega
  · exact ⟨_, cap, rfl, st2⟩
/-- What is live, what still waits. -/
theorem be_live (e : BeS S D) (st : Step [] (S.hl ++ D.hl) w wr) : Calls Tryz.prog 15 #[.pointer (some ⟨S.c, 0, none⟩)] wr fun r w1 => ∃ (a : Option Addr) (cap : Nat), r = .returned (.slice a 1 cap) ∧
    Calls Tryz.prog 32 #[.pointer (some ⟨S.c, 0, none⟩)] w1 fun r w2 => ∃ (a : Option Addr) (cap : Nat), r = .returned (.slice a 0 cap) ∧ Step [] (S.hl ++ D.hl) w w2 := by
  obtain ⟨fr, N, K, ok⟩ := e.ok
  obtain ⟨r, al⟩ := e.al
  refine (clive_any st.sep.left ok.inv.lok).mono ?_
  intro r w1 hr
  rw [al.live] at hr
  obtain ⟨a, cap, rfl, hb, _⟩ := hr.aside st.sep
  have st1 := st.trans (st.sep.grown hb)
  refine ⟨a, cap, rfl, ?_⟩
  refine (czombies_any st1.sep.left ok.inv.lok).mono ?_
  intro r w2 hr
  rw [al.zombies] at hr
  obtain ⟨a, cap, rfl, hb, _⟩ := hr.aside st1.sep
  exact ⟨a, cap, rfl, st1.trans (st1.sep.grown hb)⟩
end
end Go.Proofs.YtcnbbenmlffgpaaGreatDoor

/- CoreFails: a Make that fails leaves all that is asked. Conditions: the blocks hold what CO.hl says. -/
namespace Go.Proofs.YtcnbbenmlffgpaaGreatDoor
open Go.RowKit

/-- All that the law asks for is the same. -/
structure Alike (S S' : CO) : Prop where
  c : S'.c = S.c
  l : S'.l = S.l
  q : S'.P.q = S.P.q
  p : S'.P.p = S.P.p
  b : S'.P.d.b = S.P.d.b
  top : S'.P.d.top = S.P.d.top
  ps : S'.P.d.ps.Perm S.P.d.ps
theorem Alike.refl (S : CO) : Alike S S := ⟨rfl, rfl, rfl, rfl, rfl, rfl, List.Perm.refl _⟩
theorem MakeR.fails {S : CO} {fr : List Nat} {N K : Nat} (ok : S.Ok fr N K) {h : Nat} {k lim : Int} {w w' : World} {r : Ending} (m : MakeR S fr h k lim w r w') :
    (∃ x, r = two x 0 ∧ ∃ S' fr', S'.Ok fr' (N + 1) K ∧ Went S S' ∧ Step S.hl S'.hl w w') ∨ (∃ er, er ≠ 0 ∧ r = two 0 er ∧ ∃ S' fr', S'.Ok fr' (N + 1) K ∧ Went S S' ∧ Alike S S' ∧ Step S.hl S'.hl w w') := by
  obtain ⟨⟨x, er, e⟩, S', fr', ok', wt', _, st'⟩ := m.goes ok
  rcases m with ⟨_, rfl, st⟩ | ⟨f, _, ⟨_, rfl, st⟩ | ⟨_, _, rfl, st⟩ | ⟨n, e0, _, _, _, _, _, ⟨_, rfl, st⟩ | ⟨_, _, rfl, st⟩ | ⟨_, er0, P', hr, t, rfl, st⟩ | ⟨i, p, a, x0, P', fr0, h1, h2, _, _, rfl, mo, st⟩⟩⟩
  · exact .inr ⟨8, by decide, rfl, S, fr, ok.mono (by omega) (Nat.le_refl _), Went.refl S, Alike.refl S, st⟩
  · exact .inr ⟨10, by decide, rfl, S, fr, ok.mono (by omega) (Nat.le_refl _), Went.refl S, Alike.refl S, st⟩
  · exact .inr ⟨1, by decide, rfl, S, fr, ok.mono (by omega) (Nat.le_refl _), Went.refl S, Alike.refl S, st⟩
  · exact .inr ⟨5, by decide, rfl, S, fr, ok.mono (by omega) (Nat.le_refl _), Went.refl S, Alike.refl S, st⟩
  · exact .inr ⟨4, by decide, rfl, S, fr, ok.mono (by omega) (Nat.le_refl _), Went.refl S, Alike.refl S, st⟩
  · refine .inr ⟨er0, by rcases hr with ⟨h, _⟩ | ⟨h, _⟩ <;> omega, rfl, S.setP P', fr, (ok.tried t).mono (by omega) (Nat.le_refl _), Went.tried t, ⟨rfl, rfl, t.q, t.same.p, t.same.db, t.same.top, t.ps⟩, st⟩
  · exact .inl ⟨_, rfl, S', fr', ok', wt', st'⟩
theorem DoomR.fails {S : CO} {fr : List Nat} {N K : Nat} (ok : S.Ok fr N K) {h : Nat} {w w' : World} {r : Ending} (m : DoomR S h w r w') :
    (r = .returned (.int .i64 0) ∧ ∃ S' fr', S'.Ok fr' N K ∧ Went S S' ∧ Step S.hl S'.hl w w') ∨ (∃ er, er ≠ 0 ∧ r = .returned (.int .i64 er) ∧ Step S.hl S.hl w w') := by
  rcases m with ⟨_, rfl, st⟩ | ⟨_, _, rfl, st⟩ | ⟨_, _, _, rfl, st⟩ | ⟨p, rv, h1, h2, h3, h4, rfl, st⟩
  · exact .inr ⟨8, by decide, rfl, st⟩
  · exact .inr ⟨1, by decide, rfl, st⟩
  · exact .inr ⟨12, by decide, rfl, st⟩
  · exact .inl ⟨rfl, _, fr, ok.doomed h1 h2 h3 h4, Went.doomed ok h1 h2 rv, st⟩
end Go.Proofs.YtcnbbenmlffgpaaGreatDoor

/- CoreFails, one call behind the other: rows that lie beside the core. Conditions: the blocks hold what CO.hl says. -/
namespace Go.Proofs.YtcnbbenmlffgpaaGreatDoor
open Go.RowKit Go.Shelf

theorem infoInt : (Tryz.prog.info? 3).map (fun i => (i.zero, i.size, i.bytes)) = some (some (.int .i64 0), 1, 8) := by kernel_rfl
/-- A row of one cell each that lies beside H. -/
def AsideV (H : HL) (cs : List Value) (a : Option Addr) (w : World) : Prop := ∀ (j : Nat) (v : Value), cs[j]? = some v → ∃ g, a = some ⟨g, 0, none⟩ ∧ g ∉ keys H ∧ g < w.heap.size ∧ w.cell? ⟨g, j, none⟩ = some v
theorem AsideV.step {H H' : HL} {cs : List Value} {a : Option Addr} {w w' : World} (h : AsideV H cs a w) (st : Step H H' w w') : AsideV H' cs a w' := fun j x hj => by
  obtain ⟨g, h1, h2, h3, h4⟩ := h j x hj
  refine ⟨g, h1, fun hk => ?_, Nat.lt_of_lt_of_le h3 st.chg.size, (World.cell?_of_block (w := w) (st.chg.block g h3 h2)).trans h4⟩
  rcases st.new g hk with h' | h'
  · exact h2 h'
  · omega
theorem row_asideV {w w' : World} {H : HL} {T : TypeId} {size n : Nat} {v : Value} {cs : List Value} (hs : Sep w H) (h : w'.ownsRow w.heap.size T size v n cs) : ∃ (a : Option Addr) (cap : Nat), v = .slice a n cap ∧ AsideV H cs a w' := by
  obtain ⟨hl, h2⟩ := h
  rcases h2 with ⟨rfl, h0⟩ | ⟨g, cap, cur, rfl, hg, hgb, hn, hm, hsz, htk⟩
  · refine ⟨none, 0, by rw [h0], fun j x hj => ?_⟩
    have := (List.getElem?_eq_some_iff.1 hj).1
    rw [hl, h0, Nat.zero_mul] at this
    omega
  · refine ⟨_, cap, rfl, fun j x hj => ⟨g, rfl, fun hk => by have := hs.lt hk; omega, lt_of_block hgb, ?_⟩⟩
    rw [← hl] at htk
    rw [← htk, List.getElem?_take] at hj
    split at hj
    · simp only [World.cell?, hgb, Option.isSome_none, Bool.false_eq_true, if_false]
      rw [← Array.getElem?_toList]; exact hj
    · cases hj
/-- A row of blocks that lies beside H. -/
def AsideB (H : HL) (L : List (Nat × Nat)) (a : Option Addr) (w : World) : Prop := ∀ (j : Nat) (x : Nat × Nat), L[j]? = some x → ∃ g, a = some ⟨g, 0, none⟩ ∧ g ∉ keys H ∧ g < w.heap.size ∧ w.cell? ⟨g, j * 2, none⟩ = some (.int .i64 (x.1 : Int)) ∧ w.cell? ⟨g, j * 2 + 1, none⟩ = some (.int .i64 (x.2 : Int))
theorem AsideB.step {H H' : HL} {L : List (Nat × Nat)} {a : Option Addr} {w w' : World} (h : AsideB H L a w) (st : Step H H' w w') : AsideB H' L a w' := fun j x hj => by
  obtain ⟨g, h1, h2, h3, h4, h5⟩ := h j x hj
  have e := st.chg.block g h3 h2
  refine ⟨g, h1, fun hk => ?_, Nat.lt_of_lt_of_le h3 st.chg.size, (World.cell?_of_block (w := w) e).trans h4, (World.cell?_of_block (w := w) e).trans h5⟩
  rcases st.new g hk with h' | h'
  · exact h2 h'
  · omega
theorem AsideB.reads {H : HL} {L : List (Nat × Nat)} {a : Option Addr} {w : World} (h : AsideB H L a w) : ReadsB w a L := fun j x hj => by
  obtain ⟨g, h1, _, h3, h4, h5⟩ := h j x hj
  exact ⟨g, h1, h3, h4, h5⟩
/-- The core and what lies beside it: what was live, the ids, the free blocks. -/
structure FlS (H : HL) (LV : List Nat) (va : Option Addr) (ids : List Int) (ia : Option Addr) (F : List (Nat × Nat)) (fa : Option Addr) (w wr : World) : Prop where
  st : Step [] H w wr
  va : Aside H LV va wr
  ia : AsideV H (ids.map encZ) ia wr
  fa : AsideB H F fa wr
theorem FlS.step {H H' : HL} {LV : List Nat} {va : Option Addr} {ids : List Int} {ia : Option Addr} {F : List (Nat × Nat)} {fa : Option Addr} {w wr w' : World} (h : FlS H LV va ids ia F fa w wr) (st : Step H H' wr w') : FlS H' LV va ids ia F fa w w' :=
  ⟨h.st.trans st, h.va.step st, h.ia.step st, h.fa.step st⟩
theorem FlS.grown {H : HL} {LV : List Nat} {va : Option Addr} {ids : List Int} {ia : Option Addr} {F : List (Nat × Nat)} {fa : Option Addr} {w wr w' : World} (h : FlS H LV va ids ia F fa w wr) (hb : Below wr.heap.size wr w') : FlS H LV va ids ia F fa w w' := h.step (h.st.sep.grown hb)
/-- What Free tells, beside H. -/
structure FreeIs (S : CO) (F : List (Nat × Nat)) : Prop where
  perm : F.Perm (freeTo (fre (uOf S.P.d.ps) S.P.d.top) S.P.d.top (S.P.d.top + 1))
  sort : F.Pairwise (fun a b => a.1 ≤ b.1)
  len : F.length ≤ 33554432
theorem fl_free {S : CO} {fr : List Nat} {N K : Nat} {H : HL} {wr : World} (hs : Sep wr H) (h : Sep wr S.hl) (ok : S.Ok fr N K) : Calls Tryz.prog 42 #[.pointer (some ⟨S.P.d.b, 0, none⟩)] wr fun r w' => ∃ (a : Option Addr) (cap : Nat) (F : List (Nat × Nat)), r = .returned (.slice a F.length cap) ∧ FreeIs S F ∧ Below wr.heap.size wr w' ∧ AsideB H F a w' := by
  refine (bfree_any (PL.sD (CO.sP h)) ok.inv.mem.pool.d.is).mono ?_
  intro r w' hr
  obtain ⟨a, cap, L, rfl, hp, hsr, hb, hrd, hn⟩ := hr.reads
  refine ⟨a, cap, L, rfl, ⟨hp, hsr, ?_⟩, hb, fun j x hj => ?_⟩
  · rw [hp.length_eq]
    have ht := ok.inv.mem.pool.d.is.top
    have := freeTo_len (fre (uOf S.P.d.ps) S.P.d.top) S.P.d.top ht (S.P.d.top + 1)
    omega
  · obtain ⟨g, h1, h2, h3, h4⟩ := hrd j x hj
    refine ⟨g, h1, fun hk => ?_, h2, h3, h4⟩
    have : wr.heap.size ≤ g := hn _ h1
    have := hs.lt hk
    omega
/-- Two cores alike tell the same. -/
theorem FreeIs.same {S S' : CO} {F F' : List (Nat × Nat)} (h : FreeIs S F) (h' : FreeIs S' F') (al : Alike S S') : F' = F := by
  have hp := h'.perm
  have hs := h'.sort
  rw [al.top] at hp
  refine free_uniq (fun p => ?_) hp h.perm hs h.sort
  unfold uOf
  simp only [al.ps.mem_iff]
/-- What an account uses. -/
def useOf (E : List (En Fa)) (id : Int) : Int := match find E id with
  | some e => e.q.charged + e.q.given
  | none => 0
theorem fl_use {S : CO} {fr : List Nat} {N K : Nat} {wr : World} (h : Sep wr S.hl) (ok : S.Ok fr N K) (id : Int) : Calls Tryz.prog 28 #[.pointer (some ⟨S.P.q.t, 0, none⟩), .int .i64 id] wr (Told wr (.int .i64 (useOf S.P.q.E id))) := by
  unfold useOf
  cases hf : find S.P.q.E id with
  | some e => exact quse_some (PL.sQ (CO.sP h)) ok.inv.mem.pool.q hf
  | none =>
    refine (quse_none (PL.sQ (CO.sP h)) hf).mono ?_
    rintro r w' ⟨rfl, rfl⟩
    exact ⟨rfl, Below.refl _ _⟩
theorem accs_few {S : CO} {fr : List Nat} {N K : Nat} (ok : S.Ok fr N K) : S.P.q.E.length ≤ 256 := by
  have h := ok.inv.tre.ids.length_eq
  rw [List.length_map] at h
  have h2 : (ownsOf S.l).length ≤ S.l.length := List.length_filterMap_le _ _
  rw [ok.inv.len] at h2
  omega
/-- The ids that are told. -/
def idsOf (E : List (En Fa)) : List Int := (E.map (·.id)).mergeSort leI
theorem idsOf_len (E : List (En Fa)) : (idsOf E).length = E.length := by unfold idsOf; rw [List.length_mergeSort, List.length_map]
theorem fl_ids {S : CO} {fr : List Nat} {N K : Nat} {H : HL} {wr : World} (hs : Sep wr H) (h : Sep wr S.hl) (ok : S.Ok fr N K) : Calls Tryz.prog 50 #[.pointer (some ⟨S.P.q.t, 0, none⟩)] wr fun r w' => ∃ (a : Option Addr) (cap : Nat), r = .returned (.slice a (idsOf S.P.q.E).length cap) ∧ Below wr.heap.size wr w' ∧ AsideV H ((idsOf S.P.q.E).map encZ) a w' := by
  have hq := ok.inv.mem.pool.q
  refine (qids_any (PL.sQ (CO.sP h)) (by have := accs_few ok; omega) (fun e he => ?_)).mono ?_
  · have hf := find_of_mem hq.ids he
    have := hq.fa _ _ hf
    have := hq.next1
    omega
  · rintro r w' ⟨v, rfl, hrow, hb⟩
    obtain ⟨a, cap, rfl, ha⟩ := row_asideV hs hrow
    rw [idsOf_len]
    exact ⟨a, cap, rfl, hb, ha⟩
/-- Behind an append of a number to an own row. -/
theorem app_int {w : World} {H : HL} {rv : RV} {l : List Int} (h : Sep w (rowH rv 3 1 (l.map encZ) ++ H)) (hok : rvOk rv l.length) (hl : l.length ≤ 1000) (x : Int) (ty : TypeId) :
    ∃ rv' w', (Builtin.append_ #[57, 57] ty #[lvOf rv l.length, .slice (some ⟨w.heap.size, 0, none⟩) 1 1]).run Tryz.prog (w.alloc (.cells #[.int .i64 x] 3)) = .ok (lvOf rv' (l.length + 1)) w' ∧ rvOk rv' (l.length + 1) ∧ Step (rowH rv 3 1 (l.map encZ) ++ H) (rowH rv' 3 1 ((l ++ [x]).map encZ) ++ H) w w' := by
  obtain ⟨i0, hi, hz0, hz1, hz2⟩ := info_parts infoInt
  have ha := h.alloc (.cells #[.int .i64 x] 3)
  have hown := row_owns ha.left hok (by rw [List.length_map, Nat.mul_one])
  obtain ⟨v', w', hr, q1, q2, _, q4⟩ := run_append_own_at (P := Tryz.prog) (w.alloc (.cells #[.int .i64 x] 3)) 0 57 ty 3 i0 (.int .i64 0) 1 8 Tryz.underlying57 hi hz0 hz1 hz2 rfl (by decide) (lvOf rv l.length) l.length (l.map encZ) hown ⟨w.heap.size, 0, none⟩ 1 1 [.int .i64 x] rfl (by
    intro j u hj
    have := (Cells.new w 3 [.int .i64 x]).cell j u hj
    have e : (⟨w.heap.size, 0, none⟩ : Addr).add j = ⟨w.heap.size, j, none⟩ := by unfold Addr.add; split <;> simp_all
    rw [e]; exact this) (fun u hu => by rw [List.mem_singleton.1 hu]; rfl) (by unfold maxLen; omega) (by omega) (Nat.zero_le _)
  obtain ⟨rv', rfl, e2, e3⟩ := row_appended (A := []) (B := H) (by simpa using ha) q1 q2 q4
  refine ⟨rv', w', hr, e2, ?_⟩
  rw [List.map_append]
  have e4 : Step (rowH rv 3 1 (l.map encZ) ++ H) (rowH rv' 3 1 (l.map encZ ++ [encZ x]) ++ H) (w.alloc (.cells #[.int .i64 x] 3)) w' := by simpa using e3
  exact e4.from_alloc
end Go.Proofs.YtcnbbenmlffgpaaGreatDoor

/- All objects, live ones ahead of zombies, as plain lists; what they cost; what accounts give. No condition. -/
namespace Go.Proofs.YtcnbbenmlffgpaaGreatDoor
open Go.RowKit Go.Shelf

def obL (l : List Pl) : List Nat := allL l 1 ++ allL l 2
def obP (l : List Pl) (x : Nat) : Pl := l[x % 256]?.getD (noPl 0)
theorem obP_at {l : List Pl} {x : Nat} {p : Pl} (h : l[x % 256]? = some p) : obP l x = p := by unfold obP; rw [h]; rfl
theorem allTo_map {l : List Pl} (hl : l.length ≤ 256) (s : Nat) : ∀ k, k ≤ l.length → (allTo l s k).map (obP l) = (l.take k).filter fun p => decide (p.st = s) := by
  intro k
  induction k with
  | zero => intro _; simp [allTo_zero]
  | succ k ih =>
    intro hk
    have hg : l[k]? = some l[k] := List.getElem?_eq_getElem (by omega)
    rw [allTo_succ hg, List.take_add_one, hg, List.map_append, ih (by omega), List.filter_append]
    congr 1
    by_cases h : l[k].st = s
    · rw [if_pos h, List.map_singleton, obP_at (by rw [nm_mod (by omega)]; exact hg)]
      simp [h]
    · rw [if_neg h]
      simp [h]
theorem allL_map {l : List Pl} (hl : l.length ≤ 256) (s : Nat) : (allL l s).map (obP l) = l.filter fun p => decide (p.st = s) := by
  unfold allL
  rw [allTo_map hl s l.length (Nat.le_refl _), List.take_length]
theorem sum_two (f : Pl → Int) (h : ∀ p : Pl, p.is = false → f p = 0) : ∀ l : List Pl, ((l.filter fun p => decide (p.st = 1)).map f).sum + ((l.filter fun p => decide (p.st = 2)).map f).sum = (l.map f).sum
  | [] => rfl
  | p :: r => by
    have ih := sum_two f h r
    rw [List.map_cons, List.sum_cons]
    by_cases h1 : p.st = 1
    · rw [List.filter_cons_of_pos (by simpa using h1), List.filter_cons_of_neg (by simp [h1]), List.map_cons, List.sum_cons]; omega
    · by_cases h2 : p.st = 2
      · rw [List.filter_cons_of_neg (by simpa using h1), List.filter_cons_of_pos (by simpa using h2), List.map_cons, List.sum_cons]; omega
      · rw [List.filter_cons_of_neg (by simpa using h1), List.filter_cons_of_neg (by simpa using h2), h p (by
          cases hi : p.is with
          | false => rfl
          | true => rcases Pl.is_iff.1 hi with e | e <;> omega)]
        omega
/-- What all costs that an account pays for. -/
theorem ob_sum {l : List Pl} (hl : l.length ≤ 256) (a : Int) : ((obL l).map fun x => costP a (obP l x)).sum = costSum l a := by
  unfold obL costSum
  have e : ∀ s, ((allL l s).map fun x => costP a (obP l x)) = ((l.filter fun p => decide (p.st = s)).map (costP a)) := fun s => by
    rw [← allL_map hl s, List.map_map]; rfl
  rw [List.map_append, List.sum_append, e 1, e 2]
  exact sum_two (costP a) (fun p hp => by unfold costP; rw [hp]; rfl) l
theorem ob_at {l : List Pl} (hl : l.length ≤ 256) {x : Nat} (hx : x ∈ obL l) : ∃ p, l[x % 256]? = some p ∧ p.is = true ∧ obP l x = p ∧ (pget l 1 x = some p ∨ pget l 2 x = some p) := by
  rcases List.mem_append.1 hx with h | h
  · obtain ⟨p, hp⟩ := (mem_all hl).1 h
    obtain ⟨a1, _, a3⟩ := pget_some.1 hp
    exact ⟨p, a1, Pl.is_iff.2 (.inl a3), obP_at a1, .inl hp⟩
  · obtain ⟨p, hp⟩ := (mem_all hl).1 h
    obtain ⟨a1, _, a3⟩ := pget_some.1 hp
    exact ⟨p, a1, Pl.is_iff.2 (.inr a3), obP_at a1, .inr hp⟩
/-- No place twice. -/
theorem ob_pair {l : List Pl} (hl : l.length ≤ 256) : (obL l).Pairwise fun a b => a % 256 ≠ b % 256 := by
  unfold obL
  rw [List.pairwise_append]
  refine ⟨(all_sorted hl 1).imp fun h => Nat.ne_of_lt h, (all_sorted hl 2).imp fun h => Nat.ne_of_lt h, fun a ha b hb e => ?_⟩
  obtain ⟨p, hp⟩ := (mem_all hl).1 ha
  obtain ⟨q, hq⟩ := (mem_all hl).1 hb
  obtain ⟨a1, _, a3⟩ := pget_some.1 hp
  obtain ⟨b1, _, b3⟩ := pget_some.1 hq
  rw [e, b1] at a1; cases a1
  omega
theorem obL_len {l : List Pl} (hl : l.length ≤ 256) : (obL l).length ≤ 512 := by
  unfold obL
  rw [List.length_append]
  have h1 := allTo_len l 1 l.length
  have h2 := allTo_len l 2 l.length
  unfold allL
  omega
/-! Accounts. -/
def parOf (E : List (En Fa)) (id : Int) : Int := match find E id with
  | some e => e.q.parent
  | none => -1
def limOf (E : List (En Fa)) (id : Int) : Int := match find E id with
  | some e => e.q.limit
  | none => 0
def givI (E : List (En Fa)) (a id : Int) : Int := if parOf E id = a then limOf E id else 0
theorem ids_sum {E : List (En Fa)} (hids : E.Pairwise (fun a b => a.id ≠ b.id)) (a : Int) : ((idsOf E).map (givI E a)).sum = givSum E a := by
  have hp : (idsOf E).Perm (E.map (·.id)) := List.mergeSort_perm _ _
  have h1 : ((idsOf E).map (givI E a)).sum = ((E.map (·.id)).map (givI E a)).sum := sum_perm _ hp
  rw [h1, List.map_map]
  unfold givSum
  congr 1
  refine List.map_congr_left fun e he => ?_
  have hf := find_of_mem hids he
  simp only [Function.comp, givI, parOf, limOf, hf, givF]
theorem ids_mem {E : List (En Fa)} (hids : E.Pairwise (fun a b => a.id ≠ b.id)) {id : Int} (h : id ∈ idsOf E) : ∃ e, find E id = some e := by
  have hp : (idsOf E).Perm (E.map (·.id)) := List.mergeSort_perm _ _
  obtain ⟨e, he, rfl⟩ := List.mem_map.1 (hp.mem_iff.1 h)
  exact ⟨e, find_of_mem hids he⟩
/-- Parts of a sum of what is not below 0. -/
theorem sum_take_le {l : List Int} (h : ∀ x ∈ l, 0 ≤ x) (k : Nat) : 0 ≤ (l.take k).sum ∧ (l.take k).sum ≤ l.sum := by
  have e : l.sum = (l.take k).sum + (l.drop k).sum := by rw [← List.sum_append, List.take_append_drop]
  have nn : ∀ m : List Int, (∀ x ∈ m, 0 ≤ x) → 0 ≤ m.sum := by
    intro m
    induction m with
    | nil => simp
    | cons x r ih =>
      intro hm
      rw [List.sum_cons]
      have := hm x (by simp)
      have := ih fun y hy => hm y (by simp [hy])
      omega
  have h1 := nn (l.take k) fun x hx => h x (List.mem_of_mem_take hx)
  have h2 := nn (l.drop k) fun x hx => h x (List.mem_of_mem_drop hx)
  omega
theorem sum_take_succ {l : List Int} {k : Nat} {x : Int} (h : l[k]? = some x) : (l.take (k + 1)).sum = (l.take k).sum + x := by
  rw [List.take_add_one, h, List.sum_append]; simp
end Go.Proofs.YtcnbbenmlffgpaaGreatDoor
