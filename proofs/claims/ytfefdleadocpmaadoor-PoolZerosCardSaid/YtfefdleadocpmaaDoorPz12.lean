/- PoolZeros returns true at every input, with the three listed tables tied to the program's text. No condition. Part of its proof. -/
import Derived.Test.YtfefdleadocpmaaDoorPz11
import Derived.Deep.LoopGhost
import Derived.Deep.CutRange
import Derived.Deep.QuietTactic
import Derived.BigQuiet
import Derived.Deep.RegionHeld3
import Derived.Deep.RegionLaw
/- The pool's calls in the law PoolZeros, beside the law's own two rows. Conditions: the blocks hold what is said. -/
namespace Go.Proofs.YtfefdleadocpmaaDoor
open Go.RowKit

def ZH (P : PL) (rvA : RV) (LA : List Nat) (rvC : RV) (LC : List Nat) : HL := P.hl ++ (rowH rvA 3 1 (ints LA) ++ rowH rvC 3 1 (ints LC))
structure ZAt (pp : Nat) (w wr : World) (P : PL) (rvA : RV) (LA : List Nat) (rvC : RV) (LC : List Nat) : Prop where
  p : P.p = pp
  okA : rvOk rvA LA.length
  okC : rvOk rvC LC.length
  st : Step [] (ZH P rvA LA rvC LC) w wr
section
variable {pp : Nat} {w wr : World} {P : PL} {rvA rvC : RV} {LA LC : List Nat}
theorem ZAt.sep (h : ZAt pp w wr P rvA LA rvC LC) : Sep wr (P.hl ++ (rowH rvA 3 1 (ints LA) ++ rowH rvC 3 1 (ints LC))) := h.st.sep
theorem ZAt.sP (h : ZAt pp w wr P rvA LA rvC LC) : Sep wr P.hl := h.sep.left
theorem ZAt.drew (h : ZAt pp w wr P rvA LA rvC LC) : ZAt pp w wr.drew P rvA LA rvC LC := ⟨h.p, h.okA, h.okC, h.st.drew⟩
theorem ZAt.grown {w' : World} (h : ZAt pp w wr P rvA LA rvC LC) (hb : Below wr.heap.size wr w') : ZAt pp w w' P rvA LA rvC LC := ⟨h.p, h.okA, h.okC, h.st.trans (h.st.sep.grown hb)⟩
theorem ZAt.fresh (h : ZAt pp w wr P rvA LA rvC LC) : Below w.heap.size w wr := h.st.fresh
theorem ZAt.pool {w' : World} {P' : PL} (h : ZAt pp w wr P rvA LA rvC LC) (hp : P'.p = P.p) (s : Step P.hl P'.hl wr w') : ZAt pp w w' P' rvA LA rvC LC := by
  have := Step.frame [] (rowH rvA 3 1 (ints LA) ++ rowH rvC 3 1 (ints LC)) (by simpa using h.sep) s
  exact ⟨hp.trans h.p, h.okA, h.okC, h.st.trans (by simpa [ZH] using this)⟩
theorem zh_permA (P : PL) (rvA rvC : RV) (LA LC : List Nat) : (ZH P rvA LA rvC LC).Perm (rowH rvA 3 1 (ints LA) ++ (P.hl ++ rowH rvC 3 1 (ints LC))) := by
  refine perm_count fun a => ?_
  simp only [ZH, hc_append]; omega
theorem zh_permC (P : PL) (rvA rvC : RV) (LA LC : List Nat) : (ZH P rvA LA rvC LC).Perm (rowH rvC 3 1 (ints LC) ++ (P.hl ++ rowH rvA 3 1 (ints LA))) := by
  refine perm_count fun a => ?_
  simp only [ZH, hc_append]; omega
theorem ZAt.rowA {w' : World} {rvA' : RV} {LA' : List Nat} (h : ZAt pp w wr P rvA LA rvC LC) (hok : rvOk rvA' LA'.length) (s : Step (rowH rvA 3 1 (ints LA) ++ (P.hl ++ rowH rvC 3 1 (ints LC))) (rowH rvA' 3 1 (ints LA') ++ (P.hl ++ rowH rvC 3 1 (ints LC))) wr w') : ZAt pp w w' P rvA' LA' rvC LC :=
  ⟨h.p, hok, h.okC, h.st.trans (s.perm (zh_permA P rvA rvC LA LC).symm (zh_permA P rvA' rvC LA' LC).symm)⟩
theorem ZAt.rowC {w' : World} {rvC' : RV} {LC' : List Nat} (h : ZAt pp w wr P rvA LA rvC LC) (hok : rvOk rvC' LC'.length) (s : Step (rowH rvC 3 1 (ints LC) ++ (P.hl ++ rowH rvA 3 1 (ints LA))) (rowH rvC' 3 1 (ints LC') ++ (P.hl ++ rowH rvA 3 1 (ints LA))) wr w') : ZAt pp w w' P rvA LA rvC' LC' :=
  ⟨h.p, h.okA, hok, h.st.trans (s.perm (zh_permC P rvA rvC LA LC).symm (zh_permC P rvA rvC' LA LC').symm)⟩
theorem ZAt.sA (h : ZAt pp w wr P rvA LA rvC LC) : Sep wr (rowH rvA 3 1 (ints LA) ++ (P.hl ++ rowH rvC 3 1 (ints LC))) := h.st.sep.perm (zh_permA P rvA rvC LA LC)
theorem ZAt.sC (h : ZAt pp w wr P rvA LA rvC LC) : Sep wr (rowH rvC 3 1 (ints LC) ++ (P.hl ++ rowH rvA 3 1 (ints LA))) := h.st.sep.perm (zh_permC P rvA rvC LA LC)
theorem ZAt.cellA {ga ca : Nat} (h : ZAt pp w wr P (some (ga, ca)) LA rvC LC) {j x : Nat} (hj : LA[j]? = some x) : wr.cell? ⟨ga, j, none⟩ = some (.int .i64 (x : Int)) := row_cell h.sA.left j _ (ints_at hj)
theorem ZAt.cellC {gc cc : Nat} (h : ZAt pp w wr P rvA LA (some (gc, cc)) LC) {j x : Nat} (hj : LC[j]? = some x) : wr.cell? ⟨gc, j, none⟩ = some (.int .i64 (x : Int)) := row_cell h.sC.left j _ (ints_at hj)
theorem rv_block {rv : RV} {n : Nat} (h : rvOk rv n) (hn : 0 < n) : ∃ g c, rv = some (g, c) := by
  cases rv with
  | none => have h' : n = 0 := h; omega
  | some p => exact ⟨p.1, p.2, rfl⟩
/-- A new last element. -/
theorem ZAt.appA (h : ZAt pp w wr P rvA LA rvC LC) (x : Nat) (hl : LA.length ≤ 100) : ∃ rvA' w', (Builtin.append_ #[29, 29] 29 #[lvOf rvA LA.length, .slice (some ⟨wr.heap.size, 0, none⟩) 1 1]).run Tryd.prog (wr.alloc (.cells #[.int .i64 (x : Int)] 3)) = .ok (lvOf rvA' (LA.length + 1)) w' ∧ ZAt pp w w' P rvA' (LA ++ [x]) rvC LC := by
  obtain ⟨rv', w', hr, hok, s⟩ := app_ints (news := [x]) (h.sA.alloc (.cells #[.int .i64 (x : Int)] 3)) h.okA (by omega) (by simp) ⟨wr.heap.size, 0, none⟩ 1 (by
    intro j u hj
    exact cell_one_new wr (.int .i64 (x : Int)) 3 j u hj) 29
  exact ⟨rv', w', hr, h.rowA (by simpa using hok) s.from_alloc⟩
theorem ZAt.appC (h : ZAt pp w wr P rvA LA rvC LC) (x : Nat) (hl : LC.length ≤ 100) : ∃ rvC' w', (Builtin.append_ #[29, 29] 29 #[lvOf rvC LC.length, .slice (some ⟨wr.heap.size, 0, none⟩) 1 1]).run Tryd.prog (wr.alloc (.cells #[.int .i64 (x : Int)] 3)) = .ok (lvOf rvC' (LC.length + 1)) w' ∧ ZAt pp w w' P rvA LA rvC' (LC ++ [x]) := by
  obtain ⟨rv', w', hr, hok, s⟩ := app_ints (news := [x]) (h.sC.alloc (.cells #[.int .i64 (x : Int)] 3)) h.okC (by omega) (by simp) ⟨wr.heap.size, 0, none⟩ 1 (by
    intro j u hj
    exact cell_one_new wr (.int .i64 (x : Int)) 3 j u hj) 29
  exact ⟨rv', w', hr, h.rowC (by simpa using hok) s.from_alloc⟩
/-- An element less. -/
theorem ZAt.cutA {ga ca : Nat} (h : ZAt pp w wr P (some (ga, ca)) LA rvC LC) (hl : LA.length ≤ 100) (n : Nat) (hn : n < LA.length) :
    ∃ rv1 w1 rv2 w2, ((Builtin.append_ #[29, 29] 29 #[.slice (some ⟨wr.heap.size, 0, none⟩) 0 0, .slice (some ⟨ga, 0, none⟩) n ca]).run Tryd.prog (wr.drew.alloc (.cells #[] 3)) = .ok (lvOf rv1 n) w1) ∧
      ((Builtin.append_ #[29, 29] 29 #[lvOf rv1 n, .slice (if ca = n + 1 then some ⟨ga, 0, none⟩ else some ⟨ga, n + 1, none⟩) (LA.length - (n + 1)) (ca - (n + 1))]).run Tryd.prog w1 = .ok (lvOf rv2 (LA.length - 1)) w2) ∧ ZAt pp w w2 P rv2 (LA.take n ++ LA.drop (n + 1)) rvC LC := by
  obtain ⟨rv1, w1, rv2, w2, h1, h2, h3, h4⟩ := cut_runs h.drew.sA h.okA (by omega) n hn
  refine ⟨rv1, w1, rv2, w2, h1, h2, h.drew.rowA ?_ h4⟩
  have : (LA.take n ++ LA.drop (n + 1)).length = LA.length - 1 := by simp; omega
  rw [this]; exact h3
theorem ZAt.cutC {gc cc : Nat} (h : ZAt pp w wr P rvA LA (some (gc, cc)) LC) (hl : LC.length ≤ 100) (n : Nat) (hn : n < LC.length) :
    ∃ rv1 w1 rv2 w2, ((Builtin.append_ #[29, 29] 29 #[.slice (some ⟨wr.heap.size, 0, none⟩) 0 0, .slice (some ⟨gc, 0, none⟩) n cc]).run Tryd.prog (wr.drew.alloc (.cells #[] 3)) = .ok (lvOf rv1 n) w1) ∧
      ((Builtin.append_ #[29, 29] 29 #[lvOf rv1 n, .slice (if cc = n + 1 then some ⟨gc, 0, none⟩ else some ⟨gc, n + 1, none⟩) (LC.length - (n + 1)) (cc - (n + 1))]).run Tryd.prog w1 = .ok (lvOf rv2 (LC.length - 1)) w2) ∧ ZAt pp w w2 P rvA LA rv2 (LC.take n ++ LC.drop (n + 1)) := by
  obtain ⟨rv1, w1, rv2, w2, h1, h2, h3, h4⟩ := cut_runs h.drew.sC h.okC (by omega) n hn
  refine ⟨rv1, w1, rv2, w2, h1, h2, h.drew.rowC ?_ h4⟩
  have : (LC.take n ++ LC.drop (n + 1)).length = LC.length - 1 := by simp; omega
  rw [this]; exact h3
end
/-! The pool's calls. -/
theorem costI_N {n : Nat} : costI (n : Int) = costN n := by unfold costI; rw [if_pos (by omega), Int.toNat_natCast]
theorem z_put {w : World} {P : PL} (h : Sep w P.hl) (ps : PS 65536 P) (n a : Nat) (hm : a ∈ P.usedOf n) : Calls Tryd.prog 9 #[.pointer (some ⟨P.p, 0, none⟩), .int .i64 0, .int .i64 (n : Int), .int .i64 (a : Int)] w fun r w' => r = .returned (.int .i64 0) ∧ ∃ P', PutOk P [] 0 n a P' ∧ Step P.hl P'.hl w w' := by
  obtain ⟨hin, _, h1, h7⟩ := used_in_mem ps.ok hm
  have hml := mem_bound ps.ok
  obtain ⟨e, hf, q1, q2, q3⟩ := ps.q
  have hpos : 0 < costN n := costN_pos.2 ⟨h1, h7⟩
  have hhas : P.has (n : Int) (a : Int) = true := by
    unfold PL.has PL.usedI
    rw [decide_eq_true_eq, if_pos (by omega : (0 : Int) ≤ (n : Int)), Int.toNat_natCast, Int.toNat_natCast]
    exact ⟨by omega, hm⟩
  have hlen : 1 ≤ (P.usedOf n).length := List.length_pos_of_mem hm
  have hge := sumU_ge P h1 h7
  have hge2 : costN n ≤ sumU P := by
    have := Nat.mul_le_mul_right (costN n) hlen
    omega
  refine (pput_any h ps.ok 0 (n : Int) (a : Int) (by unfold Small; omega)).mono ?_
  rintro r w' (⟨h0, _⟩ | ⟨_, h0, _⟩ | ⟨_, _, h0, _⟩ | ⟨_, _, ⟨e', h0, h2⟩, _⟩ | ⟨n', m, e', hn, hm', _, _, _, _, _, rfl, P', g, st⟩)
  · rw [costI_N] at h0; omega
  · rw [hhas] at h0; cases h0
  · rw [hf] at h0; cases h0
  · rw [hf] at h0; cases h0
    rw [costI_N, q3] at h2
    omega
  · have e1 : n' = n := by omega
    have e2 : m = a := by omega
    subst e1 e2
    exact ⟨rfl, P', g, st⟩
theorem z_get {w : World} {P : PL} {L : List (Nat × Nat)} {i : Nat} (h : Sep w P.hl) (zs : ZS P L i) (hi : i ≤ 100) (n : Nat) (h1 : 1 ≤ n) (h7 : n ≤ 7) : Calls Tryd.prog 8 #[.pointer (some ⟨P.p, 0, none⟩), .int .i64 0, .int .i64 (n : Int)] w fun r w' => ∃ (a : Nat) (P' : PL), r = .returned (.tuple #[.int .i64 (a : Int), .int .i64 0]) ∧ GetOk P [] 0 n a P' ∧ Step P.hl P'.hl w w' := by
  have hpos : 0 < costN n := costN_pos.2 ⟨h1, h7⟩
  have hc := costN_le h7
  obtain ⟨e, hf, q1, q2, q3⟩ := zs.ps.q
  have hs := zs.sum
  refine (pget_any h zs.ps.ok 0 (n : Int)).mono ?_
  rintro r w' (⟨h0, _⟩ | ⟨_, h0, _⟩ | ⟨_, ⟨e', h0, h2⟩, _⟩ | ⟨n', e', hn, _, _, _, _, hr⟩)
  · rw [costI_N] at h0; omega
  · rw [hf] at h0; cases h0
  · rw [hf] at h0; cases h0
    rw [costI_N, q1, q2, q3] at h2
    omega
  · obtain rfl : n' = n := by omega
    rcases hr with ⟨a, P', rfl, g, st⟩ | ⟨hno, _⟩
    · exact ⟨a, P', rfl, g, st⟩
    · exact absurd hno (zs.room hi)
theorem ZS.setA {P : PL} {L : List (Nat × Nat)} {i : Nat} (h : ZS P L i) {m : List Nat} (hm : m.length = P.a.mem.length) (hb : ∀ b ∈ m, b < 256) : ZS (P.setA m) L i :=
  ⟨⟨PL.ok_setA h.ps.ok hm hb, h.ps.top, h.ps.q⟩, h.nd, h.mem, h.len, h.sum, h.few⟩
theorem get_zero {P P' : PL} {n a : Nat} (g : GetOk P [] 0 n a P') (ok : P.Ok []) : (P'.a.mem.drop a).take (costN n) = List.replicate (costN n) 0 ∧ a + costN n ≤ P'.a.mem.length ∧ P'.a.mem.length ≤ 1073741824 := by
  obtain ⟨A, B, u1, u2⟩ := g.used
  have ham : a ∈ P'.usedOf n := by rw [u2]; simp
  have hin := used_in_mem g.ok ham
  refine ⟨?_, hin.1, mem_bound g.ok⟩
  have hl : P'.a.mem.length = P.a.mem.length := by rw [g.ok.mem, ok.mem, g.top]
  have h2 := hin.1
  rw [hl] at h2
  rw [g.mem]
  unfold put_
  rw [List.append_assoc, List.drop_append_of_le_length (by rw [List.length_take]; omega), List.drop_of_length_le (by rw [List.length_take]; omega), List.nil_append, List.take_append_of_le_length (by simp), List.take_of_length_le (by simp)]
/-- What the law may do behind a Get. -/
structure GotW (pp : Nat) (w w1 : World) (P : PL) (rvA : RV) (LA : List Nat) (rvC : RV) (LC : List Nat) (n a : Nat) : Prop where
  z : ZAt pp w w1 P rvA LA rvC LC
  use : a ∈ P.usedOf n
  zero : (P.a.mem.drop a).take (costN n) = List.replicate (costN n) 0
  fits : a + costN n ≤ P.a.mem.length
  small : P.a.mem.length ≤ 1073741824
  ok : P.Ok []
/-- The bytes that are read are 0. -/
def ZeroAt (w : World) (g n : Nat) : Prop := ∀ j, j < n → w.cell? ⟨g, j, none⟩ = some (.int .u8 0)
theorem GotW.grown {pp : Nat} {w w1 w2 : World} {P : PL} {rvA rvC : RV} {LA LC : List Nat} {n a : Nat} (h : GotW pp w w1 P rvA LA rvC LC n a) (hb : Below w1.heap.size w1 w2) : GotW pp w w2 P rvA LA rvC LC n a := ⟨h.z.grown hb, h.use, h.zero, h.fits, h.small, h.ok⟩
section
variable {pp : Nat} {w w1 : World} {P : PL} {rvA rvC : RV} {LA LC : List Nat} {n a : Nat}
theorem GotW.read (h : GotW pp w w1 P rvA LA rvC LC n a) (hpos : 0 < costN n) : Calls Tryd.prog 16 #[.pointer (some ⟨pp, 0, none⟩)] w1 fun r w' => ∃ aa, r = .returned (.pointer (some ⟨aa, 0, none⟩)) ∧ w1 = w' ∧
    Calls Tryd.prog 17 #[.pointer (some ⟨aa, 0, none⟩), .int .i64 (a : Int), .int .i64 ((costN n : Nat) : Int)] w1 fun r w2 => ∃ g cap : Nat, r = .returned (.tuple #[.slice (some ⟨g, 0, none⟩) (costN n) cap, .int .i64 0]) ∧ g < w2.heap.size ∧ ZeroAt w2 g (costN n) ∧ GotW pp w w2 P rvA LA rvC LC n a := by
  have hp := h.z.p
  subst hp
  refine (parena_any h.z.sP).mono ?_
  rintro r w' ⟨rfl, rfl⟩
  refine ⟨P.a.a, rfl, rfl, (read_ok (PL.sA h.z.sP) a (costN n) hpos h.fits h.small).mono ?_⟩
  rintro r w2 ⟨v, rfl, ⟨_, h2⟩, hg⟩
  have hl : ((P.a.mem.drop a).take (costN n)).length = costN n := by rw [h.zero]; simp
  have hb : Below w1.heap.size w1 w2 := ⟨hg.os, hg.tape, hg.output, hg.size, fun b hb => hg.block b hb (by simp)⟩
  rcases h2 with ⟨rfl, h0⟩ | ⟨g, cap, cur, rfl, hgk, hgb, hn, hm, hs, htk⟩
  · omega
  · refine ⟨g, cap, by rw [hl], lt_of_block hgb, fun j hj => ?_, h.grown hb⟩
    have hv : (bcells ((P.a.mem.drop a).take (costN n)))[j]? = some (.int .u8 0) := by
      rw [h.zero]
      unfold bcells
      rw [List.getElem?_map, List.getElem?_replicate, if_pos hj]
      rfl
    rw [← htk, List.getElem?_take] at hv
    split at hv
    · simp only [World.cell?, hgb, Option.isSome_none, Bool.false_eq_true, if_false]
      rw [← Array.getElem?_toList]; exact hv
    · cases hv
theorem GotW.order (h : GotW pp w w1 P rvA LA rvC LC n a) : Calls Tryd.prog 14 #[.pointer (some ⟨pp, 0, none⟩)] w1 fun r w' => ∃ b, r = .returned (.pointer (some ⟨b, 0, none⟩)) ∧ w1 = w' ∧
    Calls Tryd.prog 18 #[.pointer (some ⟨b, 0, none⟩), .int .i64 (1024 * ((a / 1024 : Nat) : Int))] w1 fun r w' => r = .returned (.int .i64 0) ∧ w1 = w' := by
  have hp := h.z.p
  subst hp
  refine (pblocks_any h.z.sP).mono ?_
  rintro r w' ⟨rfl, rfl⟩
  exact ⟨P.d.b, rfl, rfl, border_used (PL.sD h.z.sP) (by have := h.ok.d.is.len; have := h.ok.d.is.top; omega) (a / 1024) (used_page h.ok h.use)⟩
theorem GotW.fill (h : GotW pp w w1 P rvA LA rvC LC n a) (hpos : 0 < costN n) {L : List (Nat × Nat)} {i : Nat} (zs : ZS P L i) (c : Nat) (hc : c < 256) : Calls Tryd.prog 16 #[.pointer (some ⟨pp, 0, none⟩)] w1 fun r w' => ∃ aa, r = .returned (.pointer (some ⟨aa, 0, none⟩)) ∧ w1 = w' ∧
    Calls Tryd.prog 19 #[.pointer (some ⟨aa, 0, none⟩), .int .i64 (a : Int), .int .i64 ((costN n : Nat) : Int), .int .u8 (c : Int)] w1 fun r w2 => r = .returned (.int .i64 0) ∧ ∃ P', ZS P' L i ∧ ZAt pp w w2 P' rvA LA rvC LC := by
  have hp := h.z.p
  subst hp
  refine (parena_any h.z.sP).mono ?_
  rintro r w' ⟨rfl, rfl⟩
  refine ⟨P.a.a, rfl, rfl, (fill_ok (PL.sA h.z.sP) a (costN n) c hpos h.fits h.small).mono ?_⟩
  rintro r w2 ⟨rfl, st⟩
  have s := PL.stepA h.z.sP _ st
  refine ⟨rfl, _, zs.setA ?_ (put_bytes h.ok.bytes c hc), h.z.pool rfl s⟩
  exact put_len _ _ _ (by rw [List.length_replicate]; exact h.fits)
end
end Go.Proofs.YtfefdleadocpmaaDoor

/- The rounds of the law PoolZeros, as its walk takes them. Conditions: the blocks hold what is said. -/
namespace Go.Proofs.YtfefdleadocpmaaDoor
open Go.RowKit

theorem ZS.next {P : PL} {L : List (Nat × Nat)} {i : Nat} (h : ZS P L i) : ZS P L (i + 1) := by
  obtain ⟨G, h1, h2⟩ := h.few
  exact ⟨h.ps, h.nd, h.mem, Nat.le_succ_of_le h.len, by have := h.sum; omega, G, h1, by omega⟩
theorem ZS.new {P : PL} (hl : P.cs.length = 7) (hf : FreshP P 6 65536) : ZS P [] 0 := by
  refine ⟨PS.new hl hf (by omega) (by omega), List.nodup_nil, by simp, by simp, ?_, fun _ => 0, fun k c hc => ?_, by simp⟩
  · rw [sumU_eq]
    simp only [fresh_used hf]
    simp
  · have h1 := (hf.cs _ c hc.2).2.2.2
    have h2 := usedOf_cls hc
    rw [fresh_used hf] at h2
    rw [h1, ← h2]
    simp
/-- The law's state between two draws: the pool, the two slices. -/
def ZL (pp : Nat) (w : World) (i : Nat) (va vc : Value) (wr : World) : Prop := ∃ P L rvA rvC, va = lvOf rvA L.length ∧ vc = lvOf rvC L.length ∧ ZS P L i ∧ ZAt pp w wr P rvA (L.map Prod.snd) rvC (L.map Prod.fst)
theorem ZL.fresh {pp : Nat} {w : World} {i : Nat} {va vc : Value} {wr : World} (h : ZL pp w i va vc wr) : Below w.heap.size w wr := by
  obtain ⟨P, L, rvA, rvC, _, _, _, h⟩ := h
  exact h.fresh
theorem lv_shape {rv : RV} {n : Nat} (h : rvOk rv n) : ∃ (a : Option Addr) (cap : Nat), lvOf rv n = .slice a n cap ∧ n ≤ cap ∧ cap ≤ maxLen ∧ (0 < n → ∃ g, a = some ⟨g, 0, none⟩ ∧ rv = some (g, cap)) := by
  cases rv with
  | none =>
    have h0 : n = 0 := h
    subst h0
    exact ⟨none, 0, rfl, Nat.le_refl _, by unfold maxLen; omega, fun h => absurd h (by omega)⟩
  | some p => exact ⟨_, p.2, rfl, h.1, h.2, fun _ => ⟨p.1, rfl, rfl⟩⟩
/-- The shape of the two slices. -/
theorem ZL.shape {pp : Nat} {w : World} {i : Nat} {va vc : Value} {wr : World} (h : ZL pp w i va vc wr) : ∃ (aA aC : Option Addr) (cA cC ln : Nat), va = .slice aA ln cA ∧ vc = .slice aC ln cC ∧ ln ≤ i ∧ ln ≤ cA ∧ ln ≤ cC ∧ cA ≤ maxLen ∧ cC ≤ maxLen := by
  obtain ⟨P, L, rvA, rvC, rfl, rfl, zs, h⟩ := h
  have okA := h.okA
  have okC := h.okC
  rw [List.length_map] at okA okC
  obtain ⟨aA, cA, e1, l1, m1, _⟩ := lv_shape okA
  obtain ⟨aC, cC, e2, l2, m2, _⟩ := lv_shape okC
  exact ⟨aA, aC, cA, cC, L.length, e1, e2, zs.len, l1, l2, m1, m2⟩
theorem map_cut {α β : Type} (f : α → β) (L : List α) (n : Nat) : (L.map f).take n ++ (L.map f).drop (n + 1) = (L.take n ++ L.drop (n + 1)).map f := by simp [List.map_take, List.map_drop]
/-- The two cuts behind a Put. -/
theorem cuts {pp : Nat} {w w1 : World} {P : PL} {ga ca gc cc i n : Nat} {L : List (Nat × Nat)} (h : ZAt pp w w1 P (some (ga, ca)) (L.map Prod.snd) (some (gc, cc)) (L.map Prod.fst)) (zs : ZS P (L.take n ++ L.drop (n + 1)) i) (hl : L.length ≤ 100) (hn : n < L.length) :
    ∃ v1 w1' va' w2 u1 w2' vc' w3, ((Builtin.append_ #[29, 29] 29 #[.slice (some ⟨w1.heap.size, 0, none⟩) 0 0, .slice (some ⟨ga, 0, none⟩) n ca]).run Tryd.prog (w1.drew.alloc (.cells #[] 3)) = .ok v1 w1') ∧
      ((Builtin.append_ #[29, 29] 29 #[v1, .slice (if ca = n + 1 then some ⟨ga, 0, none⟩ else some ⟨ga, n + 1, none⟩) (L.length - (n + 1)) (ca - (n + 1))]).run Tryd.prog w1' = .ok va' w2) ∧
      ((Builtin.append_ #[29, 29] 29 #[.slice (some ⟨w2.heap.size, 0, none⟩) 0 0, .slice (some ⟨gc, 0, none⟩) n cc]).run Tryd.prog (w2.drew.alloc (.cells #[] 3)) = .ok u1 w2') ∧
      ((Builtin.append_ #[29, 29] 29 #[u1, .slice (if cc = n + 1 then some ⟨gc, 0, none⟩ else some ⟨gc, n + 1, none⟩) (L.length - (n + 1)) (cc - (n + 1))]).run Tryd.prog w2' = .ok vc' w3) ∧ ZL pp w (i + 1) va' vc' w3 := by
  obtain ⟨rv1, w1', rv2, w2, h1, h2, z2⟩ := h.cutA (by simpa using hl) n (by simpa using hn)
  obtain ⟨ru1, w2', ru2, w3, h3, h4, z3⟩ := z2.cutC (by simpa using hl) n (by simpa using hn)
  rw [List.length_map] at h2 h4
  have e : (L.take n ++ L.drop (n + 1)).length = L.length - 1 := by simp; omega
  rw [map_cut, map_cut] at z3
  exact ⟨_, w1', _, w2, _, w2', _, w3, h1, h2, h3, h4, P, _, rv2, ru2, by rw [e], by rw [e], zs.next, z3⟩
/-- A draw that puts back. -/
theorem ZL.put {pp : Nat} {w : World} {i ln cA cC : Nat} {aA aC : Option Addr} {wr : World} (h : ZL pp w i (.slice aA ln cA) (.slice aC ln cC) wr) (hi : i ≤ 100) (n : Nat) (hn : n < ln) : ∃ ga gc k a : Nat, aA = some ⟨ga, 0, none⟩ ∧ aC = some ⟨gc, 0, none⟩ ∧ wr.cell? ⟨ga, n, none⟩ = some (.int .i64 (a : Int)) ∧ wr.cell? ⟨gc, n, none⟩ = some (.int .i64 (k : Int)) ∧
    Calls Tryd.prog 9 #[.pointer (some ⟨pp, 0, none⟩), .int .i64 0, .int .i64 (k : Int), .int .i64 (a : Int)] wr.drew fun r w1 => r = .returned (.int .i64 0) ∧ w1.cell? ⟨ga, n, none⟩ = some (.int .i64 (a : Int)) ∧ w1.cell? ⟨gc, n, none⟩ = some (.int .i64 (k : Int)) ∧
    ∃ v1 w1' va' w2 u1 w2' vc' w3, ((Builtin.append_ #[29, 29] 29 #[.slice (some ⟨w1.heap.size, 0, none⟩) 0 0, .slice (some ⟨ga, 0, none⟩) n cA]).run Tryd.prog (w1.drew.alloc (.cells #[] 3)) = .ok v1 w1') ∧
      ((Builtin.append_ #[29, 29] 29 #[v1, .slice (if cA = n + 1 then some ⟨ga, 0, none⟩ else some ⟨ga, n + 1, none⟩) (ln - (n + 1)) (cA - (n + 1))]).run Tryd.prog w1' = .ok va' w2) ∧
      ((Builtin.append_ #[29, 29] 29 #[.slice (some ⟨w2.heap.size, 0, none⟩) 0 0, .slice (some ⟨gc, 0, none⟩) n cC]).run Tryd.prog (w2.drew.alloc (.cells #[] 3)) = .ok u1 w2') ∧
      ((Builtin.append_ #[29, 29] 29 #[u1, .slice (if cC = n + 1 then some ⟨gc, 0, none⟩ else some ⟨gc, n + 1, none⟩) (ln - (n + 1)) (cC - (n + 1))]).run Tryd.prog w2' = .ok vc' w3) ∧ ZL pp w (i + 1) va' vc' w3 := by
  obtain ⟨P, L, rvA, rvC, eA, eC, zs, h⟩ := h
  have okA := h.okA
  have okC := h.okC
  rw [List.length_map] at okA okC
  obtain ⟨a1, c1, e1, _, _, s1⟩ := lv_shape okA
  obtain ⟨a2, c2, e2, _, _, s2⟩ := lv_shape okC
  rw [e1] at eA
  rw [e2] at eC
  simp only [Value.slice.injEq] at eA eC
  obtain ⟨rfl, rfl, rfl⟩ := eA
  obtain ⟨rfl, _, rfl⟩ := eC
  obtain ⟨ga, rfl, rfl⟩ := s1 (by omega)
  obtain ⟨gc, rfl, rfl⟩ := s2 (by omega)
  obtain ⟨k, a, hka⟩ : ∃ k a, L[n]? = some (k, a) := ⟨L[n].1, L[n].2, by simp [hn]⟩
  have ca := h.cellA (j := n) (x := a) (by rw [List.getElem?_map, hka]; rfl)
  have cc := h.cellC (j := n) (x := k) (by rw [List.getElem?_map, hka]; rfl)
  have hm := zs.mem (k, a) (List.mem_of_getElem? hka)
  obtain ⟨_, _, h1, h7⟩ := used_in_mem zs.ps.ok hm
  have hp := h.p
  refine ⟨ga, gc, k, a, rfl, rfl, ca, cc, ?_⟩
  rw [← hp]
  refine (z_put h.sP.drew zs.ps k a hm).mono ?_
  rintro r w1 ⟨rfl, P', g, st⟩
  have z1 := h.pool g.p st.from_drew
  rw [← hp] at z1
  have hsplit : L = L.take n ++ (k, a) :: L.drop (n + 1) := by
    have := (List.getElem?_eq_some_iff.1 hka).2
    rw [← this, List.getElem_cons_drop, List.take_append_drop]
  have zs' : ZS P' (L.take n ++ L.drop (n + 1)) i := by
    rw [hsplit] at zs
    exact zs.put h1 h7 g
  exact ⟨rfl, z1.cellA (j := n) (x := a) (by rw [List.getElem?_map, hka]; rfl), z1.cellC (j := n) (x := k) (by rw [List.getElem?_map, hka]; rfl), cuts z1 zs' (by have := zs.len; omega) hn⟩
/-- The law's state behind a Get. -/
def ZG (pp : Nat) (w : World) (i n a : Nat) (va vc : Value) (wr : World) : Prop := ∃ P L rvA rvC, va = lvOf rvA L.length ∧ vc = lvOf rvC L.length ∧ ZS P (L ++ [(n, a)]) (i + 1) ∧ (∀ x ∈ L, a + costN n ≤ x.2 ∨ x.2 + costN x.1 ≤ a) ∧ GotW pp w wr P rvA (L.map Prod.snd) rvC (L.map Prod.fst) n a
theorem ZG.grown {pp : Nat} {w : World} {i n a : Nat} {va vc : Value} {wr w' : World} (h : ZG pp w i n a va vc wr) (hb : Below wr.heap.size wr w') : ZG pp w i n a va vc w' := by
  obtain ⟨P, L, rvA, rvC, h1, h2, h3, h4, h5⟩ := h
  exact ⟨P, L, rvA, rvC, h1, h2, h3, h4, h5.grown hb⟩
theorem ZG.drew {pp : Nat} {w : World} {i n a : Nat} {va vc : Value} {wr : World} (h : ZG pp w i n a va vc wr) : ZG pp w i n a va vc wr.drew := h.grown (Below.refl _ _).drew
def CostIs (n : Nat) (w : World) : Prop := Calls Tryd.prog 10 #[.int .i64 (n : Int)] w fun r w' => r = .returned (.int .i64 ((costN n : Nat) : Int)) ∧ w = w'
theorem cost_is {w : World} (h : Env w) (n : Nat) : CostIs n w := by
  have := cost_any h (n : Int)
  rw [costI_N] at this
  exact this
def CostQ (k : Nat) (w : World) : Prop := ∀ m, Calls Tryd.prog 10 #[.int .i64 (k : Int)] (w.drewN m) fun r w' => r = .returned (.int .i64 ((costN k : Nat) : Int)) ∧ ∃ m', w' = w.drewN m'
theorem cost_q {w : World} (h : Env w) (k : Nat) : CostQ k w := fun m => (cost_is (w := w.drewN m) (h.same (fun _ _ => rfl) h.gb) k).mono fun _ _ ⟨h1, h2⟩ => ⟨h1, m, h2.symm⟩
theorem ZG.drewN {pp : Nat} {w : World} {i n a : Nat} {va vc : Value} {wr : World} (h : ZG pp w i n a va vc wr) (m : Nat) : ZG pp w i n a va vc (wr.drewN m) := h.grown (below_drewN (Below.refl _ _) m)
theorem ZL.get {pp : Nat} {w : World} {i : Nat} {va vc : Value} {wr : World} (h : ZL pp w i va vc wr) (hi : i ≤ 100) (n : Nat) (h1 : 1 ≤ n) (h7 : n ≤ 7) : Calls Tryd.prog 8 #[.pointer (some ⟨pp, 0, none⟩), .int .i64 0, .int .i64 (n : Int)] wr fun r w1 => ∃ a : Nat, r = .returned (.tuple #[.int .i64 (a : Int), .int .i64 0]) ∧ a ≤ 1073741824 ∧ CostIs n w1 ∧
    Calls Tryd.prog 16 #[.pointer (some ⟨pp, 0, none⟩)] w1 fun r w' => ∃ aa, r = .returned (.pointer (some ⟨aa, 0, none⟩)) ∧ w1 = w' ∧
    Calls Tryd.prog 17 #[.pointer (some ⟨aa, 0, none⟩), .int .i64 (a : Int), .int .i64 ((costN n : Nat) : Int)] w1 fun r w2 => ∃ g cap : Nat, r = .returned (.tuple #[.slice (some ⟨g, 0, none⟩) (costN n) cap, .int .i64 0]) ∧ g < w2.heap.size ∧ ZeroAt w2 g (costN n) ∧ ZG pp w i n a va vc w2 ∧ CostIs n w2 ∧
    Calls Tryd.prog 14 #[.pointer (some ⟨pp, 0, none⟩)] w2 fun r w' => ∃ b, r = .returned (.pointer (some ⟨b, 0, none⟩)) ∧ w2 = w' ∧
    Calls Tryd.prog 18 #[.pointer (some ⟨b, 0, none⟩), .int .i64 (1024 * ((a / 1024 : Nat) : Int))] w2 fun r w' => r = .returned (.int .i64 0) ∧ w2 = w' := by
  obtain ⟨P, L, rvA, rvC, rfl, rfl, zs, h⟩ := h
  have hp := h.p
  have hg := z_get h.sP zs hi n h1 h7
  rw [hp] at hg
  refine hg.mono ?_
  rintro r w1 ⟨a, P', rfl, g, st⟩
  obtain ⟨zs', hap⟩ := zs.get h1 h7 g
  obtain ⟨A, B, u1, u2⟩ := g.used
  obtain ⟨q1, q2, q3⟩ := get_zero g zs.ps.ok
  have gw : GotW pp w w1 P' rvA (L.map Prod.snd) rvC (L.map Prod.fst) n a := ⟨h.pool g.p st, by rw [u2]; simp, q1, q2, q3, g.ok⟩
  have hpos := costN_pos.2 ⟨h1, h7⟩
  refine ⟨a, rfl, by omega, cost_is gw.z.sP.env n, (gw.read hpos).mono ?_⟩
  rintro r w' ⟨aa, rfl, rfl, hr⟩
  refine ⟨aa, rfl, rfl, hr.mono ?_⟩
  rintro r w2 ⟨gb, cap, rfl, hgl, hz, gw2⟩
  exact ⟨gb, cap, rfl, hgl, hz, ⟨P', L, rvA, rvC, rfl, rfl, zs', hap, gw2⟩, cost_is gw2.z.sP.env n, gw2.order⟩
/-- An element is looked at. -/
theorem ZG.look {pp : Nat} {w : World} {i n a ln cA cC : Nat} {aA aC : Option Addr} {wr : World} (h : ZG pp w i n a (.slice aA ln cA) (.slice aC ln cC) wr) (m : Nat) (hm : m < ln) : ∃ ga gc k x : Nat, aA = some ⟨ga, 0, none⟩ ∧ aC = some ⟨gc, 0, none⟩ ∧ wr.cell? ⟨ga, m, none⟩ = some (.int .i64 (x : Int)) ∧ wr.cell? ⟨gc, m, none⟩ = some (.int .i64 (k : Int)) ∧
    CostQ k wr ∧ (a + costN n ≤ x ∨ x + costN k ≤ a) ∧ x ≤ 1073741824 ∧ costN k ≤ 256 := by
  obtain ⟨P, L, rvA, rvC, eA, eC, zs, hap, h⟩ := h
  have okA := h.z.okA
  have okC := h.z.okC
  rw [List.length_map] at okA okC
  obtain ⟨a1, c1, e1, _, _, s1⟩ := lv_shape okA
  obtain ⟨a2, c2, e2, _, _, s2⟩ := lv_shape okC
  rw [e1] at eA
  rw [e2] at eC
  simp only [Value.slice.injEq] at eA eC
  obtain ⟨rfl, rfl, rfl⟩ := eA
  obtain ⟨rfl, _, rfl⟩ := eC
  obtain ⟨ga, rfl, rfl⟩ := s1 (by omega)
  obtain ⟨gc, rfl, rfl⟩ := s2 (by omega)
  obtain ⟨k, x, hka⟩ : ∃ k a, L[m]? = some (k, a) := ⟨L[m].1, L[m].2, by simp [hm]⟩
  have hmem := List.mem_of_getElem? hka
  have hu := zs.mem (k, x) (List.mem_append_left _ hmem)
  obtain ⟨q1, q2, q3, q4⟩ := used_in_mem h.ok hu
  have hsm := h.small
  exact ⟨ga, gc, k, x, rfl, rfl, h.z.cellA (by rw [List.getElem?_map, hka]; rfl), h.z.cellC (by rw [List.getElem?_map, hka]; rfl), cost_q h.z.sP.env k, hap _ hmem, by omega, costN_le q4⟩
/-- The place is filled, the slices grow. -/
theorem ZG.fill {pp : Nat} {w : World} {i n a ln cA cC : Nat} {aA aC : Option Addr} {wr : World} (h : ZG pp w i n a (.slice aA ln cA) (.slice aC ln cC) wr) (hi : i ≤ 100) (h1 : 1 ≤ n) (h7 : n ≤ 7) (c : Nat) (hc : c < 256) : Calls Tryd.prog 16 #[.pointer (some ⟨pp, 0, none⟩)] wr fun r w' => ∃ aa, r = .returned (.pointer (some ⟨aa, 0, none⟩)) ∧ wr = w' ∧
    Calls Tryd.prog 19 #[.pointer (some ⟨aa, 0, none⟩), .int .i64 (a : Int), .int .i64 ((costN n : Nat) : Int), .int .u8 (c : Int)] wr fun r w2 => r = .returned (.int .i64 0) ∧
    ∃ va' w3 vc' w4, ((Builtin.append_ #[29, 29] 29 #[.slice aA ln cA, .slice (some ⟨w2.heap.size, 0, none⟩) 1 1]).run Tryd.prog (w2.alloc (.cells #[.int .i64 (a : Int)] 3)) = .ok va' w3) ∧
      ((Builtin.append_ #[29, 29] 29 #[.slice aC ln cC, .slice (some ⟨w3.heap.size, 0, none⟩) 1 1]).run Tryd.prog (w3.alloc (.cells #[.int .i64 (n : Int)] 3)) = .ok vc' w4) ∧ ZL pp w (i + 1) va' vc' w4 := by
  obtain ⟨P, L, rvA, rvC, eA, eC, zs, hap, h⟩ := h
  refine (h.fill (costN_pos.2 ⟨h1, h7⟩) zs c hc).mono ?_
  rintro r w' ⟨aa, rfl, rfl, hr⟩
  refine ⟨aa, rfl, rfl, hr.mono ?_⟩
  rintro r w2 ⟨rfl, P', zs', z2⟩
  have hl : L.length ≤ 100 := by have := zs.len; simp at this; omega
  obtain ⟨rvA', w3, r1, z3⟩ := z2.appA a (by simpa using hl)
  obtain ⟨rvC', w4, r2, z4⟩ := z3.appC n (by simpa using hl)
  rw [List.length_map] at r1 r2
  rw [← eA] at r1
  rw [← eC] at r2
  refine ⟨rfl, _, w3, _, w4, r1, r2, P', L ++ [(n, a)], rvA', rvC', by simp, by simp, zs', ?_⟩
  simpa using z4
end Go.Proofs.YtfefdleadocpmaaDoor

/- The law PoolZeros is true. Conditions: the package-level variables lie, the bytes are read. -/
namespace Go.Proofs.YtfefdleadocpmaaDoor
open Go.RowKit
set_option linter.unusedVariables false

theorem cost_bounds {n : Nat} (h1 : 1 ≤ n) (h7 : n ≤ 7) : (32 : Int) ≤ ((costN n : Nat) : Int) ∧ ((costN n : Nat) : Int) ≤ 256 := by
  have hn : n = 1 ∨ n = 2 ∨ n = 3 ∨ n = 4 ∨ n = 5 ∨ n = 6 ∨ n = 7 := by omega
  rcases hn with rfl | rfl | rfl | rfl | rfl | rfl | rfl <;> decide
theorem look_ways {a cn x ck : Nat} (h : a + cn ≤ x ∨ x + ck ≤ a) (hx : x ≤ 1073741824) (hk : ck ≤ 256) (hc : (32 : Int) ≤ cn) : (decide ((x : Int) < (a : Int) + (cn : Int)) = false ∧ (a : Int) < (x : Int) + (ck : Int) ∧ (0 : Int) ≤ x ∧ (x : Int) ≤ 1073741824 ∧ (0 : Int) ≤ ck ∧ (ck : Int) ≤ 256) ∨
    (decide ((a : Int) < (x : Int) + (ck : Int)) = false ∧ (0 : Int) ≤ x ∧ (x : Int) ≤ 1073741824 ∧ (0 : Int) ≤ ck ∧ (ck : Int) ≤ 256) := by
  rcases h with h | h
  · exact .inl ⟨by rw [decide_eq_false_iff_not]; omega, by omega, by omega, by omega, by omega, by omega⟩
  · exact .inr ⟨by rw [decide_eq_false_iff_not]; omega, by omega, by omega, by omega, by omega⟩
/-- A slice that came in holds these bytes. -/
def IsU8 (w : World) (a0 : Option Addr) (len : Nat) (A : Nat → Nat) : Prop := ∀ j, j < len → ∃ g off, a0 = some ⟨g, off, none⟩ ∧ g < w.heap.size ∧ w.cell? ⟨g, off + j, none⟩ = some (.int .u8 (A j : Int)) ∧ A j < 256
theorem IsU8.below {w w' : World} {a0 : Option Addr} {len : Nat} {A : Nat → Nat} (h : IsU8 w a0 len A) (hb : Below w.heap.size w w') : IsU8 w' a0 len A := by
  intro j hj
  obtain ⟨g, off, h1, h2, h3, h4⟩ := h j hj
  exact ⟨g, off, h1, Nat.lt_of_lt_of_le h2 hb.size, (block_same (hb.block g h2) _).trans h3, h4⟩
set_option maxHeartbeats 40000000 in
set_option maxRecDepth 100000 in
theorem zeros_any {w : World} (henv : Env w) (a0 : Option Addr) (len cap : Nat) (A : Nat → Nat) (hA : IsU8 w a0 len A) (c : Nat) (hc : c < 256) : Calls Tryd.prog 4 #[.slice a0 len cap, .int .u8 (c : Int)] w (Told w (.bool true)) := by
  have hal := alive_any henv
  have HAl : Hid (∀ r w1, Told w (.bool true) r w1 → r = .returned (.bool true) ∧ Below w.heap.size w w1 ∧ Calls Tryd.prog 6 #[.int .i64 65536, .int .i64 65536] w1 fun r w2 => ∃ pp : Nat, r = .returned (.pointer (some ⟨pp, 0, none⟩)) ∧ ZL pp w 0 (.slice none 0 0) (.slice none 0 0) w2) := by
    rintro r w1 ⟨rfl, hb⟩
    have h2 : (2 : Nat) ^ (6 + 10) = 65536 := by decide
    refine ⟨rfl, hb, (pnew_any (Sep.nil (henv.below hb)) 6 (by omega) (by omega) 65536 (by omega) (by rw [h2]; omega)).mono ?_⟩
    rintro r w2 ⟨P, rfl, hlen, hf, st⟩
    have st' : Step [] P.hl w1 w2 := by simpa using st
    have st2 : Step [] P.hl w w2 := ((Sep.nil henv).grown hb).trans st'
    exact ⟨P.p, rfl, P, [], none, none, rfl, rfl, ZS.new hlen hf, rfl, rfl, rfl, by simpa [ZH, rowH] using st2⟩
  have HA := hidden hA
  have HC := hidden hc
  clear henv hA hc
  go_enter Tryd.func4, Tryd.ntmps4
  go_wp2_with fail
  refine hal.mono ?_
  intro r w1 hx
  obtain ⟨rfl, hb1, hnew⟩ := HAl.out _ _ hx
  have HNew := hidden hnew
  have HT := hidden hx
  clear hx hb1 hnew hal HAl
  by_cases h100 : 100 < len
  · have h100i : (100 : Int) < len := by omega
    clear h100
    go_wp2_with fail
    go_ret
    exact HT.out
  have hlen : (len : Int) ≤ 100 := by omega
  have hd100 : decide ((100 : Int) < (len : Int)) = false := by rw [decide_eq_false_iff_not]; omega
  clear h100 HT
  go_wp2_with fail
  refine HNew.out.mono ?_
  rintro r w2 ⟨pp, rfl, hz0⟩
  have HZ0 := hidden hz0
  clear hz0 HNew
  go_wp2_with fail
  go_loopg [6, 7, 8] len (fun gk va vc iv wr => ∃ i : Nat, iv = .int .i64 i ∧ i + gk = len ∧ ZL pp w i va vc wr)
  case atStart => exact ⟨0, rfl, Nat.zero_add _, HZ0.out⟩
  case round =>
    clear HZ0
    obtain ⟨i, rfl, hig, hz⟩ := hrel
    obtain ⟨aA, aC, cA, cC, ln, rfl, rfl, l1, l2, l3, l4, l5⟩ := hz.shape
    have HZ := hidden hz
    have HIg := hidden hig
    clear hz
    by_cases hlt : i < len
    · obtain ⟨g, off, rfl, hgl, hcell, hb256⟩ := (HA.out.below HZ.out.fresh) i hlt
      generalize A i = b at *
      have hi100 : i ≤ 100 := by omega
      have hb0 : (0 : Int) ≤ b := by omega
      have hb1 : (b : Int) < 256 := by omega
      by_cases hput : 200 ≤ b ∧ 0 < ln
      · obtain ⟨h200, hln⟩ := hput
        have hnl : b % ln < ln := Nat.mod_lt _ hln
        have hmodT : (b : Int).tmod (ln : Int) = ((b % ln : Nat) : Int) := by
          rw [Int.tmod_eq_emod_of_nonneg hb0, Int.natCast_emod]
        obtain ⟨ga, gc, k, a, rfl, rfl, ca, cc, hput⟩ := HZ.out.put hi100 (b % ln) hnl
        generalize b % ln = n at *
        have HPut := hidden hput
        clear hput HZ
        have h200i : (200 : Int) ≤ b := by omega
        have hlni : (0 : Int) < (ln : Int) := by omega
        have hun : ((ln : Int) == 0) = false := by simp; omega
        have hun2 : ¬ ln = 0 := by omega
        have hun3 : ¬ (ln : Int) = 0 := by omega
        have hni : (n : Int) < (ln : Int) := by omega
        have hn0 : (0 : Int) ≤ (n : Int) := by omega
        have hn1 : (0 : Int) ≤ (n : Int) + 1 := by omega
        have hn2 : (n : Int) + 1 ≤ (ln : Int) := by omega
        have hn3 : (n : Int) ≤ (cA : Int) := by omega
        have hn4 : (n : Int) ≤ (cC : Int) := by omega
        have hn5 : (ln : Int) ≤ (cA : Int) := by omega
        have hn6 : (ln : Int) ≤ (cC : Int) := by omega
        have htk : ((n : Int) + 1).toNat = n + 1 := by omega
        have hw1 : IntKind.i64.wrap ((n : Nat) : Int) = (n : Int) := Go.IntWalk.i64_in _ (by omega)
        have hw2 : IntKind.i64.wrap ((b : Int).tmod (ln : Int)) = (n : Int) := by rw [hmodT]; exact hw1
        have hw3 : IntKind.i64.wrap ((n : Int) + 1) = (n : Int) + 1 := Go.IntWalk.i64_in _ (by omega)
        have da : wr.drew.cell? ⟨ga, n, none⟩ = some (.int .i64 (a : Int)) := ca
        have dc : wr.drew.cell? ⟨gc, n, none⟩ = some (.int .i64 (k : Int)) := cc
        clear h200 hln hnl
        go_wp2_with fail
        go_region_held3 (fun w' => w'.cell? ⟨ga, n, none⟩ = some (.int .i64 (a : Int)) ∧ w'.cell? ⟨gc, n, none⟩ = some (.int .i64 (k : Int))) (first | exact ⟨ca, cc⟩ | exact ⟨da, dc⟩ | exact ⟨e1, e2⟩)
          (first | (go_at_call 9; refine HPut.out.mono ?_; rintro r w3 ⟨rfl, e1, e2, hx⟩; have HX := hidden hx; clear hx))
        obtain ⟨v1, w3', va', w4, u1, w4', vc', w5, r1, r2, r3, r4, hzl⟩ := HX.out
        have HR1 := hidden r1
        have HR2 := hidden r2
        have HR3 := hidden r3
        have HR4 := hidden r4
        have HZl := hidden hzl
        clear r1 r2 r3 r4 hzl HX HPut ca cc da dc
        go_wp2_with fail
        go_region_law (first | (refine step_append_runI rfl (.tmp 65) (.tmp 68) 29 29 rfl _ _ (by simp [Act.eval, Act.put]) (by simp [Act.eval, Act.put]) HR1.out ?_) | (refine step_append_runI rfl (.tmp 69) (.tmp 73) 29 29 rfl _ _ (by simp [Act.eval, Act.put]) (by simp [Act.eval, Act.put]) HR2.out ?_))
        all_goals
          go_wp2_with fail
          all_goals
            go_region_law (first | (refine step_append_runI rfl (.tmp 75) (.tmp 78) 29 29 rfl _ _ (by simp [Act.eval, Act.put]) (by simp [Act.eval, Act.put]) HR3.out ?_) | (refine step_append_runI rfl (.tmp 79) (.tmp 83) 29 29 rfl _ _ (by simp [Act.eval, Act.put]) (by simp [Act.eval, Act.put]) HR4.out ?_))
            all_goals
              go_wp2_with fail
              all_goals
                go_roundg (len - (i + 1))
                case measure => have := HIg.out; omega
                case rel => exact ⟨i + 1, by go_num, by have := HIg.out; omega, HZl.out⟩
      · have hcase : (b : Int) < 200 ∨ ((200 : Int) ≤ b ∧ decide (0 < ln) = false ∧ decide ((0 : Int) < (ln : Int)) = false) := by
          rcases Nat.lt_or_ge b 200 with h | h
          · exact .inl (by omega)
          · exact .inr ⟨by omega, by rw [decide_eq_false_iff_not]; omega, by rw [decide_eq_false_iff_not]; omega⟩
        have hm7 : (b : Int).tmod 7 = ((b % 7 : Nat) : Int) := by
          rw [Int.tmod_eq_emod_of_nonneg hb0]; omega
        have hb7 : b % 7 < 7 := Nat.mod_lt _ (by omega)
        generalize b % 7 = b7 at *
        obtain ⟨n, hn⟩ : ∃ n, n = 1 + b7 := ⟨_, rfl⟩
        have hkn : 1 + (b7 : Int) = (n : Int) := by omega
        have hget := HZ.out.get hi100 n (by omega) (by omega)
        have HGet := hidden hget
        have HN : Hid (1 ≤ n ∧ n ≤ 7) := ⟨by omega, by omega⟩
        have HKn := hidden hkn
        clear hget hput hn hkn HZ
        rcases hcase with hcs | ⟨hcs, hcs2, hcs3⟩
        all_goals
          go_wp2_with fail
          rw [HKn.out]
          try clear hcs2 hcs3
          refine HGet.out.mono ?_
          rintro r w3 ⟨a, rfl, ha30, hcost3, har⟩
          have HCost3 := hidden hcost3
          have HAr := hidden har
          clear hcost3 har HGet
          have ha0 : (0 : Int) ≤ a := by omega
          have ha30i : (a : Int) ≤ 1073741824 := by omega
          go_wp2_with fail
          refine HAr.out.mono ?_
          rintro r w' ⟨aa, rfl, rfl, hrd⟩
          have HRd := hidden hrd
          clear hrd HAr
          go_wp2_with fail
          refine HCost3.out.mono ?_
          rintro r w' ⟨rfl, rfl⟩
          go_wp2_with fail
          refine HRd.out.mono ?_
          rintro r w4 ⟨gb, cb, rfl, hgbl, hzero, hzg, hcost4, hbl⟩
          have HZero := hidden hzero
          have HZg := hidden hzg
          have HCost4 := hidden hcost4
          have HBl := hidden hbl
          clear hzero hzg hcost4 hbl HRd HCost3
          unfold CostIs at HCost4
          obtain ⟨hc32, hc256⟩ := cost_bounds HN.out.1 HN.out.2
          generalize hcn0 : costN n = cn at *
          have hcn := hidden hcn0
          clear hcn0
          go_wp2_with fail
          refine HCost4.out.mono ?_
          rintro r w' ⟨rfl, rfl⟩
          go_wp2_with fail
          refine HCost4.out.mono ?_
          rintro r w' ⟨rfl, rfl⟩
          go_wp2_with fail
          refine HBl.out.mono ?_
          rintro r w' ⟨bb, rfl, rfl, hor⟩
          have HOr := hidden hor
          clear hor HBl HCost4
          have htd : (a : Int).tdiv 1024 = ((a / 1024 : Nat) : Int) := by
            rw [Int.tdiv_eq_ediv_of_nonneg ha0]; omega
          have hq : a / 1024 ≤ 1048576 := by omega
          generalize a / 1024 = q at *
          have hq0 : (0 : Int) ≤ q := by omega
          have hq1 : (q : Int) ≤ 1048576 := by omega
          clear hq
          have HQ : Hid ((q : Int) * 1024 = 1024 * (q : Int)) := Int.mul_comm _ _
          go_wp2_with fail
          rw [HQ.out]
          refine HOr.out.mono ?_
          rintro r w' ⟨rfl, rfl⟩
          clear HOr HQ hq0 hq1 htd hcs hm7 hb0 hb1 hcell
          go_wp2_with fail
          obtain ⟨gko, hgo⟩ : ∃ g, g = gk := ⟨_, rfl⟩
          subst hgo
          obtain ⟨wo, hwo⟩ : ∃ wo, wo = wr := ⟨_, rfl⟩
          subst hwo
          go_loopg [15] cn (fun gi jv wi => ∃ j : Nat, jv = .int .i64 j ∧ j + gi = cn ∧ w4 = wi)
          case atStart => exact ⟨0, rfl, Nat.zero_add _, rfl⟩
          case round =>
            obtain ⟨j, rfl, hjg, rfl⟩ := hrel
            have HJg := hidden hjg
            clear hjg
            by_cases hj : j < cn
            · have hz := HZero.out j hj
              go_wp2_with fail
              go_roundg (cn - (j + 1))
              case measure => have := HJg.out; omega
              case rel => exact ⟨j + 1, by go_num, by have := HJg.out; omega, rfl⟩
            · obtain rfl : j = cn := by have := HJg.out; omega
              go_wp2_with fail
              obtain ⟨gkp, hgp⟩ : ∃ g, g = gk := ⟨_, rfl⟩
              subst hgp
              obtain ⟨wp, hwp⟩ : ∃ wp, wp = w4 := ⟨_, rfl⟩
              subst hwp
              go_loopg [16] ln (fun gi mv wi => ∃ m : Nat, mv = .int .i64 m ∧ m + gi = ln ∧ ZG pp w i n a (.slice aA ln cA) (.slice aC ln cC) wi)
              case atStart => exact ⟨0, rfl, Nat.zero_add _, HZg.out⟩
              case round =>
                clear HZg HZero
                obtain ⟨m, rfl, hmg, hzg⟩ := hrel
                have HZg := hidden hzg
                have HMg := hidden hmg
                clear hzg hmg
                by_cases hm : m < ln
                · obtain ⟨ga, gc, k, x, rfl, rfl, ca, cc, hck, hap, hx30, hk256⟩ := HZg.out.look m hm
                  have HD := hidden HZg.out.drewN
                  have HCk := hidden hck
                  unfold CostQ at HCk
                  have hmA : m < cA := by omega
                  have hmC : m < cC := by omega
                  rw [hcn.out] at hap
                  generalize costN k = ck at *
                  clear hck
                  rcases look_ways hap hx30 hk256 hc32 with ⟨hno, hyes, hx0, hx1, hk0, hk1⟩ | ⟨hno, hx0, hx1, hk0, hk1⟩
                  all_goals
                    clear hap hx30 hk256
                    go_wp2_with fail
                    go_quiet ((go_at_call 10; exact HCk.out _))
                    go_wp2_with fail
                    go_roundg (ln - (m + 1))
                    case measure => have := HMg.out; omega
                    case rel => exact ⟨m + 1, by go_num, by have := HMg.out; omega, HD.out _⟩
                · obtain rfl : m = ln := by have := HMg.out; omega
                  have hfl := HZg.out.fill hi100 HN.out.1 HN.out.2 c HC.out
                  rw [hcn.out] at hfl
                  have HFl := hidden hfl
                  clear hfl
                  go_wp2_with fail
                  refine HFl.out.mono ?_
                  rintro r w' ⟨aa2, rfl, rfl, hff⟩
                  have HFf := hidden hff
                  clear hff HFl
                  go_wp2_with fail
                  refine HFf.out.mono ?_
                  rintro r w5 ⟨rfl, va', w6, vc', w7, r1, r2, hzl⟩
                  have HZl := hidden hzl
                  clear hzl HFf
                  go_wp2_with (first | (at_builtin; refine Lib.wpList_append_run _ rfl (.tmp 172) _ _ _ rfl _ _ rfl rfl _ _ r1 ?_) | (at_builtin; refine Lib.wpList_append_run _ rfl (.tmp 176) _ _ _ rfl _ _ rfl rfl _ _ r2 ?_))
                  go_roundg (len - (i + 1))
                  case measure => have := HIg.out; omega
                  case rel => exact ⟨i + 1, by go_num, by have := HIg.out; omega, HZl.out⟩
    · obtain rfl : i = len := by omega
      have HR : Hid (Told w (.bool true) (.returned (.bool true)) wr) := ⟨rfl, HZ.out.fresh⟩
      clear hig HIg hlen hd100 HA HZ
      go_wp2_with fail
      go_ret
      exact HR.out
end Go.Proofs.YtfefdleadocpmaaDoor

/- The walk of the law PoolSums. Conditions: the package-level variables lie, the acts are read. -/
namespace Go.Proofs.YtfefdleadocpmaaDoor
open Go.RowKit

/-- An act: its kind, a factory, a class, a number. -/
structure A4 where
  k : Int
  f : Int
  c : Int
  n : Int
/-- A slice that came in holds these acts. -/
def IsA4 (w : World) (a0 : Option Addr) (len : Nat) (A : Nat → A4) : Prop := ∀ j, j < len → ∃ g off, a0 = some ⟨g, off, none⟩ ∧ g < w.heap.size ∧ w.cell? ⟨g, off + j * 4, none⟩ = some (.int .i64 (A j).k) ∧ w.cell? ⟨g, off + j * 4 + 1, none⟩ = some (.int .i64 (A j).f) ∧ w.cell? ⟨g, off + j * 4 + 2, none⟩ = some (.int .i64 (A j).c) ∧ w.cell? ⟨g, off + j * 4 + 3, none⟩ = some (.int .i64 (A j).n) ∧ (A j).n ≤ 9223372036854775807
theorem IsA4.below {w w' : World} {a0 : Option Addr} {len : Nat} {A : Nat → A4} (h : IsA4 w a0 len A) (hb : Below w.heap.size w w') : IsA4 w' a0 len A := by
  intro j hj
  obtain ⟨g, off, h1, h2, h3, h4, h5, h6, h7⟩ := h j hj
  have e := hb.block g h2
  exact ⟨g, off, h1, Nat.lt_of_lt_of_le h2 hb.size, (block_same e _).trans h3, (block_same e _).trans h4, (block_same e _).trans h5, (block_same e _).trans h6, h7⟩
/-- The shape of a new slice of numbers. -/
theorem newints_shape {w : World} {L : List Nat} {r : Ending} {w' : World} (h : NewInts w L r w') : ∃ (a : Option Addr) (cap : Nat), r = .returned (.slice a L.length cap) ∧ Below w.heap.size w w' ∧ ∀ wr : World, (∀ b, w.heap.size ≤ b → b < w'.heap.size → wr.heap[b]? = w'.heap[b]?) → ∀ (j x : Nat), L[j]? = some x → ∃ g, a = some ⟨g, 0, none⟩ ∧ w.heap.size ≤ g ∧ g < w'.heap.size ∧ wr.cell? ⟨g, j, none⟩ = some (.int .i64 (x : Int)) := by
  obtain ⟨v, rfl, ⟨_, h2⟩, hb⟩ := h
  rcases h2 with ⟨rfl, h0⟩ | ⟨g, cap, cur, rfl, hg, hgb, hn, hm, hs, htk⟩
  · refine ⟨none, 0, by rw [h0], hb, fun wr _ j x hj => ?_⟩
    have := (List.getElem?_eq_some_iff.1 hj).1
    omega
  · refine ⟨_, cap, rfl, hb, fun wr hwr j x hj => ⟨g, rfl, hg, lt_of_block hgb, ?_⟩⟩
    have hbk : wr.heap[g]? = some (.cells cur 3 (0, 0)) := (hwr g hg (lt_of_block hgb)).trans hgb
    have hv : (ints L)[j]? = some (.int .i64 (x : Int)) := by unfold ints; rw [List.getElem?_map, hj]; rfl
    rw [← htk, List.getElem?_take] at hv
    split at hv
    · simp only [World.cell?, hbk, Option.isSome_none, Bool.false_eq_true, if_false]
      rw [← Array.getElem?_toList]; exact hv
    · cases hv
/-- The law's state between two acts. -/
def SumsAt (lim : Int) (pp : Nat) (w wr : World) : Prop := ∃ P : PL, PS lim P ∧ P.p = pp ∧ Step [] P.hl w wr
theorem SumsAt.fresh {lim : Int} {pp : Nat} {w wr : World} (h : SumsAt lim pp w wr) : Below w.heap.size w wr := by
  obtain ⟨P, _, _, st⟩ := h
  exact st.fresh
theorem SumsAt.below {lim : Int} {pp : Nat} {w wr wr' : World} (h : SumsAt lim pp w wr) (hb : Below wr.heap.size wr wr') : SumsAt lim pp w wr' := by
  obtain ⟨P, a, b, st⟩ := h
  exact ⟨P, a, b, st.trans (st.sep.grown hb)⟩
/-- An act's Used: the slice, what may be done behind it. -/
theorem sums_used {lim : Int} {pp : Nat} {w wr0 wr : World} (h : SumsAt lim pp w wr0) (hbr : Below wr0.heap.size wr0 wr) (c : Int) : Calls Tryd.prog 7 #[.pointer (some ⟨pp, 0, none⟩), .int .i64 c] wr fun r w2 => ∃ (a : Option Addr) (len cap : Nat), len ≤ 1073741824 ∧ r = .returned (.slice a len cap) ∧ Below wr.heap.size wr w2 ∧ SumsAt lim pp w w2 ∧
    (Calls Tryd.prog 8 #[.pointer (some ⟨pp, 0, none⟩), .int .i64 0, .int .i64 c] w2 fun r w3 => (∃ x e : Int, r = .returned (.tuple #[.int .i64 x, .int .i64 e])) ∧ SumsAt lim pp w w3) ∧
    ∀ j, j < len → ∃ (g : Nat) (x : Int), a = some ⟨g, 0, none⟩ ∧ wr0.heap.size ≤ g ∧ g < w2.heap.size ∧ w2.cell? ⟨g, j, none⟩ = some (.int .i64 x) ∧ Calls Tryd.prog 9 #[.pointer (some ⟨pp, 0, none⟩), .int .i64 0, .int .i64 c, .int .i64 x] w2.drew fun r w3 => r = .returned (.int .i64 0) ∧ SumsAt lim pp w w3 ∧ ∀ b, wr0.heap.size ≤ b → b < w2.heap.size → w3.heap[b]? = w2.heap[b]? := by
  obtain ⟨P, ps, rfl, st0⟩ := h
  have st := st0.trans (st0.sep.grown hbr)
  refine (pused_any st.sep ps.ok c).mono ?_
  intro r w2 hn
  obtain ⟨a, cap, rfl, hb, hrow⟩ := newints_shape hn
  have st2 := st.trans (st.sep.grown hb)
  have hlen : (P.usedI c).length ≤ 1073741824 := by
    unfold PL.usedI
    split
    · rename_i h0
      by_cases hz : (P.usedOf c.toNat).length = 0
      · omega
      · obtain ⟨x, hx⟩ := List.exists_mem_of_length_pos (Nat.pos_of_ne_zero hz)
        obtain ⟨_, _, h1, h7⟩ := used_in_mem ps.ok hx
        have := sumU_ge P h1 h7
        have hc := costN_pos.2 ⟨h1, h7⟩
        have := Nat.le_mul_of_pos_right (P.usedOf c.toNat).length hc
        have := ps.le
        omega
    · simp
  refine ⟨a, (P.usedI c).length, cap, hlen, rfl, hb, ⟨P, ps, rfl, st2⟩, ?_, ?_⟩
  · refine (ps_get st2.sep ps c).mono ?_
    rintro r w3 ⟨he, P', ps', ep, st3⟩
    exact ⟨he, P', ps', ep, st2.trans st3⟩
  · intro j hj
    have hx := List.getElem?_eq_getElem hj
    generalize (P.usedI c)[j] = x at hx
    obtain ⟨g, rfl, hg1, hg2, hcell⟩ := hrow w2 (fun _ _ _ => rfl) j x hx
    have hm := List.mem_of_getElem? hx
    have h0 : 0 ≤ c := by
      unfold PL.usedI at hm
      split at hm
      · assumption
      · cases hm
    obtain ⟨n, rfl⟩ := Int.eq_ofNat_of_zero_le h0
    unfold PL.usedI at hm
    rw [if_pos h0, Int.toNat_natCast] at hm
    refine ⟨g, x, rfl, Nat.le_trans hbr.size hg1, hg2, hcell, (ps_put st2.sep.drew ps n x hm).mono ?_⟩
    rintro r w3 ⟨rfl, P', ps', ep, _, _, st3⟩
    exact ⟨rfl, ⟨P', ps', ep, st2.trans st3.from_drew⟩, fun b hb1 hb2 => st3.from_drew.chg.block b hb2 fun hm' => by have := st0.sep.lt hm'; omega⟩
/-- The state while the sum is made: k classes are gone through. -/
def SumAt (lim : Int) (pp : Nat) (w wr : World) (P : PL) : Prop := PS lim P ∧ P.p = pp ∧ Step [] P.hl w wr
theorem sum_used {lim : Int} {pp : Nat} {w wr : World} {P : PL} (h : SumAt lim pp w wr P) (k : Nat) (h1 : 1 ≤ k) (h7 : k ≤ 7) : Calls Tryd.prog 7 #[.pointer (some ⟨pp, 0, none⟩), .int .i64 (k : Int)] wr fun r w2 => ∃ (a : Option Addr) (cap : Nat), r = .returned (.slice a (P.usedOf k).length cap) ∧ SumAt lim pp w w2 P ∧
    Calls Tryd.prog 10 #[.int .i64 (k : Int)] w2 fun r w' => r = .returned (.int .i64 ((costN k : Nat) : Int)) ∧ w2 = w' := by
  obtain ⟨ps, rfl, st⟩ := h
  refine (pused_any st.sep ps.ok (k : Int)).mono ?_
  intro r w2 hn
  obtain ⟨a, cap, rfl, hb, _⟩ := newints_shape hn
  have e : P.usedI (k : Int) = P.usedOf k := by unfold PL.usedI; rw [if_pos (by omega), Int.toNat_natCast]
  rw [e]
  have st2 := st.trans (st.sep.grown hb)
  have hc := cost_any st2.sep.env (k : Int)
  rw [show costI (k : Int) = costN k by unfold costI; rw [if_pos (by omega), Int.toNat_natCast]] at hc
  exact ⟨a, cap, rfl, ⟨ps, rfl, st2⟩, hc⟩
theorem sum_end {lim : Int} {pp : Nat} {w wr : World} {P : PL} (h : SumAt lim pp w wr P) : Calls Tryd.prog 11 #[.pointer (some ⟨pp, 0, none⟩)] wr fun r w' => ∃ q, r = .returned (.pointer (some ⟨q, 0, none⟩)) ∧ wr = w' ∧
    Calls Tryd.prog 12 #[.pointer (some ⟨q, 0, none⟩), .int .i64 0] wr fun r w' => r = .returned (.int .i64 ((sumU P : Nat) : Int)) ∧ wr = w' := by
  obtain ⟨ps, rfl, st⟩ := h
  refine (pquota_any st.sep).mono ?_
  rintro r w' ⟨rfl, rfl⟩
  exact ⟨P.q.t, rfl, rfl, ps_charged st.sep ps⟩
/-- The last round: classes below k have nothing left, of class k the places from i on are left. -/
def GoneAt (lim : Int) (pp : Nat) (w wr : World) (P : PL) (k : Nat) : Prop := SumAt lim pp w wr P ∧ ∀ j, j < k → P.usedOf j = []
def PartAt (lim : Int) (pp : Nat) (w wr : World) (k : Nat) (L : List Nat) (i : Nat) (a : Option Addr) : Prop := ∃ P, SumAt lim pp w wr P ∧ (∀ j, j < k → P.usedOf j = []) ∧ P.usedOf k = L.drop i ∧
  ∀ (j x : Nat), L[j]? = some x → ∃ g, a = some ⟨g, 0, none⟩ ∧ g ∉ keys P.hl ∧ g < wr.heap.size ∧ wr.cell? ⟨g, j, none⟩ = some (.int .i64 (x : Int))
theorem part_put {lim : Int} {pp : Nat} {w wr : World} {k i : Nat} {L : List Nat} {a : Option Addr} (h : PartAt lim pp w wr k L i a) (x : Nat) (hx : L[i]? = some x) : ∃ g, a = some ⟨g, 0, none⟩ ∧ wr.cell? ⟨g, i, none⟩ = some (.int .i64 (x : Int)) ∧
    Calls Tryd.prog 9 #[.pointer (some ⟨pp, 0, none⟩), .int .i64 0, .int .i64 (k : Int), .int .i64 (x : Int)] wr fun r w' => r = .returned (.int .i64 0) ∧ PartAt lim pp w w' k L (i + 1) a := by
  obtain ⟨P, ⟨ps, rfl, st⟩, hz, hu, hr⟩ := h
  obtain ⟨g, rfl, hgk, hgl, hc⟩ := hr i x hx
  have hi := (List.getElem?_eq_some_iff.1 hx)
  have hd : L.drop i = x :: L.drop (i + 1) := by rw [List.drop_eq_getElem_cons hi.1, hi.2]
  refine ⟨g, rfl, hc, (ps_put st.sep ps k x (by rw [hu, hd]; simp)).mono ?_⟩
  rintro r w' ⟨rfl, P', ps', ep, ⟨A, B, u1, u2⟩, ho, st'⟩
  have hpw := usedOf_pairwise ps.ok k
  rw [hu, hd] at u1
  have hA : A = [] := by
    cases A with
    | nil => rfl
    | cons y r =>
      exfalso
      simp only [List.cons_append, List.cons.injEq] at u1
      rw [hu, hd] at hpw
      have := (List.pairwise_cons.1 hpw).1 x (by rw [u1.2]; simp)
      omega
  subst hA
  simp only [List.nil_append, List.cons.injEq, true_and] at u1 u2
  refine ⟨rfl, P', ⟨ps', ep, st.trans st'⟩, fun j hj => by rw [ho j (by omega)]; exact hz j hj, by rw [u2, ← u1], fun j y hy => ?_⟩
  obtain ⟨g2, e2, hk2, hl2, hc2⟩ := hr j y hy
  have hbk := st'.chg.block g2 hl2 hk2
  refine ⟨g2, e2, fun hm => ?_, Nat.lt_of_lt_of_le hl2 st'.chg.size, (block_same hbk j).trans hc2⟩
  rcases st'.new g2 hm with h' | h'
  · exact hk2 h'
  · omega
theorem gone_used {lim : Int} {pp : Nat} {w wr : World} {P : PL} {k : Nat} (h : GoneAt lim pp w wr P k) (h1 : 1 ≤ k) (h7 : k ≤ 7) : Calls Tryd.prog 7 #[.pointer (some ⟨pp, 0, none⟩), .int .i64 (k : Int)] wr fun r w2 => ∃ (a : Option Addr) (cap : Nat), r = .returned (.slice a (P.usedOf k).length cap) ∧ PartAt lim pp w w2 k (P.usedOf k) 0 a := by
  obtain ⟨⟨ps, rfl, st⟩, hz⟩ := h
  refine (pused_any st.sep ps.ok (k : Int)).mono ?_
  intro r w2 hn
  have e : P.usedI (k : Int) = P.usedOf k := by unfold PL.usedI; rw [if_pos (by omega), Int.toNat_natCast]
  rw [e] at hn
  obtain ⟨v, rfl, ⟨_, h2⟩, hb⟩ := hn
  have st2 := st.trans (st.sep.grown hb)
  rcases h2 with ⟨rfl, h0⟩ | ⟨g, cap, cur, rfl, hg, hgb, hn, hm, hs, htk⟩
  · refine ⟨none, 0, by rw [h0], P, ⟨ps, rfl, st2⟩, hz, rfl, fun j x hj => ?_⟩
    have := (List.getElem?_eq_some_iff.1 hj).1
    omega
  · refine ⟨_, cap, rfl, P, ⟨ps, rfl, st2⟩, hz, rfl, fun j x hj => ⟨g, rfl, fun hm' => by have := st.sep.lt hm'; omega, lt_of_block hgb, ?_⟩⟩
    have hv : (ints (P.usedOf k))[j]? = some (.int .i64 (x : Int)) := by unfold ints; rw [List.getElem?_map, hj]; rfl
    rw [← htk, List.getElem?_take] at hv
    split at hv
    · simp only [World.cell?, hgb, Option.isSome_none, Bool.false_eq_true, if_false]
      rw [← Array.getElem?_toList]; exact hv
    · cases hv
/-- Behind the last round. -/
theorem gone_end {lim : Int} {pp : Nat} {w wr : World} {P : PL} (h : GoneAt lim pp w wr P 8) : Calls Tryd.prog 5 #[] wr fun r w1 => r = .returned (.bool true) ∧
    Calls Tryd.prog 11 #[.pointer (some ⟨pp, 0, none⟩)] w1 fun r w' => ∃ q, r = .returned (.pointer (some ⟨q, 0, none⟩)) ∧ w1 = w' ∧
    Calls Tryd.prog 13 #[.pointer (some ⟨q, 0, none⟩), .int .i64 0] w1 fun r w2 => r = .returned (.int .i64 0) ∧
    Calls Tryd.prog 14 #[.pointer (some ⟨pp, 0, none⟩)] w2 fun r w' => ∃ b, r = .returned (.pointer (some ⟨b, 0, none⟩)) ∧ w2 = w' ∧
    Calls Tryd.prog 15 #[.pointer (some ⟨b, 0, none⟩)] w2 fun r w3 => ∃ g cap : Nat, r = .returned (.slice (some ⟨g, 0, none⟩) 1 cap) ∧ Below w.heap.size w w3 := by
  obtain ⟨⟨ps, rfl, st⟩, hz⟩ := h
  have hall : ∀ j, P.usedOf j = [] := fun j => by
    rcases Nat.lt_or_ge j 8 with e | e
    · exact hz j e
    · exact usedOf_big ps.ok (costN_big e)
  have hsum : sumU P = 0 := by rw [sumU_eq]; simp only [hall]; rfl
  refine (alive_any st.sep.env).mono ?_
  rintro r w1 ⟨rfl, hb1⟩
  have st1 := st.trans (st.sep.grown hb1)
  refine ⟨rfl, (pquota_any st1.sep).mono ?_⟩
  rintro r w' ⟨rfl, rfl⟩
  have hu := ps_use st1.sep ps
  rw [hsum] at hu
  refine ⟨_, rfl, rfl, hu.mono ?_⟩
  rintro r w2 ⟨rfl, hb2⟩
  have st2 := st1.trans (st1.sep.grown hb2)
  refine ⟨rfl, (pblocks_any st2.sep).mono ?_⟩
  rintro r w' ⟨rfl, rfl⟩
  refine ⟨_, rfl, rfl, (ps_free st2.sep ps hall).mono ?_⟩
  rintro r w3 ⟨⟨g, cap, rfl⟩, hb3⟩
  exact ⟨g, cap, rfl, (st2.trans (st2.sep.grown hb3)).fresh⟩
end Go.Proofs.YtfefdleadocpmaaDoor
