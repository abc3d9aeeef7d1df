/- CoreApart returns true at every input. No condition. Part of its proof. -/
import Derived.Test.YtcnbbenmlffgpaaGreatDoorCa03
import Derived.Deep.QuietTactic
import Derived.BigQuiet
import Derived.Laws.CopyRow
import Derived.Laws.IdiomCopy
import Derived.Lib.Overlaps
import Derived.Lib.AppendZerosOnto
import Derived.Shelf.Spec.SlicesInsert
set_option linter.unusedVariables false
/- Walks of a cache's search. Conditions: the blocks hold what CA.hl says. -/
namespace Go.Proofs.YtcnbbenmlffgpaaGreatDoor
open Go.RowKit

theorem cmp_lt (a b : Nat) : decide (cmpI ((1024 * a : Nat) : Int) ((1024 * b : Nat) : Int) < 0) = decide (a < b) := by
  unfold cmpI
  by_cases h1 : a < b
  · rw [if_pos (by omega)]; simp [h1]
  · rw [if_neg (by omega)]
    by_cases h2 : b < a
    · rw [if_pos (by omega)]; simp [h1]
    · rw [if_neg (by omega)]; simp [h1]
theorem cmp_eq (a b : Nat) : (cmpI ((1024 * a : Nat) : Int) ((1024 * b : Nat) : Int) == 0) = decide (a = b) := by
  unfold cmpI
  by_cases h1 : a < b
  · rw [if_pos (by omega), decide_eq_false (by omega)]; rfl
  · rw [if_neg (by omega)]
    by_cases h2 : b < a
    · rw [if_pos (by omega), decide_eq_false (by omega)]; rfl
    · rw [if_neg (by omega), decide_eq_true (by omega)]; rfl
/-- Is there a page of that number? -/
def hasPg (pg : List (BM × Nat)) (q : Nat) : Bool := match pg[below_ pg q]? with | some x => decide (x.2 = q) | none => false
def Found (pg : List (BM × Nat)) (q : Nat) (w : World) (r : Ending) (w' : World) : Prop := r = .returned (.tuple #[.int .i64 (below_ pg q), .bool (hasPg pg q)]) ∧ Below w.heap.size w w'
set_option maxHeartbeats 4000000 in
set_option maxRecDepth 100000 in
theorem bsearch_any {w : World} {c : CA} (h : Sep w c.hl) (ok : c.Ok) (q : Nat) :
    Calls Tryz.prog 175 #[lvOf c.rv c.pg.length, .int .i64 ((1024 * q : Nat) : Int), .func (.func 176) #[] #[]] w (Found c.pg q w) := by
  have hB := below_le c.pg q
  have hln := ok.len
  cases hrv : c.rv with
  | none =>
    have h0 : c.pg.length = 0 := by have := ok.rv; rw [hrv] at this; exact this
    have hpg : c.pg = [] := List.eq_nil_of_length_eq_zero h0
    rw [hpg]
    have hR : Hid (Found [] q w (.returned (.tuple #[.int .i64 0, .bool false])) w) := ⟨rfl, Below.refl _ _⟩
    clear h ok hB hln h0 hpg hrv
    generalize 1024 * q = x at *
    unfold lvOf
    go_enter Tryz.func175, Tryz.ntmps175
    go_wp2_with fail
    go_loop [9, 10] (fun iv jv => iv = .int .i64 0 ∧ jv = .int .i64 0) (fun _ _ => 0)
    case atStart => exact ⟨rfl, rfl⟩
    case round =>
      obtain ⟨rfl, rfl⟩ := hrel
      go_wp2_with fail
      go_ret2
      exact hR.out
  | some p =>
    obtain ⟨rb, cap⟩ := p
    have hsr := CA.sepR h
    rw [hrv] at hsr
    have hrb : rb < w.heap.size := hsr.lt (by simp [rowH])
    have HC := hidden (show ∀ k x wr, c.pg[k]? = some x → Below w.heap.size w wr → wr.cell? ⟨rb, k * 2, none⟩ = some (ptr x.1.b) ∧ wr.cell? ⟨rb, k * 2 + 1, none⟩ = some (.int .i64 ((1024 * x.2 : Nat) : Int)) from fun k x wr hx hb => by
      obtain ⟨e1, e2⟩ := pcells_get _ _ _ hx
      exact ⟨(hb.cell (p := ⟨rb, k * 2, none⟩) hrb).trans (row_cell hsr _ _ e1), (hb.cell (p := ⟨rb, k * 2 + 1, none⟩) hrb).trans (row_cell hsr _ _ e2)⟩)
    have HAt := hidden (fun k x hx => below_at ok.sorted q k x hx)
    have HCall := hidden (show ∀ (x : BM × Nat) (wr : World), Below w.heap.size w wr → Calls Tryz.prog 176 #[.agg #[ptr x.1.b, .int .i64 ((1024 * x.2 : Nat) : Int)], .int .i64 ((1024 * q : Nat) : Int)] wr fun r w' => r = .returned (.int .i64 (cmpI ((1024 * x.2 : Nat) : Int) ((1024 * q : Nat) : Int))) ∧ Below w.heap.size w w' from fun x wr hb =>
      (find1_any wr (ptr x.1.b) _ _).mono fun r w' ⟨e, hb2⟩ => ⟨e, hb.trans (hb2.mono hb.size)⟩)
    have HF := hidden (show ∀ wr : World, Below w.heap.size w wr → Found c.pg q w (.returned (.tuple #[.int .i64 (below_ c.pg q), .bool (hasPg c.pg q)])) wr from fun wr hb => ⟨rfl, hb⟩)
    have HHas : Hid (∀ x, c.pg[below_ c.pg q]? = some x → hasPg c.pg q = decide (x.2 = q)) := fun x hx => by unfold hasPg; rw [hx]
    have HNo : Hid (below_ c.pg q = c.pg.length → hasPg c.pg q = false) := fun e => by unfold hasPg; rw [e, List.getElem?_eq_none (Nat.le_refl _)]
    have HGet : Hid (∀ k, k < c.pg.length → ∃ x, c.pg[k]? = some x) := fun k hk => ⟨_, List.getElem?_eq_getElem hk⟩
    clear h ok hsr hrv
    generalize hBB : below_ c.pg q = B at *
    generalize hasPg c.pg q = hp at *
    generalize hpp : c.pg = pg at *
    generalize pg.length = n at *
    clear hBB hpp
    unfold lvOf
    go_enter Tryz.func175, Tryz.ntmps175
    go_wp2_with fail
    go_loopw [9, 10] (fun iv jv wr => ∃ i j : Nat, iv = .int .i64 i ∧ jv = .int .i64 j ∧ i ≤ B ∧ B ≤ j ∧ j ≤ n ∧ Below w.heap.size w wr) (fun iv jv _ => (intOf jv).toNat - (intOf iv).toNat)
    case atStart => exact ⟨0, n, rfl, rfl, Nat.zero_le _, hB, Nat.le_refl _, Below.refl _ _⟩
    case round =>
      obtain ⟨i, j, rfl, rfl, hi, hj, hjn, hb⟩ := hrel
      by_cases hlt : i < j
      · obtain ⟨k, hk⟩ : ∃ k : Nat, k = (i + j) / 2 := ⟨_, rfl⟩
        have hk1 : ((i : Int) + j) / 2 = (k : Int) := by omega
        have hik : i ≤ k := by omega
        have hkj : k < j := by omega
        clear hk
        obtain ⟨x, hx⟩ := HGet.out k (by omega)
        obtain ⟨d1, d2⟩ := HC.out k x wr hx hb
        have hat := HAt.out k x hx
        have hcl := HCall.out x wr hb
        have hkn : k < n := by omega
        have hk0 : (0 : Int) ≤ k := by omega
        have hkn2 : (k : Int) < n := by omega
        unfold ptr at d1 hcl
        by_cases hxq : x.2 < q
        · have hd : decide (cmpI ((1024 * x.2 : Nat) : Int) ((1024 * q : Nat) : Int) < 0) = true := by rw [cmp_lt]; simpa using hxq
          have hkB := hat.2 hxq
          clear hx hat hxq
          generalize cmpI ((1024 * x.2 : Nat) : Int) ((1024 * q : Nat) : Int) = cv at *
          generalize 1024 * x.2 = xv at *
          generalize 1024 * q = qv at *
          go_wp2_with (go_at_call 176; refine hcl.mono ?_; rintro e w2 ⟨rfl, hb2⟩)
          go_roundw
          case rel => exact ⟨k + 1, j, by go_num, rfl, by omega, hj, hjn, hb2⟩
          case measure => simp [intOf]; omega
        · have hd : decide (cmpI ((1024 * x.2 : Nat) : Int) ((1024 * q : Nat) : Int) < 0) = false := by rw [cmp_lt]; simpa using hxq
          have hkB : ¬ k < B := fun e => hxq (hat.1 e)
          clear hx hat hxq
          generalize cmpI ((1024 * x.2 : Nat) : Int) ((1024 * q : Nat) : Int) = cv at *
          generalize 1024 * x.2 = xv at *
          generalize 1024 * q = qv at *
          go_wp2_with (go_at_call 176; refine hcl.mono ?_; rintro e w2 ⟨rfl, hb2⟩)
          go_roundw
          case rel => exact ⟨i, k, rfl, rfl, hi, by omega, by omega, hb2⟩
          case measure => simp [intOf]; omega
      · obtain rfl : i = B := by omega
        obtain rfl : j = i := by omega
        by_cases hin : j < n
        · obtain ⟨x, hx⟩ := HGet.out j hin
          obtain ⟨d1, d2⟩ := HC.out j x wr hx hb
          have hcl := HCall.out x wr hb
          have hhas := HHas.out x hx
          have heq := cmp_eq x.2 q
          rw [← hhas] at heq
          unfold ptr at d1 hcl
          have hin2 : (j : Int) < n := by omega
          have hj0 : (0 : Int) ≤ j := by omega
          clear hx hhas
          generalize cmpI ((1024 * x.2 : Nat) : Int) ((1024 * q : Nat) : Int) = cv at *
          generalize 1024 * x.2 = xv at *
          generalize 1024 * q = qv at *
          go_wp2_with (go_at_call 176; refine hcl.mono ?_; rintro e w2 ⟨rfl, hb2⟩)
          go_ret2
          exact HF.out _ hb2
        · have hno := HNo.out (by omega)
          subst hno
          have hin2 : ¬ (j : Int) < n := by omega
          have hin3 : decide ((j : Int) < n) = false := by simpa using hin2
          go_wp2_with fail
          go_ret2
          exact HF.out _ hb
/-! find. -/
set_option maxHeartbeats 400000 in
theorem find_any {w : World} {c : CA} (h : Sep w c.hl) (ok : c.Ok) (q : Nat) :
    Calls Tryz.prog 152 #[.pointer (some ⟨c.c, 0, none⟩), .int .i64 ((1024 * q : Nat) : Int)] w (Found c.pg q w) := by
  have k1 := bsearch_any h ok q
  have c2 := (CA.sepC h).cell 2 _ rfl
  have hsh : ∃ a cp, lvOf c.rv c.pg.length = .slice a c.pg.length cp := by
    cases hrv : c.rv with
    | none => have := ok.rv; rw [hrv] at this; exact ⟨none, 0, by show Value.slice none 0 0 = _; rw [show c.pg.length = 0 from this]⟩
    | some p => exact ⟨_, _, rfl⟩
  obtain ⟨a, cp, hv⟩ := hsh
  rw [hv] at k1 c2
  have HQ : Hid (∀ r w', Found c.pg q w r w' → ∃ i b, r = .returned (.tuple #[.int .i64 i, .bool b]) ∧ Found c.pg q w (.returned (.tuple #[.int .i64 i, .bool b])) w') := fun r w' ⟨e, hb⟩ => ⟨_, _, e, rfl, hb⟩
  clear h ok hv
  generalize 1024 * q = x at *
  go_enter Tryz.func152, Tryz.ntmps152
  go_wp2_with fail
  refine k1.mono ?_
  rintro r w1 hf
  obtain ⟨i, b, rfl, hf2⟩ := HQ.out _ _ hf
  have HF2 := hidden hf2
  clear hf2 hf
  go_wp2_with fail
  go_ret2
  exact HF2.out
end Go.Proofs.YtcnbbenmlffgpaaGreatDoor

/- Walks of a cache's spot and Has. Conditions: the blocks hold what CA.hl says. -/
namespace Go.Proofs.YtcnbbenmlffgpaaGreatDoor
open Go.RowKit

theorem below_drewN {w w' : World} {B : Nat} (h : Below B w w') (n : Nat) : Below B w (w'.drewN n) := ⟨h.os, h.tape, h.output, h.size, h.block⟩
theorem bmget_nat {w : World} {m : BM} (h : Sep w m.hl) (i : Nat) (hn : m.bits.length ≤ 1048576) : Calls Tryz.prog 174 #[.pointer (some ⟨m.b, 0, none⟩), .int .i64 i] w fun r w' => r = .returned (.bool (m.bits[i]?.getD false)) ∧ w = w' := by
  by_cases hi : i < m.bits.length
  · exact bmget_in h i hi hn
  · have := bmget_out h i (.inr (by omega))
    rw [List.getElem?_eq_none (by omega)]
    exact this
/-- The page and the place where a used place begins. -/
def spotV (c : CA) (a : Nat) : Option (Nat × Nat) :=
  match c.pg[below_ c.pg (a / 1024)]? with
  | none => none
  | some x => if x.2 = a / 1024 ∧ 64 ≤ a % 1024 ∧ (a % 1024 - 64) % c.size = 0 ∧ x.1.bits[(a % 1024 - 64) / c.size]?.getD false = true then some (below_ c.pg (a / 1024), (a % 1024 - 64) / c.size) else none
def spotT : Option (Nat × Nat) → Value
  | none => .tuple #[.int .i64 0, .int .i64 0, .bool false]
  | some (k, i) => .tuple #[.int .i64 k, .int .i64 i, .bool true]
set_option maxHeartbeats 400000 in
theorem spot_neg {w : World} (c : CA) (a : Int) (ha : a < 0) :
    Calls Tryz.prog 180 #[.pointer (some ⟨c.c, 0, none⟩), .int .i64 a] w fun r w' => r = .returned (spotT none) ∧ w = w' := by
  unfold spotT
  go_enter Tryz.func180, Tryz.ntmps180
  go_wp2
  go_ret3
  exact ⟨rfl, rfl⟩
set_option maxHeartbeats 4000000 in
set_option maxRecDepth 100000 in
theorem spot_no {w : World} (cc s a q k : Nat) (hp : Bool) (FD : Ending → World → Prop) (n : Int) (hs0 : 16 ≤ s) (hs1 : s ≤ 512) (ha : a < 4611686018427387904) (hv1 : (a : Int) / 1024 * 1024 = (q : Int)) (hv2 : (a : Int) % 1024 - 64 = n) (hn : n < 960)
    (k1 : Calls Tryz.prog 152 #[.pointer (some ⟨cc, 0, none⟩), .int .i64 q] w FD) (HQ : Hid (∀ r w', FD r w' → r = .returned (.tuple #[.int .i64 k, .bool hp]) ∧ Below w.heap.size w w'))
    (HC : Hid (∀ w', Below w.heap.size w w' → w'.cell? ⟨cc, 1, none⟩ = some (.int .i64 s)))
    (hno : hp = false ∨ n < 0 ∨ (0 ≤ n ∧ n % s ≠ 0)) :
    Calls Tryz.prog 180 #[.pointer (some ⟨cc, 0, none⟩), .int .i64 a] w (Told w (spotT none)) := by
  have HT : Hid (∀ n w', Below w.heap.size w w' → Told w (spotT none) (.returned (.tuple #[.int .i64 0, .int .i64 0, .bool false])) (w'.drewN n)) := fun n w' hb => ⟨rfl, below_drewN hb n⟩
  by_cases h1 : hp = false
  · subst h1
    clear hno
    go_enter Tryz.func180, Tryz.ntmps180
    go_wp2_with fail
    refine k1.mono ?_
    rintro r w1 hf
    obtain ⟨rfl, hb⟩ := HQ.out _ _ hf
    have c1 := HC.out _ hb
    have HTT := hidden (fun n => HT.out n _ hb)
    clear hf hb
    go_wp2_with fail
    go_quiet (fail)
    go_wp2_with fail
    go_ret3
    exact HTT.out _
  · have h1' : hp = true := by cases hp <;> simp_all
    subst h1'
    by_cases h2 : n < 0
    · have h3 : decide (n < 0) = true := by simpa using h2
      clear hno h1
      go_enter Tryz.func180, Tryz.ntmps180
      go_wp2_with fail
      refine k1.mono ?_
      rintro r w1 hf
      obtain ⟨rfl, hb⟩ := HQ.out _ _ hf
      have c1 := HC.out _ hb
      have HTT := hidden (fun n => HT.out n _ hb)
      clear hf hb
      go_wp2_with fail
      go_quiet (fail)
      go_wp2_with fail
      go_ret3
      exact HTT.out _
    · have h3 : decide (n < 0) = false := by simpa using h2
      have h4 : 0 ≤ n ∧ n % s ≠ 0 := by rcases hno with h | h | h; exact absurd h h1; exact absurd h h2; exact h
      have h5 : (n.tmod (s : Int) != 0) = true := by rw [Int.tmod_eq_emod_of_nonneg h4.1]; simpa using h4.2
      have h6 : (n.tmod (s : Int) == 0) = false := by rw [Int.tmod_eq_emod_of_nonneg h4.1]; simpa using h4.2
      have h7 : ((s : Int) == 0) = false := by simp; omega
      have h8 : (s : Int) ≠ 0 := by omega
      obtain ⟨m, hm⟩ : ∃ m, n.tmod (s : Int) = m := ⟨_, rfl⟩
      rw [hm] at h5 h6
      clear hno h1 h4
      go_enter Tryz.func180, Tryz.ntmps180
      go_wp2_with fail
      refine k1.mono ?_
      rintro r w1 hf
      obtain ⟨rfl, hb⟩ := HQ.out _ _ hf
      have c1 := HC.out _ hb
      have HTT := hidden (fun n => HT.out n _ hb)
      clear hf hb
      go_wp2_with fail
      go_quiet (fail)
      go_wp2_with fail
      go_ret3
      exact HTT.out _
set_option maxHeartbeats 4000000 in
set_option maxRecDepth 100000 in
theorem spot_get {w : World} (cc s a q k rb np cap b : Nat) (FD : Ending → World → Prop) (n i : Nat) (v : Bool) (hs0 : 16 ≤ s) (hs1 : s ≤ 512) (ha : a < 4611686018427387904) (hv1 : (a : Int) / 1024 * 1024 = (q : Int)) (hv2 : (a : Int) % 1024 - 64 = n) (hn : n < 960) (hm : n % s = 0) (hi : n / s = i) (hk : k < np) (hnp : np ≤ 1048576)
    (k1 : Calls Tryz.prog 152 #[.pointer (some ⟨cc, 0, none⟩), .int .i64 q] w FD) (HQ : Hid (∀ r w', FD r w' → r = .returned (.tuple #[.int .i64 k, .bool true]) ∧ Below w.heap.size w w'))
    (HC : Hid (∀ w', Below w.heap.size w w' → w'.cell? ⟨cc, 1, none⟩ = some (.int .i64 s) ∧ w'.cell? ⟨cc, 2, none⟩ = some (.slice (some ⟨rb, 0, none⟩) np cap) ∧ w'.cell? ⟨rb, k * 2, none⟩ = some (.pointer (some ⟨b, 0, none⟩)) ∧
      ∀ n, Calls Tryz.prog 174 #[.pointer (some ⟨b, 0, none⟩), .int .i64 i] (w'.drewN n) fun r w'' => r = .returned (.bool v) ∧ ∃ m, w'' = w'.drewN m)) :
    Calls Tryz.prog 180 #[.pointer (some ⟨cc, 0, none⟩), .int .i64 a] w (Told w (spotT (if v then some (k, i) else none))) := by
  have hd1 : (n : Int).tmod (s : Int) = 0 := by rw [Int.tmod_eq_emod_of_nonneg (by omega)]; omega
  have hd2 : (n : Int).tdiv (s : Int) = (i : Int) := by rw [Int.tdiv_eq_ediv_of_nonneg (by omega), ← hi]; exact (Int.natCast_ediv n s).symm
  have h7 : ((s : Int) == 0) = false := by simp; omega
  have h8 : (s : Int) ≠ 0 := by omega
  have hk0 : (0 : Int) ≤ k := by omega
  have hk1 : (k : Int) < np := by omega
  have h3 : decide ((n : Int) < 0) = false := by simp
  have h9 : (i : Int) < 1024 := by have := Nat.div_le_self n s; omega
  have h10 : (0 : Int) ≤ i := by omega
  clear hm hi hn
  obtain ⟨z, hz⟩ : ∃ z : Int, z = n := ⟨_, rfl⟩
  rw [← hz] at hd1 hd2 h3 hv2
  clear hz
  cases v with
  | false =>
    have HT : Hid (∀ n w', Below w.heap.size w w' → Told w (spotT (if false = true then some (k, i) else none)) (.returned (.tuple #[.int .i64 0, .int .i64 0, .bool false])) (w'.drewN n)) := fun n w' hb => ⟨rfl, below_drewN hb n⟩
    go_enter Tryz.func180, Tryz.ntmps180
    go_wp2_with fail
    refine k1.mono ?_
    rintro r w1 hf
    obtain ⟨rfl, hb⟩ := HQ.out _ _ hf
    obtain ⟨c1, c2, c3, hget⟩ := HC.out _ hb
    have HTT := hidden (fun n => HT.out n _ hb)
    have HG := hidden hget
    clear hf hb hget
    go_wp2_with fail
    go_quiet ((go_at_call 174; exact HG.out _))
    go_wp2_with fail
    go_ret3
    exact HTT.out _
  | true =>
    have HT : Hid (∀ n w', Below w.heap.size w w' → Told w (spotT (if true = true then some (k, i) else none)) (.returned (.tuple #[.int .i64 k, .int .i64 i, .bool true])) (w'.drewN n)) := fun n w' hb => ⟨rfl, below_drewN hb n⟩
    go_enter Tryz.func180, Tryz.ntmps180
    go_wp2_with fail
    refine k1.mono ?_
    rintro r w1 hf
    obtain ⟨rfl, hb⟩ := HQ.out _ _ hf
    obtain ⟨c1, c2, c3, hget⟩ := HC.out _ hb
    have HTT := hidden (fun n => HT.out n _ hb)
    have HG := hidden hget
    clear hf hb hget
    go_wp2_with fail
    go_quiet ((go_at_call 174; exact HG.out _))
    go_wp2_with fail
    go_quiet (fail)
    go_wp2_with fail
    go_ret3
    exact HTT.out _
/-! Joined. -/
theorem spot_any {w : World} {c : CA} (h : Sep w c.hl) (ok : c.Ok) (a : Nat) (ha : a < 4611686018427387904) :
    Calls Tryz.prog 180 #[.pointer (some ⟨c.c, 0, none⟩), .int .i64 a] w (Told w (spotT (spotV c a))) := by
  have k1 := find_any h ok (a / 1024)
  have s0 := ok.s0
  have s1 := ok.s1
  have hln := ok.len
  have hv1 : (a : Int) / 1024 * 1024 = ((1024 * (a / 1024) : Nat) : Int) := by omega
  have hcl : c.c < w.heap.size := h.lt (by simp [CA.hl])
  have hC1 := (CA.sepC h).cell 1 _ rfl
  have hC2 := (CA.sepC h).cell 2 _ rfl
  have HC1 : Hid (∀ w', Below w.heap.size w w' → w'.cell? ⟨c.c, 1, none⟩ = some (.int .i64 c.size)) := fun w' hb => (hb.cell (p := ⟨c.c, 1, none⟩) hcl).trans hC1
  have HQ : Hid (∀ r w', Found c.pg (a / 1024) w r w' → r = .returned (.tuple #[.int .i64 (below_ c.pg (a / 1024)), .bool (hasPg c.pg (a / 1024))]) ∧ Below w.heap.size w w') := fun r w' hf => hf
  have no : ∀ hp, hasPg c.pg (a / 1024) = hp → (hp = false ∨ (a : Int) % 1024 - 64 < 0 ∨ (0 ≤ (a : Int) % 1024 - 64 ∧ ((a : Int) % 1024 - 64) % (c.size : Int) ≠ 0)) → Calls Tryz.prog 180 #[.pointer (some ⟨c.c, 0, none⟩), .int .i64 a] w (Told w (spotT none)) := fun hp _ hno =>
    spot_no c.c c.size a (1024 * (a / 1024)) (below_ c.pg (a / 1024)) (hasPg c.pg (a / 1024)) _ _ s0 s1 ha hv1 rfl (by omega) k1 HQ HC1 (by subst hp; exact hno)
  unfold spotV
  cases hx : c.pg[below_ c.pg (a / 1024)]? with
  | none => exact no false (by unfold hasPg; rw [hx]) (.inl rfl)
  | some x =>
    have hh : hasPg c.pg (a / 1024) = decide (x.2 = a / 1024) := by unfold hasPg; rw [hx]
    by_cases h1 : x.2 = a / 1024
    · have ht : hasPg c.pg (a / 1024) = true := by rw [hh]; simpa using h1
      by_cases h2 : 64 ≤ a % 1024
      · have hz : (a : Int) % 1024 - 64 = ((a % 1024 - 64 : Nat) : Int) := by omega
        by_cases h3 : (a % 1024 - 64) % c.size = 0
        · have hk := (List.getElem?_eq_some_iff.1 hx).1
          obtain ⟨rb, cap, hrv⟩ : ∃ rb cap, c.rv = some (rb, cap) := by
            cases e : c.rv with
            | none => have := ok.rv; rw [e] at this; have : c.pg.length = 0 := this; omega
            | some p => exact ⟨p.1, p.2, rfl⟩
          have hsr := CA.sepR h
          rw [hrv] at hsr
          have hrb : rb < w.heap.size := hsr.lt (by simp [rowH])
          have hsb := CA.sepB h _ x hx
          have hml := ok.many x (List.mem_of_getElem? hx)
          have hmn : x.1.bits.length ≤ 1048576 := by rw [hml]; have := Nat.div_le_self 960 c.size; omega
          obtain ⟨e1, _⟩ := pcells_get _ _ _ hx
          have := spot_get c.c c.size a (1024 * (a / 1024)) (below_ c.pg (a / 1024)) rb c.pg.length cap x.1.b _ (a % 1024 - 64) ((a % 1024 - 64) / c.size) (x.1.bits[(a % 1024 - 64) / c.size]?.getD false) s0 s1 ha hv1 hz (by omega) h3 rfl hk hln k1 (fun r w' hf => by rw [← ht]; exact hf) (fun w' hb => ⟨HC1 w' hb, by
            have := (hb.cell (p := ⟨c.c, 2, none⟩) hcl).trans hC2
            rw [hrv] at this
            exact this, (hb.cell (p := ⟨rb, _, none⟩) hrb).trans (row_cell hsr _ _ e1), fun n => (bmget_nat ((hsb.grown hb).sep.drewN n) _ hmn).mono fun r w'' ⟨e, e2⟩ => ⟨e, n, e2.symm⟩⟩)
          refine this.mono fun r w' hr => ?_
          simp only [h1, h2, h3, true_and]
          exact hr
        · have := no true ht (.inr (.inr ⟨by omega, by rw [hz]; intro e; exact h3 (by exact_mod_cast e)⟩))
          simpa [h3] using this
      · have := no true ht (.inr (.inl (by omega)))
        simpa [h2] using this
    · have := no false (by rw [hh]; simpa using h1) (.inl rfl)
      simpa [h1] using this
set_option maxHeartbeats 1000000 in
theorem has_any {w : World} {c : CA} (h : Sep w c.hl) (ok : c.Ok) (a : Nat) (ha : a < 4611686018427387904) :
    Calls Tryz.prog 179 #[.pointer (some ⟨c.c, 0, none⟩), .int .i64 a] w (Told w (.bool (spotV c a).isSome)) := by
  have k1 := spot_any h ok a ha
  clear h ok
  generalize spotV c a = o at *
  generalize c.c = cc at *
  have HQ : Hid (∀ r w', Told w (spotT o) r w' → ∃ i j : Int, r = .returned (.tuple #[.int .i64 i, .int .i64 j, .bool o.isSome]) ∧ Told w (.bool o.isSome) (.returned (.bool o.isSome)) w') := fun r w' ⟨e, hb⟩ => by
    cases o with
    | none => exact ⟨0, 0, e, rfl, hb⟩
    | some p => exact ⟨p.1, p.2, e, rfl, hb⟩
  generalize o.isSome = v at *
  go_enter Tryz.func179, Tryz.ntmps179
  go_wp2_with fail
  refine k1.mono ?_
  rintro r w1 hf
  obtain ⟨i, j, rfl, hf2⟩ := HQ.out _ _ hf
  have HF2 := hidden hf2
  clear hf2 hf
  go_wp2_with fail
  go_ret
  exact HF2.out
end Go.Proofs.YtcnbbenmlffgpaaGreatDoor

/- copy at elements of several cells; laws of no program. -/
namespace Go.Proofs.YtcnbbenmlffgpaaGreatDoor
open Go.RowKit

theorem run_copy_k {P : Program} (w : World) (dT sT ty elem : TypeId) (size g o dLen dCap : Nat) (a : Addr) (sLen sCap m : Nat) (cur : Array Value) (t : TypeId) (cs : List Value)
    (hu : P.underlying dT = some (.slice elem)) (hs : (P.info? elem).map (·.size) = some size)
    (hg : w.heap[g]? = some (.cells cur t (0, 0))) (hm : Nat.min sLen dLen = m) (hn : cs.length = m * size)
    (hsrc : ∀ j v, cs[j]? = some v → w.cell? (a.add j) = some v) (hfit : o + cs.length ≤ cur.size) (h1 : ∀ v ∈ cs, v.oneCell' = true) :
    (Builtin.copy_ #[dT, sT] ty #[.slice (some ⟨g, o, none⟩) dLen dCap, .slice (some a) sLen sCap]).run P w =
      .ok (.int .i64 m) (w.setRow g (cur.toList.take o ++ cs ++ cur.toList.drop (o + cs.length)).toArray) := by
  have hl := run_loadCells_list (P := P) w a cs hsrc
  have hst := run_storeCells_at P g o t cs 0 cur w hg (by simpa using hfit) h1
  rw [hn] at hl
  cases hq : P.info? elem with
  | none => simp [hq] at hs
  | some i =>
    have hi : i.size = size := by simpa [hq] using hs
    simp [Builtin.copy_, run_underlying hu, Builtin.lenOf, Builtin.firstCells, sizeOf, typeInfo, hq, hi, hm, hl, hst, goInt]
/-- What an insert in place leaves: the tail moved, then the news laid. -/
theorem ins_cells (cur : List Value) (xs news : List Value) (p : Nat) (hx : cur.take xs.length = xs) (hp : p ≤ xs.length) (hl : xs.length + news.length ≤ cur.length) :
    let c1 := cur.take (p + news.length) ++ xs.drop p ++ cur.drop (p + news.length + (xs.drop p).length)
    let c2 := c1.take p ++ news ++ c1.drop (p + news.length)
    c1.length = cur.length ∧ c2.length = cur.length ∧ c2.take (xs.length + news.length) = xs.take p ++ news ++ xs.drop p := by
  have e0 : (xs.drop p).length = xs.length - p := List.length_drop
  have e1 : (cur.take (p + news.length) ++ xs.drop p ++ cur.drop (p + news.length + (xs.drop p).length)).length = cur.length := by
    simp only [List.length_append, List.length_take, List.length_drop]; omega
  refine ⟨e1, ?_, ?_⟩
  · simp only [List.length_append, List.length_take, List.length_drop]; omega
  · have ht : (cur.take (p + news.length) ++ xs.drop p ++ cur.drop (p + news.length + (xs.drop p).length)).take p = xs.take p := by
      rw [List.append_assoc, List.take_append_of_le_length (by simp; omega), List.take_take, show min p (p + news.length) = p by omega]
      rw [← hx, List.take_take, show min p xs.length = p by omega]
    have hd : (cur.take (p + news.length) ++ xs.drop p ++ cur.drop (p + news.length + (xs.drop p).length)).drop (p + news.length) = xs.drop p ++ cur.drop (p + news.length + (xs.drop p).length) := by
      rw [List.append_assoc, List.drop_append_of_le_length (by simp; omega), List.drop_eq_nil_of_le (by simp; omega), List.nil_append]
    show List.take (xs.length + news.length) _ = _
    rw [ht, hd, ← List.append_assoc]
    have e2 : (xs.take p ++ news ++ xs.drop p).length = xs.length + news.length := by simp; omega
    rw [← e2, List.take_left]
end Go.Proofs.YtcnbbenmlffgpaaGreatDoor

/- Walks of slices.Insert at a row of pages, one new element: at the end, in place, and in a new row. Conditions: the slice has no more than 1048576 elements. -/
namespace Go.Proofs.YtcnbbenmlffgpaaGreatDoor
open Go.RowKit

/-- Behind an insert: who has the row, and what turned. -/
def InsP (T : TypeId) (n : Nat) (blk : Option Nat) (ys : List Value) (w : World) (r : Ending) (w' : World) : Prop :=
  ∃ v', r = .returned v' ∧ w'.ownsRow 0 T 2 v' (n + 1) ys ∧ w.grownBy w' blk ∧ (v'.ownBlock = blk ∨ v'.ownBlock = some w.heap.size)
theorem Tryz.infopage : (Tryz.prog.info? 231).map (fun i => (i.zero, i.size, i.bytes)) = some (some (.agg #[.pointer none, .int .i64 0]), 2, 16) := by kernel_rfl
set_option maxHeartbeats 1000000 in
set_option maxRecDepth 100000 in
theorem ins_end {w : World} {rv : RV} {n vb : Nat} {xs : List Value} {v0 v1 : Value} (hown : w.ownsRow 0 231 2 (lvOf rv n) n xs) (hok : rvOk rv n) (hn : n ≤ 1048576) (b0 : w.cell? ⟨vb, 0, none⟩ = some v0) (b1 : w.cell? ⟨vb, 1, none⟩ = some v1) (o0 : v0.oneCell' = true) (o1 : v1.oneCell' = true) :
    Calls Tryz.prog 153 #[lvOf rv n, .int .i64 n, .slice (some ⟨vb, 0, none⟩) 1 1] w (InsP 231 n (lvOf rv n).ownBlock (xs ++ [v0, v1]) w) := by
  obtain ⟨i0, hi, hz0, hz1, hz2⟩ := info_parts Tryz.infopage
  have hnews : ∀ j u, [v0, v1][j]? = some u → w.cell? ((⟨vb, 0, none⟩ : Addr).add j) = some u := by
    intro j u hj
    match j, hj with
    | 0, hj => cases hj; exact b0
    | 1, hj => cases hj; exact b1
  obtain ⟨v', w', hr, q1, q2, q3, q4⟩ := run_append_own_at (P := Tryz.prog) w 0 227 227 231 i0 (.agg #[.pointer none, .int .i64 0]) 2 16 Tryz.underlying227 hi hz0 hz1 hz2 rfl (by decide) (lvOf rv n) n xs hown ⟨vb, 0, none⟩ 1 1 [v0, v1] rfl hnews (by simp [o0, o1]) (by unfold maxLen; omega) (by omega) (Nat.zero_le _)
  have HR : Hid (InsP 231 n (lvOf rv n).ownBlock (xs ++ [v0, v1]) w (.returned v') w') := ⟨v', rfl, q1, q2, q4⟩
  clear hi hz0 hz1 hz2 hown q1 q2 q3 q4 hnews
  cases rv with
  | none =>
    have h0 : n = 0 := hok
    subst h0
    unfold lvOf at *
    go_enter Tryz.func153, Tryz.ntmps153
    go_wp2_with (at_builtin; refine Lib.wpList_append_run _ rfl _ _ _ _ rfl _ _ rfl rfl _ _ hr ?_)
    go_ret
    exact HR.out
  | some p =>
    obtain ⟨g, cap⟩ := p
    have hnc : n ≤ cap := hok.1
    have hcm : cap ≤ 9223372036854775807 := by have := hok.2; unfold maxLen at this; omega
    clear hok
    unfold lvOf at *
    go_enter Tryz.func153, Tryz.ntmps153
    go_wp2_with (at_builtin; refine Lib.wpList_append_run _ rfl _ _ _ _ rfl _ _ rfl rfl _ _ hr ?_)
    all_goals (go_ret; exact HR.out)
theorem setRow_drew (w : World) (g : Nat) (c : Array Value) : (w.drew).setRow g c = (w.setRow g c).drew := rfl
set_option maxHeartbeats 4000000 in
set_option maxRecDepth 100000 in
theorem ins_shift {w : World} {g cap n i vb : Nat} {xs : List Value} {cur : Array Value} {v0 v1 : Value} (hg : w.heap[g]? = some (.cells cur 231 (0, 0))) (hcs : cur.size = cap * 2) (htk : cur.toList.take xs.length = xs) (hx : xs.length = n * 2) (hi : i < n) (hn : n ≤ 1048576) (hc : n + 1 ≤ cap) (hcm : cap ≤ maxLen)
    (hv : Cells w vb 231 [v0, v1]) (hvb : vb ≠ g) (ox : ∀ v ∈ xs, v.oneCell' = true) (o0 : v0.oneCell' = true) (o1 : v1.oneCell' = true) :
    Calls Tryz.prog 153 #[.slice (some ⟨g, 0, none⟩) n cap, .int .i64 i, .slice (some ⟨vb, 0, none⟩) 1 1] w (InsP 231 n (some g) (xs.take (i * 2) ++ [v0, v1] ++ xs.drop (i * 2)) w) := by
  have hsz : (Tryz.prog.info? 231).map (·.size) = some 2 := by
    obtain ⟨i0, hi, hz0, hz1, hz2⟩ := info_parts Tryz.infopage
    rw [hi]; simp [hz1]
  have hcl : cur.toList.length = cap * 2 := by simpa using hcs
  have hov : ∀ lb cb, (callFunc 177 #[.slice (some ⟨vb, 0, none⟩) 1 1, .slice (some ⟨g, (i + 1) * 2, none⟩) lb cb]).run Tryz.prog w = .ok (.value (.bool false)) w := fun lb cb => by
    rw [run_callFunc_extern Tryz.func177 (by kernel_rfl) (by kernel_rfl) (by kernel_rfl) (e := Extern.SlicesOverlaps.overlaps #[227, 227] #[4]) (by kernel_rfl),
      Lib.run_overlaps_apart w 227 4 231 Tryz.underlying227 2 Tryz.sizeOf231 ⟨vb, 0, none⟩ ⟨g, (i + 1) * 2, none⟩ 1 1 lb cb hvb 231 231 2 cur.size (by simp [World.shape?, show w.heap[vb]? = _ from hv]) (by simp [World.shape?, hg]) (by omega) (hv.free 0) (hv.free 2)]
    rfl
  have hdl : (xs.drop (i * 2)).length = (n - i) * 2 := by rw [List.length_drop, hx]; omega
  have hic := ins_cells cur.toList xs [v0, v1] (i * 2) htk (by omega) (by simp only [List.length_cons, List.length_nil]; omega)
  simp only [List.length_cons, List.length_nil, Nat.reduceAdd] at hic
  obtain ⟨e1, e2, e3⟩ := hic
  obtain ⟨c1, hc1⟩ : ∃ c1 : List Value, c1 = cur.toList.take (i * 2 + 2) ++ xs.drop (i * 2) ++ cur.toList.drop (i * 2 + 2 + (xs.drop (i * 2)).length) := ⟨_, rfl⟩
  rw [← hc1] at e1 e2 e3
  obtain ⟨c2, hc2⟩ : ∃ c2 : List Value, c2 = c1.take (i * 2) ++ [v0, v1] ++ c1.drop (i * 2 + 2) := ⟨_, rfl⟩
  rw [← hc2] at e2 e3
  have hrow : ∀ j v, xs[j]? = some v → w.drew.cell? ⟨g, j, none⟩ = some v := fun j v hj => by
    have : cur.toList[j]? = some v := by
      rw [← htk] at hj
      rw [List.getElem?_take] at hj
      split at hj
      · exact hj
      · cases hj
    rw [Array.getElem?_toList] at this
    show w.cell? _ = _
    simp [World.cell?, hg, this]
  have hcp1 : ∀ ty dc sc, (Builtin.copy_ #[227, 227] ty #[.slice (some ⟨g, (i + 1) * 2, none⟩) (n - i) dc, .slice (some ⟨g, i * 2, none⟩) (n + 1 - i) sc]).run Tryz.prog w.drew = .ok (.int .i64 ((n - i : Nat) : Int)) (w.drew.setRow g c1.toArray) := fun ty dc sc => by
    have := run_copy_k (P := Tryz.prog) w.drew 227 227 ty 231 2 g ((i + 1) * 2) (n - i) dc ⟨g, i * 2, none⟩ (n + 1 - i) sc (n - i) cur 231 (xs.drop (i * 2)) Tryz.underlying227 hsz hg (by simp only [Nat.min_def]; split <;> omega) hdl
      (fun j v hj => by rw [Addr.add_lit]; exact hrow _ v (by rwa [List.getElem?_drop] at hj)) (by rw [hdl, hcs]; omega) (fun v hv => ox v (List.mem_of_mem_drop hv))
    rw [show (i + 1) * 2 = i * 2 + 2 by omega] at this ⊢
    rw [this, hc1]
  have hg1 : (w.drew.setRow g c1.toArray).heap[g]? = some (.cells c1.toArray 231 (0, 0)) := setRow_heap w.drew g cur _ _ _ hg
  have hcp2 : ∀ ty dc, (Builtin.copy_ #[227, 227] ty #[.slice (some ⟨g, i * 2, none⟩) (n + 1 - i) dc, .slice (some ⟨vb, 0, none⟩) 1 1]).run Tryz.prog (w.drew.setRow g c1.toArray) = .ok (.int .i64 1) ((w.drew.setRow g c1.toArray).setRow g c2.toArray) := fun ty dc => by
    have := run_copy_k (P := Tryz.prog) (w.drew.setRow g c1.toArray) 227 227 ty 231 2 g (i * 2) (n + 1 - i) dc ⟨vb, 0, none⟩ 1 1 1 c1.toArray 231 [v0, v1] Tryz.underlying227 hsz hg1 (by simp only [Nat.min_def]; split <;> omega) rfl
      (fun j v hj => by
        rw [Addr.add_lit, Nat.zero_add]
        have hb : (w.drew.setRow g c1.toArray).heap[vb]? = w.heap[vb]? := setRow_other w.drew g vb _ hvb
        have : (w.drew.setRow g c1.toArray).cell? ⟨vb, j, none⟩ = w.cell? ⟨vb, j, none⟩ := by simp [World.cell?, hb]
        rw [this]
        exact hv.cell j v hj) (by simp only [List.length_cons, List.length_nil, List.size_toArray]; omega) (by simp [o0, o1])
    rw [this, hc2]
    rfl
  have HR : Hid (InsP 231 n (some g) (xs.take (i * 2) ++ [v0, v1] ++ xs.drop (i * 2)) w (.returned (.slice (some ⟨g, 0, none⟩) (n + 1) cap)) ((w.drew.setRow g c1.toArray).setRow g c2.toArray)) := by
    have hg2 : ((w.drew.setRow g c1.toArray).setRow g c2.toArray).heap[g]? = some (.cells c2.toArray 231 (0, 0)) := setRow_heap _ g c1.toArray _ _ _ hg1
    refine ⟨_, rfl, ⟨by simp only [List.length_append, List.length_take, List.length_cons, List.length_nil]; omega, .inr ⟨g, cap, c2.toArray, rfl, Nat.zero_le _, hg2, hc, hcm, by simp only [List.size_toArray]; omega, ?_⟩⟩, ⟨rfl, rfl, rfl, by simp, fun k _ hk => ?_⟩, .inl rfl⟩
    · rw [← e3]
      congr 1
      simp only [hx, List.length_append, List.length_take, List.length_cons, List.length_nil]
      first | omega | simp
    · have hkg : k ≠ g := fun e => hk (by rw [e])
      rw [setRow_other _ g k _ hkg, setRow_other _ g k _ hkg]
      rfl
  clear hrow hg hcs htk hg1 e1 e2 e3 hcl ox hdl hx hc1 hc2 hv
  generalize xs.take (i * 2) ++ [v0, v1] ++ xs.drop (i * 2) = ys at *
  generalize c1.toArray = a1 at *
  generalize c2.toArray = a2 at *
  have hcm2 : cap ≤ 9223372036854775807 := by unfold maxLen at hcm; omega
  have hz2 : ¬ ((i : Int) = (n : Int)) := by omega
  have hw1 : IntKind.i64.wrap ((i : Int) + 1) = (i : Int) + 1 := Go.IntWalk.i64_in _ (by omega)
  have hw2 : IntKind.i64.wrap ((n : Int) + 1) = (n : Int) + 1 := Go.IntWalk.i64_in _ (by omega)
  have htn : ((i : Int) + 1).toNat = i + 1 := by omega
  have hb1 : (0 : Int) ≤ (i : Int) + 1 := by omega
  have hin : i ≤ n := by omega
  have hb3 : (i : Int) ≤ (n : Int) + 1 := by omega
  have hb2 : ¬ (cap = i + 1) := by omega
  have hb4 : ¬ (cap = i) := by omega
  have mixed : Tryz.prog.follows .mixedOrders = true := by kernel_rfl
  go_enter Tryz.func153, Tryz.ntmps153
  go_wp2_with (simp only [hov])
  go_region_law_o (refine step_copy_runI rfl _ _ 227 227 rfl _ _ (by simp [Act.eval, Act.put]) (by simp [Act.eval, Act.put]) (hcp1 _ _ _) ?_)
  go_wp2_with (at_builtin; refine wpList_copy_runI _ rfl _ _ 227 227 rfl _ _ rfl rfl (hcp2 _ _) ?_)
  go_ret
  exact HR.out
/-- What an insert into a new row leaves. -/
theorem grow_cells (row : List Value) (xs news : List Value) (p : Nat) (hp : p ≤ xs.length) (hr : row.take p = xs.take p) (hl : xs.length + news.length ≤ row.length) :
    let c1 := row.take p ++ news ++ row.drop (p + news.length)
    let c2 := c1.take (p + news.length) ++ xs.drop p ++ c1.drop (p + news.length + (xs.drop p).length)
    c1.length = row.length ∧ c2.length = row.length ∧ c2.take (xs.length + news.length) = xs.take p ++ news ++ xs.drop p := by
  have e0 : (xs.drop p).length = xs.length - p := List.length_drop
  have e1 : (row.take p ++ news ++ row.drop (p + news.length)).length = row.length := by
    simp only [List.length_append, List.length_take, List.length_drop]; omega
  refine ⟨e1, ?_, ?_⟩
  · simp only [List.length_append, List.length_take, List.length_drop]; omega
  · have ht : (row.take p ++ news ++ row.drop (p + news.length)).take (p + news.length) = xs.take p ++ news := by
      have : (row.take p ++ news).length = p + news.length := by simp; omega
      rw [← this, List.take_left, hr]
    show List.take (xs.length + news.length) _ = _
    rw [ht]
    have e2 : (xs.take p ++ news ++ xs.drop p).length = xs.length + news.length := by simp; omega
    rw [← e2, List.take_left]
set_option maxHeartbeats 4000000 in
set_option maxRecDepth 100000 in
theorem ins_grow {w : World} {g n i vb : Nat} {xs : List Value} {cur : Array Value} {v0 v1 : Value} (hg : w.heap[g]? = some (.cells cur 231 (0, 0))) (htk : cur.toList.take xs.length = xs) (hx : xs.length = n * 2) (hi : i < n) (hn : n ≤ 1048576)
    (hv : Cells w vb 231 [v0, v1]) (ox : ∀ v ∈ xs, v.oneCell' = true) (o0 : v0.oneCell' = true) (o1 : v1.oneCell' = true) :
    Calls Tryz.prog 153 #[.slice (some ⟨g, 0, none⟩) n n, .int .i64 i, .slice (some ⟨vb, 0, none⟩) 1 1] w (InsP 231 n (some g) (xs.take (i * 2) ++ [v0, v1] ++ xs.drop (i * 2)) w) := by
  obtain ⟨i0, hi0, hz0, hz1, hzb⟩ := info_parts Tryz.infopage
  have hsz : (Tryz.prog.info? 231).map (·.size) = some 2 := by rw [hi0]; simp [hz1]
  have hgw : g < w.heap.size := lt_of_block hg
  have hvw : vb < w.heap.size := lt_of_block hv
  have hrow : ∀ j v, xs[j]? = some v → w.cell? ⟨g, j, none⟩ = some v := fun j v hj => by
    have : cur.toList[j]? = some v := by
      rw [← htk] at hj
      rw [List.getElem?_take] at hj
      split at hj
      · exact hj
      · cases hj
    rw [Array.getElem?_toList] at this
    simp [World.cell?, hg, this]
  have hold : (Builtin.firstCells i0.size i (.slice (some ⟨g, 0, none⟩) i n)).run Tryz.prog w.drew = .ok (xs.take (i * 2)).toArray w.drew := by
    rw [hz1]
    exact run_firstCells_some w.drew 2 i ⟨g, 0, none⟩ i n (xs.take (i * 2)) (by rw [List.length_take]; omega) (fun j v hj => by
      rw [Addr.add_lit, Nat.zero_add]
      rw [List.getElem?_take] at hj
      split at hj
      · exact hrow j v hj
      · cases hj)
  have hkk : (n : Int) + 1 - (i : Int) = ((n + 1 - i : Nat) : Int) := by omega
  have hik : i + (n + 1 - i) = n + 1 := by omega
  obtain ⟨G, hG⟩ : ∃ G, G = grownCap w (n + 1) n 231 := ⟨_, rfl⟩
  have hGn : n + 1 ≤ G := by rw [hG]; exact grownCap_ge w _ _ _
  have hGm : G ≤ maxLen := by rw [hG]; exact grownCap_le_maxLen w (n + 1) n _ (by unfold maxLen; omega)
  obtain ⟨ROW, hROW⟩ : ∃ ROW : Array Value, ROW = (xs.take (i * 2)).toArray ++ Builtin.zeroCells (Value.agg #[.pointer none, .int .i64 0]).cells (n + 1 - i) ++ Builtin.zeroCells (Value.agg #[.pointer none, .int .i64 0]).cells (G - (n + 1)) := ⟨_, rfl⟩
  have hrz : ∀ ty, (Builtin.append_ #[227, 3] ty #[.slice (some ⟨g, 0, none⟩) i n, .int .i64 ((n : Int) + 1 - (i : Int))]).run Tryz.prog w =
      .ok (.slice (some ⟨w.heap.size, 0, none⟩) (n + 1) G) (w.drew.alloc (.cells ROW 231)) := fun ty => by
    have h := Lib.run_append_grow_zeros w 227 3 ty 231 i0 _ .i64 .i64 Tryz.underlying227 Tryz.underlying3 hi0 hz0 (some ⟨g, 0, none⟩) i n (xs.take (i * 2)) hold (n + 1 - i) (by omega) (by omega) (by omega) (by omega) (by rw [hzb]; omega) (by rw [hzb, hik]; exact growslice_fits (by omega) (by omega))
    rw [hik] at h
    rw [hkk, hROW, hG]
    exact h
  have hRs : ROW.size = G * 2 := by
    rw [hROW]
    simp only [Array.size_append, size_zeroCells, List.size_toArray, List.length_take, show (Value.agg #[.pointer none, .int .i64 0]).cells.size = 2 from rfl]
    omega
  have hRt : ROW.toList.take (i * 2) = xs.take (i * 2) := by
    rw [hROW]
    simp only [Array.toList_append, List.append_assoc]
    rw [List.take_append_of_le_length (by simp; omega)]
    simp [List.take_take]
  have hRl : ROW.toList.length = G * 2 := by simpa using hRs
  have hic := grow_cells ROW.toList xs [v0, v1] (i * 2) (by omega) hRt (by simp only [List.length_cons, List.length_nil]; omega)
  simp only [List.length_cons, List.length_nil, Nat.reduceAdd] at hic
  obtain ⟨e1, e2, e3⟩ := hic
  obtain ⟨c1, hc1⟩ : ∃ c1 : List Value, c1 = ROW.toList.take (i * 2) ++ [v0, v1] ++ ROW.toList.drop (i * 2 + 2) := ⟨_, rfl⟩
  rw [← hc1] at e1 e2 e3
  obtain ⟨c2, hc2⟩ : ∃ c2 : List Value, c2 = c1.take (i * 2 + 2) ++ xs.drop (i * 2) ++ c1.drop (i * 2 + 2 + (xs.drop (i * 2)).length) := ⟨_, rfl⟩
  rw [← hc2] at e2 e3
  have hdl : (xs.drop (i * 2)).length = (n - i) * 2 := by rw [List.length_drop, hx]; omega
  have hN : ∀ W : World, W.heap = (w.alloc (.cells ROW 231)).heap → W.heap[w.heap.size]? = some (.cells ROW 231 (0, 0)) ∧ (∀ k, k < w.heap.size → W.heap[k]? = w.heap[k]?) := fun W hW => by
    rw [hW]
    exact ⟨heap_alloc_new w _, fun k hk => heap_alloc_old w _ hk⟩
  have hcpA : ∀ W : World, W.heap = (w.alloc (.cells ROW 231)).heap → ∀ ty dc, (Builtin.copy_ #[227, 227] ty #[.slice (some ⟨w.heap.size, i * 2, none⟩) (n + 1 - i) dc, .slice (some ⟨vb, 0, none⟩) 1 1]).run Tryz.prog W = .ok (.int .i64 1) (W.setRow w.heap.size c1.toArray) := fun W hW ty dc => by
    obtain ⟨n1, n2⟩ := hN W hW
    have := run_copy_k (P := Tryz.prog) W 227 227 ty 231 2 w.heap.size (i * 2) (n + 1 - i) dc ⟨vb, 0, none⟩ 1 1 1 ROW 231 [v0, v1] Tryz.underlying227 hsz n1 (by simp only [Nat.min_def]; split <;> omega) rfl
      (fun j v hj => by
        rw [Addr.add_lit, Nat.zero_add]
        have : W.cell? ⟨vb, j, none⟩ = w.cell? ⟨vb, j, none⟩ := by simp [World.cell?, n2 vb hvw]
        rw [this]
        exact hv.cell j v hj) (by simp only [List.length_cons, List.length_nil]; omega) (by simp [o0, o1])
    rw [this, hc1]
    rfl
  have hN2 : ∀ W : World, W.heap = ((w.alloc (.cells ROW 231)).setRow w.heap.size c1.toArray).heap → W.heap[w.heap.size]? = some (.cells c1.toArray 231 (0, 0)) ∧ (∀ k, k < w.heap.size → W.heap[k]? = w.heap[k]?) := fun W hW => by
    obtain ⟨n1, n2⟩ := hN _ rfl
    rw [hW]
    exact ⟨setRow_heap _ w.heap.size ROW _ _ _ n1, fun k hk => (setRow_other _ _ k _ (by omega)).trans (n2 k hk)⟩
  have hcpB : ∀ W : World, W.heap = ((w.alloc (.cells ROW 231)).setRow w.heap.size c1.toArray).heap → ∀ ty dc sc, (Builtin.copy_ #[227, 227] ty #[.slice (some ⟨w.heap.size, (i + 1) * 2, none⟩) (n - i) dc, .slice (some ⟨g, i * 2, none⟩) (n - i) sc]).run Tryz.prog W = .ok (.int .i64 ((n - i : Nat) : Int)) (W.setRow w.heap.size c2.toArray) := fun W hW ty dc sc => by
    obtain ⟨n1, n2⟩ := hN2 W hW
    have := run_copy_k (P := Tryz.prog) W 227 227 ty 231 2 w.heap.size ((i + 1) * 2) (n - i) dc ⟨g, i * 2, none⟩ (n - i) sc (n - i) c1.toArray 231 (xs.drop (i * 2)) Tryz.underlying227 hsz n1 (by simp only [Nat.min_def]; split <;> omega) hdl
      (fun j v hj => by
        rw [Addr.add_lit]
        have : W.cell? ⟨g, i * 2 + j, none⟩ = w.cell? ⟨g, i * 2 + j, none⟩ := by simp [World.cell?, n2 g hgw]
        rw [this]
        exact hrow _ v (by rwa [List.getElem?_drop] at hj)) (by rw [hdl]; simp only [List.size_toArray]; omega) (fun v hv => ox v (List.mem_of_mem_drop hv))
    rw [show (i + 1) * 2 = i * 2 + 2 by omega] at this ⊢
    rw [this, hc2]
  have HR : Hid (∀ w' : World, w'.heap = (((w.alloc (.cells ROW 231)).setRow w.heap.size c1.toArray).setRow w.heap.size c2.toArray).heap → w'.os = w.os → w'.tape = w.tape → w'.output = w.output → InsP 231 n (some g) (xs.take (i * 2) ++ [v0, v1] ++ xs.drop (i * 2)) w (.returned (.slice (some ⟨w.heap.size, 0, none⟩) (n + 1) G)) w') := fun w' hW h1 h2 h3 => by
    obtain ⟨n1, n2⟩ := hN2 _ rfl
    refine ⟨_, rfl, ⟨by simp only [List.length_append, List.length_take, List.length_cons, List.length_nil]; omega, .inr ⟨w.heap.size, G, c2.toArray, rfl, Nat.zero_le _, by rw [hW]; exact setRow_heap _ _ c1.toArray _ _ _ n1, hGn, hGm, by simp only [List.size_toArray]; omega, ?_⟩⟩, ⟨h1, h2, h3, by rw [hW]; simp, fun k hk _ => ?_⟩, .inr rfl⟩
    · rw [← e3]
      congr 1
      simp only [hx, List.length_append, List.length_take, List.length_cons, List.length_nil]
      first | omega | simp
    · rw [hW, setRow_other _ _ k _ (by omega)]
      exact n2 k hk
  clear hrow hg htk e1 e2 e3 ox hdl hx hc1 hc2 hv hRs hRt hRl hN hN2 hold hG hROW hi0 hz0 hz1 hzb hsz hkk hik
  generalize xs.take (i * 2) ++ [v0, v1] ++ xs.drop (i * 2) = ys at *
  generalize c1.toArray = a1 at *
  generalize c2.toArray = a2 at *
  have hA := hcpA (w.alloc (.cells ROW 231)).drew rfl
  have hB := hcpB ((w.alloc (.cells ROW 231)).drew.setRow w.heap.size a1).drew rfl
  clear hcpA hcpB
  have hG2 : G ≤ 9223372036854775807 := by unfold maxLen at hGm; omega
  have hz2 : ¬ ((i : Int) = (n : Int)) := by omega
  have hw1 : IntKind.i64.wrap ((i : Int) + 1) = (i : Int) + 1 := Go.IntWalk.i64_in _ (by omega)
  have hw2 : IntKind.i64.wrap ((n : Int) + 1) = (n : Int) + 1 := Go.IntWalk.i64_in _ (by omega)
  have htn : ((i : Int) + 1).toNat = i + 1 := by omega
  have hb1 : (0 : Int) ≤ (i : Int) + 1 := by omega
  have hin : i ≤ n := by omega
  have hi1 : i + 1 ≤ n := by omega
  have hb3 : (i : Int) ≤ (n : Int) + 1 := by omega
  have hb5 : (n : Int) < (n : Int) + 1 := by omega
  have hGi : ¬ (G = i) := by omega
  have hGim : ¬ (G = i + 1) := by omega
  have hci : ¬ (n = i) := by omega
  have mixed : Tryz.prog.follows .mixedOrders = true := by kernel_rfl
  go_enter Tryz.func153, Tryz.ntmps153
  go_wp2_with (at_builtin; refine Lib.wpList_append_run _ rfl _ _ _ _ rfl _ _ rfl rfl _ _ (hrz _) ?_)
  go_region_law_o (refine step_copy_runI rfl _ _ 227 227 rfl _ _ (by simp [Act.eval, Act.put]) (by simp [Act.eval, Act.put]) (hB _ _ _) ?_)
  go_wp2
  go_ret
  exact HR.out _ rfl rfl rfl rfl
/-! Joined. -/
def InsD (A B : HL) (rv : RV) (n i : Nat) (xs news : List Value) (w : World) (r : Ending) (w' : World) : Prop :=
  ∃ rv', r = .returned (lvOf rv' (n + 1)) ∧ rvOk rv' (n + 1) ∧ Step (A ++ rowH rv 231 2 xs ++ B) (A ++ rowH rv' 231 2 (xs.take (i * 2) ++ news ++ xs.drop (i * 2)) ++ B) w w'
theorem ins_any {w : World} {A B : HL} {rv : RV} {n i vb : Nat} {xs : List Value} {v0 v1 : Value} (h : Sep w (A ++ rowH rv 231 2 xs ++ B)) (hok : rvOk rv n) (hx : xs.length = n * 2) (hi : i ≤ n) (hn : n ≤ 1048576)
    (hv : Cells w vb 231 [v0, v1]) (hvb : vb ∉ keys (A ++ rowH rv 231 2 xs ++ B)) (ox : ∀ v ∈ xs, v.oneCell' = true) (o0 : v0.oneCell' = true) (o1 : v1.oneCell' = true) :
    Calls Tryz.prog 153 #[lvOf rv n, .int .i64 i, .slice (some ⟨vb, 0, none⟩) 1 1] w (InsD A B rv n i xs [v0, v1] w) := by
  have hr : Sep w (rowH rv 231 2 xs) := h.left.right
  have hown := row_owns hr hok hx
  have key : Calls Tryz.prog 153 #[lvOf rv n, .int .i64 i, .slice (some ⟨vb, 0, none⟩) 1 1] w (InsP 231 n (lvOf rv n).ownBlock (xs.take (i * 2) ++ [v0, v1] ++ xs.drop (i * 2)) w) := by
    by_cases hin : i = n
    · subst hin
      have := ins_end hown hok hn (hv.cell 0 _ rfl) (hv.cell 1 _ rfl) o0 o1
      rw [List.take_of_length_le (by omega), List.drop_eq_nil_of_le (by omega), List.append_nil]
      exact this
    · cases rv with
      | none => have : n = 0 := hok; omega
      | some p =>
        obtain ⟨g, cap⟩ := p
        obtain ⟨o, ho, cur, rfl, hcs, htk⟩ := hr.get (b := g) (q := isR 231 (cap * 2) xs) (by simp [rowH])
        by_cases hc : n + 1 ≤ cap
        · exact ins_shift ho hcs htk hx (by omega) hn hc hok.2 hv (fun e => hvb (by subst e; simp [rowH])) ox o0 o1
        · have : cap = n := by have := hok.1; omega
          subst this
          exact ins_grow ho htk hx (by omega) hn hv ox o0 o1
  refine key.mono ?_
  rintro r w' ⟨v', rfl, q1, q2, q3⟩
  obtain ⟨rv', rfl, e2, e3⟩ := row_appended h q1 q2 q3
  exact ⟨rv', rfl, e2, e3⟩
end Go.Proofs.YtcnbbenmlffgpaaGreatDoor

/- A walk of slices.Delete at a row of pages, one element. Conditions: the slice has no more than 1048576 elements. -/
namespace Go.Proofs.YtcnbbenmlffgpaaGreatDoor
open Go.RowKit

theorem run_clear_k {P : Program} (w : World) (t e ty : TypeId) (z : Value) (ht : P.underlying t = some (.slice e)) (hv : ∀ w, (zeroValue e).run P w = .ok z w) (g o n c : Nat) (hn : 0 < n) (cur : Array Value) (T : TypeId) (hg : w.heap[g]? = some (.cells cur T (0, 0)))
    (cs : List Value) (hcs : (Builtin.zeroCells z.cells n).toList = cs) (hfit : o + cs.length ≤ cur.size) (h1 : ∀ v ∈ cs, v.oneCell' = true) :
    (Builtin.clear_ #[t] ty #[.slice (some ⟨g, o, none⟩) n c]).run P w = .ok (.tuple #[]) (w.setRow g (cur.toList.take o ++ cs ++ cur.toList.drop (o + cs.length)).toArray) := by
  have hst := run_storeCells_at P g o T cs 0 cur w hg (by simpa using hfit) h1
  simp only [Nat.add_zero] at hst
  obtain ⟨m, rfl⟩ : ∃ m, n = m + 1 := ⟨n - 1, by omega⟩
  simp [Builtin.clear_, run_underlying ht, hv, hcs, hst]
theorem del_cells (cur xs zs : List Value) (p s : Nat) (hx : cur.take xs.length = xs) (hp : p + s ≤ xs.length) (hz : zs.length = s) (hl : xs.length ≤ cur.length) :
    let c1 := cur.take p ++ xs.drop (p + s) ++ cur.drop (p + (xs.drop (p + s)).length)
    let c2 := c1.take (xs.length - s) ++ zs ++ c1.drop (xs.length - s + zs.length)
    c1.length = cur.length ∧ c2.length = cur.length ∧ c2.take (xs.length - s) = xs.take p ++ xs.drop (p + s) := by
  have e0 : (xs.drop (p + s)).length = xs.length - (p + s) := List.length_drop
  have e1 : (cur.take p ++ xs.drop (p + s) ++ cur.drop (p + (xs.drop (p + s)).length)).length = cur.length := by
    simp only [List.length_append, List.length_take, List.length_drop]; omega
  refine ⟨e1, ?_, ?_⟩
  · simp only [List.length_append, List.length_take, List.length_drop]; omega
  · have ht : (cur.take p ++ xs.drop (p + s) ++ cur.drop (p + (xs.drop (p + s)).length)).take (xs.length - s) = xs.take p ++ xs.drop (p + s) := by
      have e2 : (cur.take p ++ xs.drop (p + s)).length = xs.length - s := by simp; omega
      rw [← e2, List.take_left]
      congr 1
      rw [← hx, List.take_take, show min p xs.length = p by omega]
    show List.take (xs.length - s) _ = _
    rw [ht, List.append_assoc, List.take_append_of_le_length (by simp; omega), List.take_of_length_le (by simp; omega)]
theorem step_append_runI {P : Program} {ops : Array Oper} {o : Oper} {a : Act} {w : World} {K : Act → World → Prop} {Q : Exit → Act → World → Prop} {E : Prop}
    (hg : o.guard = none) (d x : Operand) (dT sT : TypeId) (hop : o.op = Op.call { callee := Callee.builtin Builtin.append, args := #[d, x], argTypes := #[dT, sT] })
    (v u : Value) (hd : a.eval d = v) (hx : a.eval x = u) {v' : Value} {w' : World} (hr : (Builtin.append_ #[dT, sT] o.type #[v, u]).run P w = .ok v' w') (hK : K (a.put o.dst v') w') :
    if Region.wanted o (yielded ops a.tmps) = true then Oper.wp P o a w K Q else E := by
  have hw : Region.wanted o (yielded ops a.tmps) = true := by simp [Region.wanted, hg]
  rw [if_pos hw]
  unfold Oper.wp execOp
  simp only [hop, resolve, invoke, builtin, Sem.run_bind, Sem.run_pure, Result.andThen_ok, List.map_toArray, List.map_cons, List.map_nil, hd, hx, hr]
  exact hK
def DelP (g cap k : Nat) (ys : List Value) (w : World) (r : Ending) (w' : World) : Prop :=
  r = .returned (.slice (some ⟨g, 0, none⟩) k cap) ∧ w'.ownsRow 0 231 2 (.slice (some ⟨g, 0, none⟩) k cap) k ys ∧ w.grownBy w' (some g)
set_option maxHeartbeats 4000000 in
set_option maxRecDepth 100000 in
theorem del_row {w : World} {g cap k i : Nat} {xs : List Value} {cur : Array Value} (hg : w.heap[g]? = some (.cells cur 231 (0, 0))) (hcs : cur.size = cap * 2) (htk : cur.toList.take xs.length = xs) (hx : xs.length = (k + 1) * 2) (hi : i ≤ k) (hn : k ≤ 1048576) (hc : k + 1 ≤ cap) (hcm : cap ≤ maxLen)
    (ox : ∀ v ∈ xs, v.oneCell' = true) :
    Calls Tryz.prog 182 #[.slice (some ⟨g, 0, none⟩) (k + 1) cap, .int .i64 i, .int .i64 ((i : Int) + 1)] w (DelP g cap k (xs.take (i * 2) ++ xs.drop (i * 2 + 2)) w) := by
  obtain ⟨i0, hi0, hz0, hz1, hzb⟩ := info_parts Tryz.infopage
  have hcl : cur.toList.length = cap * 2 := by simpa using hcs
  have hrow : ∀ j v, xs[j]? = some v → w.drew.cell? ⟨g, j, none⟩ = some v := fun j v hj => by
    have : cur.toList[j]? = some v := by
      rw [← htk] at hj
      rw [List.getElem?_take] at hj
      split at hj
      · exact hj
      · cases hj
    rw [Array.getElem?_toList] at this
    show w.cell? _ = _
    simp [World.cell?, hg, this]
  have hdl : (xs.drop (i * 2 + 2)).length = (k - i) * 2 := by rw [List.length_drop, hx]; omega
  have hic := del_cells cur.toList xs [.pointer none, .int .i64 0] (i * 2) 2 htk (by omega) rfl (by omega)
  obtain ⟨e1, e2, e3⟩ := hic
  rw [show xs.length - 2 = k * 2 by omega] at e2 e3
  obtain ⟨c1, hc1⟩ : ∃ c1 : List Value, c1 = cur.toList.take (i * 2) ++ xs.drop (i * 2 + 2) ++ cur.toList.drop (i * 2 + (xs.drop (i * 2 + 2)).length) := ⟨_, rfl⟩
  rw [← hc1] at e1 e2 e3
  obtain ⟨c2, hc2⟩ : ∃ c2 : List Value, c2 = c1.take (k * 2) ++ [.pointer none, .int .i64 0] ++ c1.drop (k * 2 + [Value.pointer none, .int .i64 0].length) := ⟨_, rfl⟩
  rw [← hc2] at e2 e3
  obtain ⟨a, hA, hsrc⟩ : ∃ a : Addr, (if cap = i + 1 then (some (⟨g, 0, none⟩ : Addr)) else some ⟨g, (i + 1) * 2, none⟩) = some a ∧ ∀ j u, (xs.drop (i * 2 + 2))[j]? = some u → w.drew.cell? (a.add j) = some u := by
    by_cases hci : cap = i + 1
    · refine ⟨⟨g, 0, none⟩, by simp [hci], fun j u hj => ?_⟩
      have : (xs.drop (i * 2 + 2)).length = 0 := by rw [hdl]; omega
      rw [List.eq_nil_of_length_eq_zero this] at hj
      simp at hj
    · refine ⟨⟨g, (i + 1) * 2, none⟩, by simp [hci], fun j u hj => ?_⟩
      rw [Addr.add_lit]
      exact hrow _ u (by rw [List.getElem?_drop] at hj; rwa [show (i + 1) * 2 + j = i * 2 + 2 + j by omega])
  have hap : ∀ ty, (Builtin.append_ #[227, 227] ty #[.slice (some ⟨g, 0, none⟩) i cap, .slice (some a) (k - i) (cap - (i + 1))]).run Tryz.prog w.drew = .ok (.slice (some ⟨g, 0, none⟩) k cap) (w.drew.setRow g c1.toArray) := fun ty => by
    have := run_append_room (P := Tryz.prog) w.drew 227 ty 231 i0 Tryz.underlying227 hi0 g i cap cur hg a (k - i) (cap - (i + 1)) (xs.drop (i * 2 + 2)) (by rw [hz1]; exact hdl) hsrc (fun v hv => ox v (List.mem_of_mem_drop hv)) (by omega) (by rw [hz1, hdl, hcs]; omega)
    rw [hz1, show i + (k - i) = k by omega] at this
    rw [this, hc1]
  have hg1 : (w.drew.setRow g c1.toArray).heap[g]? = some (.cells c1.toArray 231 (0, 0)) := setRow_heap w.drew g cur _ _ _ hg
  have hclr : ∀ ty, (Builtin.clear_ #[227] ty #[.slice (some ⟨g, k * 2, none⟩) 1 (cap - k)]).run Tryz.prog (w.drew.setRow g c1.toArray) = .ok (.tuple #[]) ((w.drew.setRow g c1.toArray).setRow g c2.toArray) := fun ty => by
    have := run_clear_k (P := Tryz.prog) (w.drew.setRow g c1.toArray) 227 231 ty _ Tryz.underlying227 Tryz.zeroValue231 g (k * 2) 1 (cap - k) (by omega) c1.toArray 231 hg1 [.pointer none, .int .i64 0] (by first | kernel_rfl | decide | simp [Builtin.zeroCells, Value.cells]) (by simp only [List.size_toArray, List.length_cons, List.length_nil]; omega) (by simp [Value.oneCell'])
    rw [this, hc2]
  have HR : Hid (DelP g cap k (xs.take (i * 2) ++ xs.drop (i * 2 + 2)) w (.returned (.slice (some ⟨g, 0, none⟩) k cap)) ((w.drew.setRow g c1.toArray).setRow g c2.toArray)) := by
    have hg2 : ((w.drew.setRow g c1.toArray).setRow g c2.toArray).heap[g]? = some (.cells c2.toArray 231 (0, 0)) := setRow_heap _ g c1.toArray _ _ _ hg1
    refine ⟨rfl, ⟨by simp only [List.length_append, List.length_take, hdl, hx]; omega, .inr ⟨g, cap, c2.toArray, rfl, Nat.zero_le _, hg2, by omega, hcm, by simp only [List.size_toArray]; omega, ?_⟩⟩, ⟨rfl, rfl, rfl, by simp, fun j _ hj => ?_⟩⟩
    · first
        | exact e3
        | (have : (xs.take (i * 2) ++ xs.drop (i * 2 + 2)).length = k * 2 := by simp only [List.length_append, List.length_take, hdl, hx]; omega
           rw [this]
           exact e3)
    · have hkg : j ≠ g := fun e => hj (by rw [e])
      rw [setRow_other _ g j _ hkg, setRow_other _ g j _ hkg]
      rfl
  clear hrow hg hcs htk hg1 e1 e2 e3 hcl ox hdl hx hc1 hc2 hsrc hi0 hz0 hz1 hzb
  generalize xs.take (i * 2) ++ xs.drop (i * 2 + 2) = ys at *
  generalize c1.toArray = a1 at *
  generalize c2.toArray = a2 at *
  have hcm2 : cap ≤ 9223372036854775807 := by unfold maxLen at hcm; omega
  have hz2 : ¬ ((i : Int) = (i : Int) + 1) := by omega
  have htn : ((i : Int) + 1).toNat = i + 1 := by omega
  have htk : ((k : Int) + 1).toNat = k + 1 := by omega
  have hb1 : (0 : Int) ≤ (i : Int) + 1 := by omega
  have hb2 : (0 : Int) ≤ (k : Int) + 1 := by omega
  have hb3 : (i : Int) ≤ (i : Int) + 1 := by omega
  have hb4 : (i : Int) + 1 ≤ (k : Int) + 1 := by omega
  have hb5 : (k : Int) ≤ (k : Int) + 1 := by omega
  have hb6 : (k : Int) + 1 ≤ (cap : Int) := by omega
  have hb7 : i ≤ cap := by omega
  have hb8 : ¬ (cap = k) := by omega
  have mixed : Tryz.prog.follows .mixedOrders = true := by kernel_rfl
  go_enter Tryz.func182, Tryz.ntmps182
  go_wp2_with fail
  go_region_law_o (refine step_append_runI rfl _ _ 227 227 rfl _ _ (by simp [Act.eval, Act.put]) (by simp [Act.eval, Act.put]) (hap _) ?_)
  go_wp2_with fail
  go_ret
  exact HR.out
end Go.Proofs.YtcnbbenmlffgpaaGreatDoor
