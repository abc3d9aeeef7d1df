/- CoreApart returns true at every input. No condition. Part of its proof. -/
import Derived.Test.YtcnbbenmlffgpaaGreatDoorCa15
import Derived.Test.YtcnbbenmlffgpaaGreatDoorCa14
import Derived.Test.YtcnbbenmlffgpaaGreatDoorCa07
import Derived.BigQuiet
import Derived.Deep.QuietTactic
import Derived.Test.YtcnbbenmlffgpaaGreatDoorCa11
import Derived.RangeFuncWrites
import Derived.Maps.OwnIn
set_option linter.unusedVariables false
/- The walk of the core's Make. Conditions: the blocks hold what CO.hl says. -/
namespace Go.Proofs.YtcnbbenmlffgpaaGreatDoor
open Go.RowKit

/-- The calls of a Make, one behind the other. -/
theorem make_chain {w w1 : World} {S : CO} {fr : List Nat} {N K : Nat} (h : Sep w S.hl) (hb : Below w.heap.size w w1) (ok : S.Ok fr N K) (hN : N + 1 < 1048576) {x : Nat} {f : Pl} (hf : pget S.l 1 x = some f) (hfk : f.kind = 1) {n : Nat} (hn : n = 8 ∨ 1 ≤ n ∧ n ≤ 5) {lim : Int} (hlim : n = 1 → 0 ≤ lim) :
    Calls Tryz.prog 70 #[.pointer (some ⟨S.c, 0, none⟩), .int .i64 (f.own : Int), .int .i64 (n : Int)] w1 fun r w2 =>
      (∃ er : Int, er ≠ 0 ∧ r = .returned (.tuple #[.int .i64 0, .int .i64 er]) ∧ MakeR S fr x n lim w (.returned (.tuple #[.int .u32 0, .int .i64 er])) w2) ∨
      ∃ a : Nat, r = .returned (.tuple #[.int .i64 (a : Int), .int .i64 0]) ∧ ∀ w3, Below w2.heap.size w2 w3 →
        Calls Tryz.prog 71 #[.pointer (some ⟨S.c, 0, none⟩), .agg #[.int .i64 (n : Int), .int .i64 (a : Int), .int .i64 (f.own : Int)], .int .i64 lim] w3 fun r w4 => (∀ b, w2.heap.size ≤ b → b < w3.heap.size → w4.heap[b]? = w3.heap[b]?) ∧ w3.heap.size ≤ w4.heap.size ∧
          ((∃ er : Int, er ≠ 0 ∧ r = .returned (.int .i64 er) ∧ Calls Tryz.prog 68 #[.pointer (some ⟨S.c, 0, none⟩), .agg #[.int .i64 (n : Int), .int .i64 (a : Int), .int .i64 (f.own : Int)]] w4 fun r w5 => r = .returned (.tuple #[]) ∧ MakeR S fr x n lim w (.returned (.tuple #[.int .u32 0, .int .i64 er])) w5) ∨
            (r = .returned (.int .i64 0) ∧ w4.cell? ⟨S.c, 1, none⟩ = some (.pointer (some ⟨S.t, 0, none⟩)) ∧ Calls Tryz.prog 56 #[.pointer (some ⟨S.t, 0, none⟩), .agg #[.int .i64 (n : Int), .int .i64 (a : Int), .int .i64 (f.own : Int)]] w4.drew fun r w5 => ∃ y : Nat, r = .returned (.tuple #[.int .u32 (y : Int), .int .i64 0]) ∧ w5.cell? ⟨S.c, 1, none⟩ = some (.pointer (some ⟨S.t, 0, none⟩)) ∧ (∀ b, w2.heap.size ≤ b → b < w4.heap.size → w5.heap[b]? = w4.heap[b]?) ∧ MakeR S fr x n lim w (.returned (.tuple #[.int .u32 (y : Int), .int .i64 0])) w5)) := by
  obtain ⟨e, he⟩ := ok.inv.tre.acc (pget_mem hf) (Pl.is_iff.2 (.inl (pget_some.1 hf).2.2)) hfk
  have s1 := h.grown hb
  have hpool := ok.inv.mem.pool
  have hlok := ok.inv.lok
  have hnx0 := ok.next
  have hwrap : ∀ (r : Ending) (w' : World), MakeK S fr f e n lim w r w' → MakeR S fr x n lim w r w' := fun r w' hk => .inr ⟨f, hf, .inr (.inr ⟨n, e, rfl, hfk, hn, hlim, he, hk⟩)⟩
  refine Calls.mono (cget_any s1.sep hpool he (by omega)) ?_
  rintro r w2 (⟨hq, rfl, st⟩ | ⟨hq, hnp, rfl, st⟩ | ⟨a, P', fr', hq, g, rfl, st⟩)
  · exact .inl ⟨5, by decide, rfl, hwrap _ _ (.inl ⟨hq, rfl, s1.trans st⟩)⟩
  · exact .inl ⟨4, by decide, rfl, hwrap _ _ (.inr (.inl ⟨hq, hnp, rfl, s1.trans st⟩))⟩
  · refine .inr ⟨a, rfl, fun w3 hb3 => ?_⟩
    have s2 := s1.trans st
    have s3 := s2.sep.grown hb3
    have s23 := s2.trans s3
    obtain ⟨hacc, hE, hnx, hElen⟩ := g.acc he
    have hroom := g.room.1
    have hlen := g.same.len
    have key : ∀ {H' : HL} {w4 : World}, Step (S.setP P').hl H' w3 w4 → (∀ b, w2.heap.size ≤ b → b < w3.heap.size → w4.heap[b]? = w3.heap[b]?) ∧ w3.heap.size ≤ w4.heap.size := fun st4 => ⟨fun b h1 h2 => st4.chg.block b h2 (fun hk => by have := s2.sep.lt hk; omega), st4.chg.size⟩
    have hput : ∀ {w4 : World} (er : Int), er ≠ 0 → Step (S.setP P').hl (S.setP P').hl w3 w4 → ((er = 11 ∧ ((∀ p ∈ S.l, p.st ≠ 0) ∨ n = 1 ∧ S.P.q.E.length = 32)) ∨ (er = 5 ∧ n = 1 ∧ leftOf e - 64 < lim)) →
        Calls Tryz.prog 68 #[.pointer (some ⟨S.c, 0, none⟩), .agg #[.int .i64 (n : Int), .int .i64 (a : Int), .int .i64 (f.own : Int)]] w4 fun r w5 => r = .returned (.tuple #[]) ∧ MakeR S fr x n lim w (.returned (.tuple #[.int .u32 0, .int .i64 er])) w5 := fun {w4} er her st4 hc => by
      refine Calls.mono (cput_any st4.sep g.ok (g.held hpool he)) ?_
      rintro r w5 ⟨rfl, P2, fr2, bk, st5⟩
      have ht := g.back ok.inv.mem bk
      exact ⟨rfl, hwrap _ _ (.inr (.inr (.inl ⟨hq, er, P2, hc, ht, rfl, (s23.trans st4).trans st5⟩)))⟩
    have hadd : ∀ {w4 : World} {P2 : PL} {i : Nat} {p : Pl} {y : Nat}, Fst S.l i p → Step (S.setP P').hl (S.setP P2).hl w3 w4 → MadeOk S fr f e n a lim y i p P2 fr' →
        w4.cell? ⟨S.c, 1, none⟩ = some (.pointer (some ⟨S.t, 0, none⟩)) ∧ Calls Tryz.prog 56 #[.pointer (some ⟨S.t, 0, none⟩), .agg #[.int .i64 (n : Int), .int .i64 (a : Int), .int .i64 (f.own : Int)]] w4.drew fun r w5 => ∃ y : Nat, r = .returned (.tuple #[.int .u32 (y : Int), .int .i64 0]) ∧ w5.cell? ⟨S.c, 1, none⟩ = some (.pointer (some ⟨S.t, 0, none⟩)) ∧ (∀ b, w2.heap.size ≤ b → b < w4.heap.size → w5.heap[b]? = w4.heap[b]?) ∧ MakeR S fr x n lim w (.returned (.tuple #[.int .u32 (y : Int), .int .i64 0])) w5 := fun {w4 P2 i p y} hi st4 hm => by
      have s4 := s3.trans st4
      refine ⟨CO.c1 (S := S.setP P2) s4.sep, ?_⟩
      refine Calls.mono (hput_ok (h := (S.setP P2).ht) (CO.sT s4.drew.sep) hlok hi n a f.own y) ?_
      rintro r w5 ⟨rfl, st5⟩
      have s5 := CO.stepL (S := S.setP P2) s4.drew.sep _ st5
      refine ⟨nm i p, rfl, CO.c1 (S := (S.setP P2).setL _) s5.sep, fun b h1 h2 => ?_, hwrap _ _ (.inr (.inr (.inr ⟨i, p, a, y, P2, fr', hi.1, hi.2.1, hi.2.2, hq, rfl, hm, (s2.trans s4.drew).trans s5⟩)))⟩
      have h12 : ∀ k ∈ keys (S.setP P2).hl, k < w2.heap.size ∨ w3.heap.size ≤ k := fun k hk => by
        rcases st4.new k hk with h' | h'
        · exact .inl (s2.sep.lt h')
        · exact .inr h'
      exact st5.chg.block b h2 (fun hk => by
        have hlt := (CO.sT (S := S.setP P') s2.sep).lt (b := b) hk
        omega)
    refine Calls.mono (cfound_any (S := S.setP P') s3.sep g.ok hlok hacc (by show P'.q.next + 1 < _; rw [hnx]; omega) (fun h1 => ?_)) ?_
    · subst h1
      have hm : a ∈ P'.usedOf 1 := (g.used (by decide)).mem_iff.2 (by simp)
      have h64 : costK 1 = 64 := rfl
      rw [h64] at hroom
      exact ⟨hlim rfl, used_al8 g.ok hm, by show a + 8 ≤ P'.a.mem.length; rw [hlen]; omega⟩
    · rintro r w4 (⟨hfull, rfl, st4⟩ | ⟨⟨i, p, hi⟩, hn1, rfl, st4⟩ | ⟨⟨i, p, hi⟩, hn1, ⟨er, hc, rfl⟩, st4⟩ | ⟨⟨i, p, hi⟩, hn1, hle, rfl, b, st4⟩)
      · exact ⟨(key st4).1, (key st4).2, .inl ⟨11, by decide, rfl, hput 11 (by decide) st4 (.inl ⟨rfl, .inl hfull⟩)⟩⟩
      · obtain ⟨c1, hp⟩ := hadd hi st4 (made_n ok hf hfk (by omega) he g hi)
        exact ⟨(key st4).1, (key st4).2, .inr ⟨rfl, c1, hp⟩⟩
      · subst hn1
        have h64 : costK 1 = 64 := rfl
        have hmem := g.mem
        rw [h64] at hroom hmem
        have hsame : P'.setA (put_ P'.a.mem a (bytes8 0)) = P' := by
          have : put_ P'.a.mem a (bytes8 0) = P'.a.mem := by
            rw [hmem]
            exact put_same (by omega) hroom
          rw [this]; rfl
        have st4' : Step (S.setP P').hl (S.setP (P'.setA (put_ P'.a.mem a (bytes8 0)))).hl w3 w4 := st4
        rw [hsame] at st4'
        have her : er ≠ 0 := by rcases hc with ⟨rfl, _⟩ | ⟨rfl, _⟩ <;> decide
        have hle1 : leftOf ({ e with q := { e.q with charged := e.q.charged + ((costK 1 : Nat) : Int) } } : En Fa) = leftOf e - 64 := by
          unfold leftOf; rw [h64]; simp only; omega
        refine ⟨(key st4').1, (key st4').2, .inl ⟨er, her, rfl, hput er her st4' ?_⟩⟩
        rcases hc with ⟨rfl, hc⟩ | ⟨rfl, hc⟩
        · exact .inr ⟨rfl, rfl, by rw [hle1] at hc; exact hc⟩
        · exact .inl ⟨rfl, .inr ⟨rfl, by rw [← hElen]; exact hc⟩⟩
      · subst hn1
        have h64 : costK 1 = 64 := rfl
        have hle1 : leftOf ({ e with q := { e.q with charged := e.q.charged + ((costK 1 : Nat) : Int) } } : En Fa) = leftOf e - 64 := by
          unfold leftOf; rw [h64]; simp only; omega
        rw [hle1] at hle
        have hm := made_f (b := b) (a := a) ok hN hf hfk he (hlim rfl) hle g hi
        have st4' : Step (S.setP P').hl (S.setP ((P'.setQ (carved P'.q f.own { e with q := { e.q with charged := e.q.charged + 64 } } b lim)).setA (put_ P'.a.mem a (bytes8 S.P.q.next.toNat)))).hl w3 w4 := by
          rw [← hnx]; exact st4
        obtain ⟨c1, hp⟩ := hadd hi st4' hm
        exact ⟨(key st4').1, (key st4').2, .inr ⟨rfl, c1, hp⟩⟩
set_option maxHeartbeats 1000000 in
theorem cmake_own {w : World} {S : CO} {x : Nat} (k lim er : Int) (he : er ≠ 0) (hO : Calls Tryz.prog 16 #[.pointer (some ⟨S.c, 0, none⟩), .int .u32 (x : Int)] w (Told w (.tuple #[.int .i64 0, .int .i64 er]))) :
    Calls Tryz.prog 21 #[.pointer (some ⟨S.c, 0, none⟩), .int .u32 (x : Int), .int .i64 k, .int .i64 lim] w (Told w (.tuple #[.int .u32 0, .int .i64 er])) := by
  have hb1 : (er == 0) = false := by simpa using he
  have hb2 : (er != 0) = true := by simpa using he
  go_enter Tryz.func21, Tryz.ntmps21
  go_wp2_with fail
  refine hO.mono ?_
  rintro r w1 ⟨rfl, hb⟩
  have HB : Hid (Told w (.tuple #[.int .u32 0, .int .i64 er]) (.returned (.tuple #[.int .u32 0, .int .i64 er])) w1) := ⟨rfl, hb⟩
  clear hb
  go_wp2_with fail
  first | exact HB.out | (go_ret2; exact HB.out)
set_option maxHeartbeats 1000000 in
theorem cmake_arg {w : World} {S : CO} {x : Nat} (own : Nat) (k lim : Int) (hk : ¬ (k = 8 ∨ 1 ≤ k ∧ k ≤ 5) ∨ k = 1 ∧ lim < 0) (hO : Calls Tryz.prog 16 #[.pointer (some ⟨S.c, 0, none⟩), .int .u32 (x : Int)] w (Told w (.tuple #[.int .i64 (own : Int), .int .i64 0]))) :
    Calls Tryz.prog 21 #[.pointer (some ⟨S.c, 0, none⟩), .int .u32 (x : Int), .int .i64 k, .int .i64 lim] w (Told w (.tuple #[.int .u32 0, .int .i64 1])) := by
  have HM : Hid (∀ w1, Below w.heap.size w w1 → Calls Tryz.prog 69 #[.int .i64 k] w1 (fun r w' => r = .returned (.bool (decide (k = 8 ∨ 1 ≤ k ∧ k ≤ 5))) ∧ w1 = w') ∧ Told w (.tuple #[.int .u32 0, .int .i64 1]) (.returned (.tuple #[.int .u32 0, .int .i64 1])) w1) := fun w1 hb => ⟨cmay_any w1 k, rfl, hb⟩
  have hcase : decide (k = 8 ∨ 1 ≤ k ∧ k ≤ 5) = false ∨ decide (k = 8 ∨ 1 ≤ k ∧ k ≤ 5) = true ∧ k = 1 ∧ lim < 0 := by
    by_cases hm : k = 8 ∨ 1 ≤ k ∧ k ≤ 5
    · rcases hk with hk | hk
      · exact absurd hm hk
      · exact .inr ⟨by rw [decide_eq_true_eq]; exact hm, hk⟩
    · exact .inl (by rw [decide_eq_false_iff_not]; exact hm)
  clear hk
  generalize decide (k = 8 ∨ 1 ≤ k ∧ k ≤ 5) = m at *
  rcases hcase with rfl | ⟨rfl, rfl, hl⟩
  all_goals
    go_enter Tryz.func21, Tryz.ntmps21
    go_wp2_with fail
    refine hO.mono ?_
    rintro r w1 ⟨rfl, hb⟩
    obtain ⟨hmay, hx⟩ := HM.out w1 hb
    have HX := hidden hx
    clear hb hx hO
    go_wp2_with fail
    refine hmay.mono ?_
    rintro r w2 ⟨rfl, rfl⟩
    clear hmay
    go_wp2_with fail
    first | exact HX.out | (go_ret2; exact HX.out)
set_option maxHeartbeats 8000000 in
set_option maxRecDepth 100000 in
theorem cmake_main {w : World} {S : CO} {fr : List Nat} {N K : Nat} (h : Sep w S.hl) (ok : S.Ok fr N K) (hN : N + 1 < 1048576) {x : Nat} (hx : x < 4294967296) {f : Pl} (hf : pget S.l 1 x = some f) (hfk : f.kind = 1) {n : Nat} (hn : n = 8 ∨ 1 ≤ n ∧ n ≤ 5) {lim : Int} (hlim : n = 1 → 0 ≤ lim) :
    Calls Tryz.prog 21 #[.pointer (some ⟨S.c, 0, none⟩), .int .u32 (x : Int), .int .i64 (n : Int), .int .i64 lim] w (MakeR S fr x n lim w) := by
  have hO := cown_some h ok hx hf hfk
  have HC : Hid (∀ w1, Below w.heap.size w w1 → _) := fun w1 hb => make_chain (w1 := w1) h hb ok hN hf hfk hn hlim
  have HM : Hid (∀ w1, Calls Tryz.prog 69 #[.int .i64 (n : Int)] w1 (fun r w' => r = .returned (.bool true) ∧ w1 = w')) := fun w1 => by
    have := cmay_any w1 (n : Int)
    rw [show decide ((n : Int) = 8 ∨ 1 ≤ (n : Int) ∧ (n : Int) ≤ 5) = true by rw [decide_eq_true_eq]; omega] at this
    exact this
  have hcase : (n : Int) = 1 ∧ 0 ≤ lim ∨ ((n : Int) == 1) = false := by
    by_cases h1 : n = 1
    · exact .inl ⟨by omega, hlim h1⟩
    · exact .inr (by simp; omega)
  generalize MakeR S fr x n lim w = Q at *
  generalize f.own = own at *
  clear h ok hN hf hfk hn hlim
  generalize (n : Int) = nz at *
  rcases hcase with ⟨rfl, h0⟩ | h0
  all_goals
    go_enter Tryz.func21, Tryz.ntmps21
    go_wp2_with fail
    refine hO.mono ?_
    rintro r w1 ⟨rfl, hb⟩
    have hc := HC.out w1 hb
    have hmay := HM.out w1
    clear hb hO HC HM
    go_wp2_with fail
    refine hmay.mono ?_
    rintro r w2 ⟨rfl, rfl⟩
    clear hmay
    go_wp2_with fail
    refine hc.mono ?_
    rintro r w2 (⟨er, her, rfl, hx⟩ | ⟨a, rfl, hx⟩)
    · have HX := hidden hx
      have hb1 : (er == 0) = false := by simpa using her
      have hb2 : (er != 0) = true := by simpa using her
      clear hx hc her
      go_wp2_with fail
      first | exact HX.out | (go_ret2; exact HX.out)
    · have HX := hidden hx
      clear hx hc
      go_wp2_with fail
      refine (HX.out _ ((Below.refl _ _).alloc (Nat.le_refl _) _)).mono ?_
      rintro r w4 ⟨hk, hsz, hx⟩
      have hB : ∀ i v, (w2.alloc (.cells #[.int .i64 _, .int .i64 (a : Int), .int .i64 (own : Int)] 39)).cell? ⟨w2.heap.size, i, none⟩ = some v → w4.cell? ⟨w2.heap.size, i, none⟩ = some v := fun i v hv => (World.cell?_of_block (hk _ (Nat.le_refl _) (by simp))).trans hv
      have e0 := hB 0 _ ((Cells.new w2 39 [.int .i64 _, .int .i64 (a : Int), .int .i64 (own : Int)]).cell 0 _ rfl)
      have e1 := hB 1 _ ((Cells.new w2 39 [.int .i64 _, .int .i64 (a : Int), .int .i64 (own : Int)]).cell 1 _ rfl)
      have e2 := hB 2 _ ((Cells.new w2 39 [.int .i64 _, .int .i64 (a : Int), .int .i64 (own : Int)]).cell 2 _ rfl)
      have hlt : w2.heap.size < w4.heap.size := by rw [World.size_alloc] at hsz; omega
      clear hk hsz hB HX
      rcases hx with ⟨er, her, rfl, hx⟩ | ⟨rfl, c1, hx⟩
      · have HX := hidden hx
        have hb1 : (er == 0) = false := by simpa using her
        have hb2 : (er != 0) = true := by simpa using her
        clear hx her
        go_wp2_with fail
        refine HX.out.mono ?_
        rintro r w5 ⟨rfl, hx⟩
        have HY := hidden hx
        clear hx HX
        go_wp2_with fail
        first | exact HY.out | (go_ret2; exact HY.out)
      · have HX := hidden hx
        have x1 : w4.drew.cell? ⟨S.c, 1, none⟩ = some (.pointer (some ⟨S.t, 0, none⟩)) := c1
        have f0 : w4.drew.cell? ⟨w2.heap.size, 0, none⟩ = _ := e0
        have f1 : w4.drew.cell? ⟨w2.heap.size, 1, none⟩ = _ := e1
        have f2 : w4.drew.cell? ⟨w2.heap.size, 2, none⟩ = _ := e2
        clear hx
        go_wp2_with fail
        go_region_held3 (fun w' => w'.cell? ⟨S.c, 1, none⟩ = some (.pointer (some ⟨S.t, 0, none⟩)) ∧ w'.cell? ⟨w2.heap.size, 0, none⟩ = w4.cell? ⟨w2.heap.size, 0, none⟩ ∧ w'.cell? ⟨w2.heap.size, 1, none⟩ = some (.int .i64 (a : Int)) ∧ w'.cell? ⟨w2.heap.size, 2, none⟩ = some (.int .i64 (own : Int))) (first | exact ⟨c1, rfl, e1, e2⟩ | exact ⟨x1, rfl, f1, f2⟩ | exact ⟨t0, t1, t2, t3⟩)
          (first | (go_at_call 56; refine HX.out.mono ?_; rintro r w5 ⟨y, rfl, t0, tk, hx⟩; have t1 : w5.cell? ⟨w2.heap.size, 0, none⟩ = w4.cell? ⟨w2.heap.size, 0, none⟩ := World.cell?_of_block (tk _ (Nat.le_refl _) hlt); have t2 := (World.cell?_of_block (w := w4) (tk _ (Nat.le_refl _) hlt)).trans e1; have t3 := (World.cell?_of_block (w := w4) (tk _ (Nat.le_refl _) hlt)).trans e2; have HY := hidden hx; clear hx tk))
        go_wp2_with fail
        first | exact HY.out | (go_ret2; exact HY.out)
theorem cmake_any {w : World} {S : CO} {fr : List Nat} {N K : Nat} (h : Sep w S.hl) (ok : S.Ok fr N K) (hN : N + 1 < 1048576) {x : Nat} (hx : x < 4294967296) (k lim : Int) :
    Calls Tryz.prog 21 #[.pointer (some ⟨S.c, 0, none⟩), .int .u32 (x : Int), .int .i64 k, .int .i64 lim] w (MakeR S fr x k lim w) := by
  cases hp : pget S.l 1 x with
  | none =>
    refine (cmake_own k lim 8 (by decide) (cown_err (by decide) (cof_none h ok.inv.lok hx 1 hp))).mono ?_
    rintro r w' ⟨rfl, hb⟩
    exact .inl ⟨hp, rfl, h.grown hb⟩
  | some f =>
    by_cases hk : f.kind = 1
    · have hO := cown_some h ok hx hp hk
      by_cases hbad : ¬ (k = 8 ∨ 1 ≤ k ∧ k ≤ 5) ∨ k = 1 ∧ lim < 0
      · refine (cmake_arg f.own k lim hbad hO).mono ?_
        rintro r w' ⟨rfl, hb⟩
        exact .inr ⟨f, hp, .inr (.inl ⟨hk, hbad, rfl, h.grown hb⟩)⟩
      · have hkn : ∃ n : Nat, k = (n : Int) ∧ (n = 8 ∨ 1 ≤ n ∧ n ≤ 5) ∧ (n = 1 → 0 ≤ lim) := ⟨k.toNat, by omega, by omega, by omega⟩
        obtain ⟨n, rfl, h1, h2⟩ := hkn
        exact cmake_main h ok hN hx hp hk h1 h2
    · refine (cmake_own k lim 10 (by decide) (cown_err (by decide) (cof_other h ok.inv.lok hx 1 hp (by decide) (by omega)))).mono ?_
      rintro r w' ⟨rfl, hb⟩
      exact .inr ⟨f, hp, .inl ⟨hk, rfl, h.grown hb⟩⟩
end Go.Proofs.YtcnbbenmlffgpaaGreatDoor

/- The queue's iterator: things that are due are taken off, each ahead of its round. Conditions: what J says. -/
namespace Go.Proofs.YtcnbbenmlffgpaaGreatDoor
open Go.RowKit

theorem lift_code {F : Fence} (hF : Hid (F = Fence.wide)) {n : Nat} {P : Program} {c : Code} {Q : Exit → Act → World → Prop} {a : Act} {w : World} (h : c.wp P Q a w) : c.wpIn F n P Q a w := by
  have e : F = Fence.wide := hF.out
  subst e
  exact wpIn_wide.2 h
/-- The front of the queue, as the iterator finds it. -/
structure Front (g now x : Nat) (W : World) (J1 : World → Prop) : Prop where
  it : ∃ (b off len cap at_ : Nat), W.cell? ⟨g, 2, none⟩ = some (.slice (some ⟨b, off, none⟩) (len + 1) cap) ∧ len + 1 ≤ cap ∧ cap ≤ maxLen ∧ W.cell? ⟨b, off, none⟩ = some (.int .i64 (x : Int)) ∧ W.cell? ⟨b, off + 1, none⟩ = some (.int .i64 (at_ : Int)) ∧ at_ ≤ now ∧
    J1 (W.setCell ⟨g, 2, none⟩ (.slice (if cap = 1 then some ⟨b, off, none⟩ else some ⟨b, off + 2, none⟩) len (cap - 1)))
/-- Nothing is due. -/
def Late (g now : Nat) (W : World) : Prop := (∃ a cap, W.cell? ⟨g, 2, none⟩ = some (.slice a 0 cap)) ∨ ∃ (b off len cap at_ : Nat), W.cell? ⟨g, 2, none⟩ = some (.slice (some ⟨b, off, none⟩) (len + 1) cap) ∧ W.cell? ⟨b, off + 1, none⟩ = some (.int .i64 (at_ : Int)) ∧ now < at_
set_option maxHeartbeats 4000000 in
set_option maxRecDepth 100000 in
theorem due_in (F : Fence) (hF : Hid (F = Fence.wide)) (n : Nat) (hn : 1 ≤ n) (l bx g now D : Nat) (xs : Nat → Nat) (J J1 : Nat → World → Prop) (W : World)
    (hread : ∀ k W, J k W → W.cell? ⟨bx, 0, none⟩ = some (.pointer (some ⟨g, 0, none⟩)) ∧ W.cell? ⟨g, 1, none⟩ = some (.int .i64 (now : Int)) ∧ W.frozen? ⟨g, 2, none⟩ = false ∧ k ≤ D ∧ (k < D → Front g now (xs k) W (J1 k)) ∧ (k = D → Late g now W))
    (hd : ∀ k W m, J k W → J k (W.drewN m)) (hd1 : ∀ k W m, J1 k W → J1 k (W.drewN m))
    (hY : ∀ k W1, k < D → J1 k W1 → YieldAt F (n - 1) Tryz.prog l #[.int .i64 (xs k : Int)] W1 fun e W' => e = .returned (.bool true) ∧ J (k + 1) W')
    (h0 : J 0 W) :
    CallsIn F n Tryz.prog 155 #[.func (.yield l) #[] #[], .pointer (some ⟨bx, 0, none⟩)] W fun e W' => (∃ v, e = .returned v) ∧ J D W' := by
  have hfn : F.fn 155 := by rw [hF.out]; trivial
  have hnone : ∀ (f : FuncId), (none : Option FuncId) = some f → F.fn f := fun _ h => nomatch h
  have hro : F.round = none := by rw [hF.out]; rfl
  have HR := hidden hread
  have HD := hidden hd
  have HD1 := hidden hd1
  have HY := hidden hY
  clear hread hd hd1 hY
  refine callsIn_of_wp Tryz.func155 rfl hfn ?_ hro
  simp only [Tryz.ntmps155, List.size_toArray, List.length_cons, List.length_nil, Nat.reduceAdd, Nat.reduceSub, Array.replicate_succ, Array.replicate_zero, List.push_toArray, List.append_toArray, List.nil_append, List.cons_append]
  gi_wp2
  gi_loopg [3] D (fun gk xv wr => ∃ k : Nat, k + gk = D ∧ J k wr)
  case atStart => exact ⟨0, by omega, h0⟩
  case round =>
    clear h0
    obtain ⟨k, hkg, hj⟩ := hrel
    obtain ⟨cb, c1, cf, hkD, hlt, hend⟩ := HR.out k wr hj
    have HJ := hidden hj
    have HKG := hidden hkg
    clear hj hkg
    by_cases hk : k < D
    · obtain ⟨b, off, len, cap, at_, c2, hc1, hc2, e0, e1, hat, hj1⟩ := (hlt hk).it
      have hdec : decide ((at_ : Int) ≤ (now : Int)) = true := by rw [decide_eq_true_eq]; omega
      have hpos : decide ((0 : Int) < (len : Int) + 1) = true := by rw [decide_eq_true_eq]; omega
      gi_wp2
      refine lift_code hF ?_
      go_quiet (fail)
      gi_wp2
      refine lift_code hF ?_
      have hl1 : (1 : Int) ≤ (len : Int) + 1 := by omega
      have hl2 : (len : Int) + 1 ≤ (cap : Int) := by omega
      have hl3 : len + 1 ≤ cap := hc1
      have hlw : IntKind.i64.wrap (len : Int) = (len : Int) := Go.IntWalk.i64_in _ (by unfold maxLen at hc2; omega)
      have hJ1 : Hid (∀ m, J1 k (((wr.drewN m).setCell ⟨g, 2, none⟩ (.slice (if cap = 1 then some ⟨b, off, none⟩ else some ⟨b, off + 2, none⟩) len (cap - 1))))) := fun m => HD1.out k _ m hj1
      clear hj1 hdec hpos
      by_cases hcap : cap = 1
      · subst hcap
        obtain rfl : len = 0 := by omega
        simp only [if_true] at hJ1
        go_region
        have hj2 := hJ1.out (nq + 1)
        obtain ⟨fn, tmps, assign, body, hy, hR0⟩ := HY.out k _ hk hj2
        have HRd := hidden hR0
        clear hR0 hj2 c1 cf e0 e1 c2 cb HJ
        gi_wp2_with fail
        refine HRd.out.mono ?_
        rintro e W4 ⟨rfl, hj4⟩
        have HJ4 := hidden hj4
        clear hj4 HRd hy
        gi_wp2
        gi_roundg (D - (k + 1))
        case measure => have := HKG.out; omega
        case rel => exact ⟨k + 1, by omega, HJ4.out⟩
      · simp only [if_neg hcap] at hJ1
        go_region
        have hj2 := hJ1.out (nq + 1)
        obtain ⟨fn, tmps, assign, body, hy, hR0⟩ := HY.out k _ hk hj2
        have HRd := hidden hR0
        clear hR0 hj2 c1 cf e0 e1 c2 cb HJ
        gi_wp2_with fail
        refine HRd.out.mono ?_
        rintro e W4 ⟨rfl, hj4⟩
        have HJ4 := hidden hj4
        clear hj4 HRd hy
        gi_wp2
        gi_roundg (D - (k + 1))
        case measure => have := HKG.out; omega
        case rel => exact ⟨k + 1, by omega, HJ4.out⟩
    · obtain rfl : k = D := by omega
      rcases hend rfl with ⟨a0, cap, c2⟩ | ⟨b, off, len, cap, at_, c2, e1, hat⟩
      · have hpos : decide ((0 : Int) < 0) = false := by decide
        gi_wp2
        refine lift_code hF ?_
        go_quiet (fail)
        gi_wp2
        go_end0
        exact ⟨⟨_, rfl⟩, HD.out _ _ _ HJ.out⟩
      · have hdec : decide ((at_ : Int) ≤ (now : Int)) = false := by rw [decide_eq_false_iff_not]; omega
        have hpos : decide ((0 : Int) < (len : Int) + 1) = true := by rw [decide_eq_true_eq]; omega
        gi_wp2
        refine lift_code hF ?_
        go_quiet (fail)
        gi_wp2
        go_end0
        exact ⟨⟨_, rfl⟩, HD.out _ _ _ HJ.out⟩
end Go.Proofs.YtcnbbenmlffgpaaGreatDoor

/- What the queue and the row under way are while a tick's things are taken off. No condition. -/
namespace Go.Proofs.YtcnbbenmlffgpaaGreatDoor
open Go.RowKit

theorem Step.drewN {w w' : World} {H H' : HL} (h : Step H H' w w') (m : Nat) : Step H H' w (w'.drewN m) := ⟨h.sep.drewN m, ⟨h.chg.os, h.chg.tape, h.chg.output, h.chg.size, h.chg.block⟩, h.new⟩
theorem Step.cons {w w' : World} {p : Nat × (Obj → Prop)} {H H' : HL} (h : Sep w (p :: H)) (s : Step H H' w w') : Step (p :: H) (p :: H') w w' := by
  have := Step.frame [p] [] (by simpa using h) s
  simpa using this
/-- The queue with the first k taken off, j of them in the row under way; bx: the iterator's box, b0: the row's. -/
def tickH (g per now bx b0 : Nat) (ts : List (Nat × Nat)) (k j : Nat) (rv : OV) (ro : RV) : HL :=
  qhl g per now rv (ts.drop k) ++ (bx, isC 112 [ptr g]) :: (b0, isC 57 [lvOf ro j]) :: rowH ro 3 1 (ints ((ts.take j).map Prod.fst))
def TickS (H0 : HL) (w : World) (g per now bx b0 : Nat) (ts : List (Nat × Nat)) (k j : Nat) (W : World) : Prop :=
  ∃ rv ro, ovOk rv (ts.drop k).length ∧ rvOk ro j ∧ Step H0 (tickH g per now bx b0 ts k j rv ro) w W
theorem TickS.drewN {H0 : HL} {w W : World} {g per now bx b0 : Nat} {ts : List (Nat × Nat)} {k j : Nat} (h : TickS H0 w g per now bx b0 ts k j W) (m : Nat) : TickS H0 w g per now bx b0 ts k j (W.drewN m) := by
  obtain ⟨rv, ro, h1, h2, h3⟩ := h
  exact ⟨rv, ro, h1, h2, h3.drewN m⟩
theorem tickH_g (g per now bx b0 : Nat) (ts : List (Nat × Nat)) (k j : Nat) (rv : OV) (ro : RV) : (g, isC 185 [.int .i64 (per : Int), .int .i64 (now : Int), ovOf rv (ts.drop k).length]) ∈ tickH g per now bx b0 ts k j rv ro := by
  simp [tickH, qhl]
theorem take_snoc_map {ts : List (Nat × Nat)} {k : Nat} {x : Nat × Nat} (h : ts[k]? = some x) : (ts.take (k + 1)).map Prod.fst = (ts.take k).map Prod.fst ++ [x.1] := by
  have hk := List.getElem?_eq_some_iff.1 h
  rw [List.take_succ_eq_append_getElem hk.1, List.map_append, hk.2]; rfl
theorem drop_at {ts : List (Nat × Nat)} {k : Nat} {x : Nat × Nat} (h : ts[k]? = some x) : ts.drop k = x :: ts.drop (k + 1) := by
  have hk := List.getElem?_eq_some_iff.1 h
  rw [List.drop_eq_getElem_cons hk.1, hk.2]
/-- The front: the first of the queue is read, and taken off. -/
theorem TickS.front {H0 : HL} {w W : World} {g per now bx b0 : Nat} {ts : List (Nat × Nat)} {k j : Nat} (h : TickS H0 w g per now bx b0 ts k j W) {x : Nat × Nat} (hx : ts[k]? = some x) (hd : x.2 ≤ now) : Front g now x.1 W (TickS H0 w g per now bx b0 ts (k + 1) j) := by
  obtain ⟨rv, ro, h1, h2, st⟩ := h
  have hdr := drop_at hx
  obtain ⟨b, off, cap, rfl⟩ : ∃ b off cap, rv = some (b, off, cap) := by
    cases rv with
    | none => rw [hdr] at h1; exact absurd h1 (by simp [ovOk])
    | some q => exact ⟨q.1, q.2.1, q.2.2, rfl⟩
  have hc := st.sep.cells (tickH_g g per now bx b0 ts k j (some (b, off, cap)) ro)
  have hlen : (ts.drop k).length = (ts.drop (k + 1)).length + 1 := by rw [hdr]; rfl
  rw [hlen] at h1 hc
  obtain ⟨n, hn⟩ : ∃ n, n = (ts.drop (k + 1)).length := ⟨_, rfl⟩
  have htc : tcells (ts.drop k) = [.int .i64 (x.1 : Int), .int .i64 (x.2 : Int)] ++ tcells (ts.drop (k + 1)) := by rw [hdr]; rfl
  -- the row ahead
  have e1 : tickH g per now bx b0 ts k j (some (b, off, cap)) ro = (g, isC 185 [.int .i64 (per : Int), .int .i64 (now : Int), ovOf (some (b, off, cap)) ((ts.drop (k + 1)).length + 1)]) :: (ovH (some (b, off, cap)) 200 2 ([.int .i64 (x.1 : Int), .int .i64 (x.2 : Int)] ++ tcells (ts.drop (k + 1))) ++ ((bx, isC 112 [ptr g]) :: (b0, isC 57 [lvOf ro j]) :: rowH ro 3 1 (ints ((ts.take j).map Prod.fst)))) := by
    unfold tickH qhl
    rw [hlen, htc]; rfl
  rw [e1] at st
  obtain ⟨R, hR⟩ : ∃ R : HL, R = ((bx, isC 112 [ptr g]) :: (b0, isC 57 [lvOf ro j]) :: rowH ro 3 1 (ints ((ts.take j).map Prod.fst))) := ⟨_, rfl⟩
  rw [← hR] at st
  have sR := st.sep.tail
  have cell : ∀ i v, ([.int .i64 (x.1 : Int), .int .i64 (x.2 : Int)] ++ tcells (ts.drop (k + 1)))[i]? = some v → W.cell? ⟨b, off + i, none⟩ = some v := fun i v hv => ov_cell sR.left i v hv
  obtain ⟨hcap, hmax⟩ := h1
  refine ⟨b, off, n, cap, x.2, ?_, by omega, hmax, cell 0 _ rfl, cell 1 _ rfl, hd, ?_⟩
  · rw [hn]; exact hc.cell 2 _ rfl
  · -- taken off
    have key : ∀ rv', Step (ovH (some (b, off, cap)) 200 2 ([.int .i64 (x.1 : Int), .int .i64 (x.2 : Int)] ++ tcells (ts.drop (k + 1))) ++ R) (ovH rv' 200 2 (tcells (ts.drop (k + 1))) ++ R) W W → ovOk rv' (ts.drop (k + 1)).length →
        TickS H0 w g per now bx b0 ts (k + 1) j (W.setCell ⟨g, 2, none⟩ (ovOf rv' (ts.drop (k + 1)).length)) := fun rv' s hok => by
      have s2 := Step.cons st.sep s
      have s23 := s2.trans (Sep.set (A := []) s2.sep 2 (ovOf rv' (ts.drop (k + 1)).length))
      refine ⟨rv', ro, hok, h2, ?_⟩
      have := st.trans s23
      unfold tickH qhl
      rw [← hR]
      exact this
    by_cases hc1 : cap = 1
    · subst hc1
      have h0 : (ts.drop (k + 1)).length = 0 := by omega
      have hnil : ts.drop (k + 1) = [] := List.eq_nil_of_length_eq_zero h0
      have := key (some (b, off, 0)) (by
        rw [hnil]
        have := ov_tail1 (w := W) (B := R) (g := b) (off := off) (T := 200) (size := 2) (x := [.int .i64 (x.1 : Int), .int .i64 (x.2 : Int)]) (by rw [hnil] at sR; simpa [tcells] using sR)
        simpa [tcells] using this) (by rw [h0]; exact ⟨Nat.le_refl _, by unfold maxLen; omega⟩)
      rw [if_pos rfl, hn]
      exact this
    · have := key (some (b, off + 2, cap - 1)) (ov_tail sR rfl (by omega)) ⟨by omega, by omega⟩
      rw [if_neg hc1, hn]
      exact this
theorem TickS.late {H0 : HL} {w W : World} {g per now bx b0 : Nat} {ts : List (Nat × Nat)} {k j : Nat} (h : TickS H0 w g per now bx b0 ts k j W) (hd : ∀ x, ts[k]? = some x → now < x.2) : Late g now W := by
  obtain ⟨rv, ro, h1, h2, st⟩ := h
  have hc := (st.sep.cells (tickH_g g per now bx b0 ts k j rv ro)).cell 2 _ rfl
  cases hx : ts[k]? with
  | none =>
    have hl : (ts.drop k).length = 0 := by
      have := List.getElem?_eq_none_iff.1 hx
      rw [List.length_drop]; omega
    rw [hl] at hc
    left
    cases rv with
    | none => exact ⟨_, _, hc⟩
    | some q => exact ⟨_, _, hc⟩
  | some x =>
    right
    have hdr := drop_at hx
    obtain ⟨b, off, cap, rfl⟩ : ∃ b off cap, rv = some (b, off, cap) := by
      cases rv with
      | none => rw [hdr] at h1; exact absurd h1 (by simp [ovOk])
      | some q => exact ⟨q.1, q.2.1, q.2.2, rfl⟩
    have hlen : (ts.drop k).length = (ts.drop (k + 1)).length + 1 := by rw [hdr]; rfl
    rw [hlen] at hc
    have htc : tcells (ts.drop k) = [.int .i64 (x.1 : Int), .int .i64 (x.2 : Int)] ++ tcells (ts.drop (k + 1)) := by rw [hdr]; rfl
    refine ⟨b, off, _, cap, x.2, hc, ?_, hd x hx⟩
    have hs : Sep W (ovH (some (b, off, cap)) 200 2 (tcells (ts.drop k))) := st.sep.sub (by
      unfold tickH qhl
      exact (List.sublist_append_left _ _).trans ((List.Sublist.refl _).trans (List.sublist_cons_self _ _) |>.append_right _ |>.trans (List.Sublist.refl _)))
    exact ov_cell hs 1 _ (by rw [htc]; rfl)
/-- One more in the row. -/
theorem TickS.row {H0 : HL} {w W : World} {g per now bx b0 : Nat} {ts : List (Nat × Nat)} {k : Nat} (h : TickS H0 w g per now bx b0 ts (k + 1) k W) {x : Nat × Nat} (hx : ts[k]? = some x) (o : Obj) :
    ∃ v, W.cell? ⟨b0, 0, none⟩ = some v ∧ W.frozen? ⟨b0, 0, none⟩ = false ∧ (W.alloc o).ownsRow 0 3 1 v k (ints ((ts.take k).map Prod.fst)) ∧ ∀ v' W1, W1.ownsRow 0 3 1 v' (k + 1) (ints ((ts.take k).map Prod.fst) ++ [.int .i64 (x.1 : Int)]) → (W.alloc o).grownBy W1 v.ownBlock → (v'.ownBlock = v.ownBlock ∨ v'.ownBlock = some (W.alloc o).heap.size) →
      (∃ u, W1.cell? ⟨b0, 0, none⟩ = some u) ∧ W1.frozen? ⟨b0, 0, none⟩ = false ∧ TickS H0 w g per now bx b0 ts (k + 1) (k + 1) (W1.setCell ⟨b0, 0, none⟩ v') := by
  obtain ⟨rv, ro, h1, h2, st⟩ := h
  have hk := (List.getElem?_eq_some_iff.1 hx).1
  have hc := (st.sep.cells (b := b0) (T := 57) (cs := [lvOf ro k]) (by simp [tickH]))
  have hl : (ints ((ts.take k).map Prod.fst)).length = k * 1 := by simp [ints]; omega
  have sA := st.sep.alloc o
  obtain ⟨A, hA⟩ : ∃ A : HL, A = qhl g per now rv (ts.drop (k + 1)) ++ [(bx, isC 112 [ptr g]), (b0, isC 57 [lvOf ro k])] := ⟨_, rfl⟩
  have e1 : tickH g per now bx b0 ts (k + 1) k rv ro = A ++ rowH ro 3 1 (ints ((ts.take k).map Prod.fst)) ++ [] := by
    rw [hA]; unfold tickH; simp
  have hrow := row_owns ((e1 ▸ sA).left.right) h2 hl
  refine ⟨lvOf ro k, hc.cell 0 _ rfl, hc.free 0, hrow, fun v' W1 ho hg hb => ?_⟩
  obtain ⟨ro', rfl, hok', s2⟩ := row_appended (A := A) (B := []) (e1 ▸ sA) ho hg hb
  have hc2 := s2.sep.cells (b := b0) (T := 57) (cs := [lvOf ro k]) (by rw [hA]; simp)
  refine ⟨⟨_, hc2.cell 0 _ rfl⟩, hc2.free 0, rv, ro', h1, hok', ?_⟩
  have s1 : Step H0 (A ++ rowH ro 3 1 (ints ((ts.take k).map Prod.fst)) ++ []) w (W.alloc o) := by
    rw [← e1]; exact st.trans (st.sep.grown ((Below.refl _ _).alloc (Nat.le_refl _) o))
  have s12 := s1.trans s2
  have s3 := Sep.set (A := qhl g per now rv (ts.drop (k + 1)) ++ [(bx, isC 112 [ptr g])]) (b := b0) (T := 57) (cs := [lvOf ro k]) (B := rowH ro' 3 1 (ints ((ts.take k).map Prod.fst) ++ [.int .i64 (x.1 : Int)])) (by rw [hA] at s12; simpa using s12.sep) 0 (lvOf ro' (k + 1))
  have s4 := (s12.perm (List.Perm.refl _) (K' := qhl g per now rv (ts.drop (k + 1)) ++ [(bx, isC 112 [ptr g])] ++ (b0, isC 57 [lvOf ro k]) :: rowH ro' 3 1 (ints ((ts.take k).map Prod.fst) ++ [.int .i64 (x.1 : Int)])) (by rw [hA]; simp)).trans s3
  have e5 : ints ((ts.take (k + 1)).map Prod.fst) = ints ((ts.take k).map Prod.fst) ++ [.int .i64 (x.1 : Int)] := by
    rw [take_snoc_map hx]; simp [ints]
  unfold tickH
  rw [e5]
  simpa using s4
end Go.Proofs.YtcnbbenmlffgpaaGreatDoor

/- A range over an iterator that turns memory of its own: the law, over a state that the rounds and the iterator hand to one another. No condition. -/
namespace Go.Proofs.YtcnbbenmlffgpaaGreatDoor
open Go.RowKit

/-- What the loop keeps of itself: its record, the block for what rounds defer. -/
def Bk (r : Loop) (D : Nat) (W : World) : Prop := W.heap[D + 1]? = some (.loop r) ∧ W.heap[D]? = some (.deferred (some []))
theorem Bk.set {r : Loop} {D : Nat} {W : World} (h : Bk r D W) {g : Nat} (hg : g < D) (i : Nat) (v : Value) : Bk r D (W.setCell ⟨g, i, none⟩ v) :=
  ⟨(Below.heap_setCell _ _ _ _ (fun e => by have e' : D + 1 = g := e; omega)).trans h.1, (Below.heap_setCell _ _ _ _ (fun e => by have e' : D = g := e; omega)).trans h.2⟩
theorem range_state {F : Fence} {n : Nat} {P : Program} {g : Operand} {ps : Array Tmp} {assign body : Code} {Q : Exit → Act → World → Prop} {a : Act} {w : World}
    (hro : F.round = none) (h1 : 1 ≤ n) {gf : Nat} {lb : Array Value} (hg : a.eval g = .func (.func gf) #[] lb) (hFg : F.fn gf) (eg : ∀ args w, (callFunc gf args).run P w = .ok (.enter gf args) w)
    {enc : Nat → Array Value} (hps : ∀ k, (enc k).size = ps.size) (T T1 : Nat → World → Prop) (N : Nat)
    (hT : ∀ k W l o', T k W → w.heap.size ≤ l → (∃ o : Obj, W.heap[l]? = some o ∧ o.isCells = false) → T k (W.putObj l o')) (hT1 : ∀ k W l o', T1 k W → w.heap.size ≤ l → (∃ o : Obj, W.heap[l]? = some o ∧ o.isCells = false) → T1 k (W.putObj l o')) (hTa : ∀ W o, T 0 W → T 0 (W.alloc o))
    (hiter : ∀ (r : Loop) (D : Nat) (W : World), w.heap.size ≤ D → T 0 W → Bk r D W →
      (∀ k W1, k < N → T1 k W1 → Bk r D W1 → YieldAt F (n - 1 - 1) P (D + 1) (enc k) W1 fun e W' => e = .returned (.bool true) ∧ T (k + 1) W' ∧ Bk r D W') →
      CallsIn F (n - 1) P gf (#[.func (.yield (D + 1)) #[] #[]] ++ lb) W fun e W' => (∃ v, e = .returned v) ∧ T N W' ∧ Bk r D W')
    (h0 : T 0 w) (a₁ : Nat → Act)
    (hassign : ∀ (l k : Nat) (W : World) (K : Act → World → Prop), K (a₁ k) W →
      assign.wpIn (F.inRound l) (n - 1 - 1) P (Exit.then K (fun _ _ _ => False)) { tmps := (ps.zip (enc k)).foldl (fun t (p, v) => t.setIfInBounds p v) a.tmps, defers := [] } W)
    (hbody : ∀ (l k : Nat) (W : World), T1 k W → k < N → body.wpIn (F.inRound l) (n - 1 - 1) P (fun e _ W' => e = .normal ∧ KeepsFrom w.heap.size W W' ∧ T (k + 1) W') (a₁ k) W)
    (hdone : ∀ (D : Nat) (W : World), w.heap.size ≤ D → T N W → W.heap[D]? = some (.deferred (some [])) → Q .normal { a with defers := { target := .collected D, args := #[] } :: a.defers } W) :
    (Code.rangeFunc g ps assign body).wpIn F n P Q a w := by
  refine wpIn_rangeFunc fun fn hfn => ?_
  rw [hro]
  let r : LoopState → Loop := fun st => { state := st, pending := none, fn, tmps := a.tmps, params := ps, assign, body, defers := w.heap.size }
  let W1 : World := (w.alloc (.deferred (some []))).alloc (.loop (r .ready))
  have bk1 : Bk (r .ready) w.heap.size W1 := by
    constructor
    · have := World.alloc_heap_new (w.alloc (.deferred (some []))) (.loop (r .ready))
      rwa [World.size_alloc] at this
    · exact (Below.heap_alloc _ _ _ (by simp)).trans (World.alloc_heap_new w _)
  refine ⟨w.heap.size + 1, [{ target := .collected w.heap.size, args := #[] }], W1, { target := .fn (.func gf) lb, args := #[.func (.yield (w.heap.size + 1)) #[] #[]] }, W1, gf,
    #[.func (.yield (w.heap.size + 1)) #[] #[]] ++ lb, W1, run_enterLoop_outer _ _ _ _ _, ?_, ?_, ?_, fun _ => h1, ?_⟩
  · simp only [resolve, hg]
    simp [go_sem]
  · intro f' hf'
    simp [Target.leads] at hf'
    subst hf'
    exact hFg
  · simp [invoke, go_sem, eg]
  refine (hiter (r .ready) w.heap.size W1 (Nat.le_refl _) (hTa _ _ (hTa _ _ h0)) bk1 ?_).mono ?_
  · -- a round
    intro k W hk ht bk
    have hlt : w.heap.size + 1 < W.heap.size := (Array.getElem?_eq_some_iff.1 bk.1).1
    refine ⟨fn, _, assign, body, run_yield bk.1 (hps k), roundIn_of_wpIn hfn (hassign _ k W _ ⟨_, run_beginRound bk.1 rfl, ?_⟩)⟩
    let W2 : World := W.putObj (w.heap.size + 1) (.loop (r .busy))
    have bk2 : Bk (r .busy) w.heap.size W2 := ⟨World.putObj_heap_same hlt, (World.putObj_heap_other (by omega)).trans bk.2⟩
    have ht2 : T1 k W2 := hT1 k W _ _ ht (by omega) ⟨_, bk.1, rfl⟩
    refine wpIn_mono (hbody _ k W2 ht2 hk) ?_
    rintro e a3 W3 ⟨rfl, hk3, ht3⟩
    have bk3 : Bk (r .busy) w.heap.size W3 := ⟨hk3.same _ _ (by omega) bk2.1 rfl, hk3.same _ _ (Nat.le_refl _) bk2.2 rfl⟩
    refine ⟨_, _, run_endRound none bk3.1, rfl, hT _ _ _ _ ht3 (by omega) ⟨_, bk3.1, rfl⟩, World.putObj_heap_same (Array.getElem?_eq_some_iff.1 bk3.1).1, (World.putObj_heap_other (by omega)).trans bk3.2⟩
  · rintro e W2 ⟨⟨v, rfl⟩, ht, bk⟩
    exact ⟨none, _, run_endLoop bk.1 (by simp [r]), hdone _ _ (Nat.le_refl _) (hT _ _ _ _ ht (by omega) ⟨_, bk.1, rfl⟩) ((World.putObj_heap_other (by omega)).trans bk.2)⟩
end Go.Proofs.YtcnbbenmlffgpaaGreatDoor

/- Walk of the queue's Tick. Conditions: the queue's blocks hold what qhl says. -/
namespace Go.Proofs.YtcnbbenmlffgpaaGreatDoor
open Go.RowKit

attribute [local go_sem] Oper.semAt_some

set_option maxHeartbeats 400000 in
theorem due_make (c : Nat) (w : World) : Calls Tryz.prog 109 #[.pointer (some ⟨c, 0, none⟩)] w fun r w' =>
    r = .returned (.func (.func 155) #[] #[.pointer (some ⟨w.heap.size, 0, none⟩)]) ∧ w' = w.alloc (.cells #[.pointer (some ⟨c, 0, none⟩)] 112) := by
  go_enter Tryz.func109, Tryz.ntmps109
  go_wp2
  go_ret
  exact ⟨rfl, rfl⟩
/-- How many are due. -/
def dueK (now : Nat) (ts : List (Nat × Nat)) : Nat := (ts.takeWhile fun x => decide (x.2 ≤ now)).length
theorem dueK_take (now : Nat) (ts : List (Nat × Nat)) : ts.take (dueK now ts) = ts.takeWhile (fun x => decide (x.2 ≤ now)) := by
  have h : ts.takeWhile (fun x => decide (x.2 ≤ now)) ++ ts.dropWhile (fun x => decide (x.2 ≤ now)) = ts := List.takeWhile_append_dropWhile
  unfold dueK
  conv => lhs; rw [← h]
  rw [List.take_append_of_le_length (by simp [h]), h, List.take_length]
def GTickP (g per now : Nat) (rv : OV) (ts : List (Nat × Nat)) (w : World) (r : Ending) (w' : World) : Prop :=
  ∃ rv' ro bx b0, r = .returned (lvOf ro (dueK now ts)) ∧ ovOk rv' (ts.drop (dueK now ts)).length ∧ rvOk ro (dueK now ts) ∧ Step (qhl g per (now - 1) rv ts) (tickH g per now bx b0 ts (dueK now ts) (dueK now ts) rv' ro) w w'
theorem dueK_le (now : Nat) (ts : List (Nat × Nat)) : dueK now ts ≤ ts.length := by
  have h : ts.takeWhile (fun x => decide (x.2 ≤ now)) ++ ts.dropWhile (fun x => decide (x.2 ≤ now)) = ts := List.takeWhile_append_dropWhile
  have := congrArg List.length h
  rw [List.length_append] at this
  unfold dueK; omega
theorem dueK_lt {now : Nat} {ts : List (Nat × Nat)} {k : Nat} {x : Nat × Nat} (hk : k < dueK now ts) (hx : ts[k]? = some x) : x.2 ≤ now := by
  have h : (ts.take (dueK now ts))[k]? = some x := by rw [List.getElem?_take, if_pos hk]; exact hx
  rw [dueK_take] at h
  have := List.mem_of_getElem? h
  have hm : ∀ (l : List (Nat × Nat)), ∀ y ∈ l.takeWhile (fun x => decide (x.2 ≤ now)), y.2 ≤ now := by
    intro l
    induction l with
    | nil => simp
    | cons z r ih =>
      intro y hy
      rw [List.takeWhile_cons] at hy
      split at hy
      · rename_i hc
        rcases List.mem_cons.1 hy with rfl | hy
        · simpa using hc
        · exact ih y hy
      · cases hy
  exact hm _ _ this
theorem dueK_end {now : Nat} {ts : List (Nat × Nat)} (hord : ts.Pairwise (fun a b => a.2 ≤ b.2)) {x : Nat × Nat} (hx : ts[dueK now ts]? = some x) : now < x.2 := by
  have h : ts.takeWhile (fun x => decide (x.2 ≤ now)) ++ ts.dropWhile (fun x => decide (x.2 ≤ now)) = ts := List.takeWhile_append_dropWhile
  rw [← h] at hx
  unfold dueK at hx
  rw [List.getElem?_append_right (by rw [h]; exact Nat.le_refl _)] at hx
  exact dueT_late hord now x (List.mem_of_getElem? hx)
theorem tickH_cells {W : World} {g per now bx b0 : Nat} {ts : List (Nat × Nat)} {k j : Nat} {rv : OV} {ro : RV} (h : Sep W (tickH g per now bx b0 ts k j rv ro)) {b : Nat} (hb : b ∈ keys (tickH g per now bx b0 ts k j rv ro)) : ∃ cs T f, W.heap[b]? = some (.cells cs T f) := by
  obtain ⟨p, hp, rfl⟩ := List.mem_map.1 hb
  obtain ⟨o, ho, hq⟩ := h.at' p hp
  have key : (∃ T cs, p.2 = isC T cs) ∨ (∃ T n cs, p.2 = isR T n cs) ∨ (∃ T m off cs, p.2 = isS T m off cs) := by
    unfold tickH qhl at hp
    simp only [List.cons_append, List.mem_cons, List.mem_append] at hp
    rcases hp with rfl | hp | rfl | rfl | hp
    · exact .inl ⟨_, _, rfl⟩
    · cases rv with
      | none => cases hp
      | some q =>
        simp only [ovH, List.mem_cons, List.not_mem_nil, or_false] at hp
        subst hp; exact .inr (.inr ⟨_, _, _, _, rfl⟩)
    · exact .inl ⟨_, _, rfl⟩
    · exact .inl ⟨_, _, rfl⟩
    · cases ro with
      | none => cases hp
      | some q =>
        simp only [rowH, List.mem_cons, List.not_mem_nil, or_false] at hp
        subst hp; exact .inr (.inl ⟨_, _, _, rfl⟩)
  rcases key with ⟨T, cs, e⟩ | ⟨T, n, cs, e⟩ | ⟨T, m, off, cs, e⟩
  · rw [e] at hq; subst hq; exact ⟨_, _, _, ho⟩
  · rw [e] at hq; obtain ⟨cur, rfl, _⟩ := hq; exact ⟨_, _, _, ho⟩
  · rw [e] at hq; obtain ⟨cur, rfl, _⟩ := hq; exact ⟨_, _, _, ho⟩
theorem tick_put {H0 : HL} {w W : World} {g per now bx b0 : Nat} {ts : List (Nat × Nat)} {k j : Nat} {rv : OV} {ro : RV} (st : Step H0 (tickH g per now bx b0 ts k j rv ro) w W) {l : Nat} (o' : Obj) (hl : w.heap.size ≤ l) (hgb : GB ≤ w.heap.size) (ho : ∃ o : Obj, W.heap[l]? = some o ∧ o.isCells = false) : Step H0 (tickH g per now bx b0 ts k j rv ro) w (W.putObj l o') := by
  obtain ⟨o, ho, hoc⟩ := ho
  have hn : l ∉ keys (tickH g per now bx b0 ts k j rv ro) := fun hb => by
    obtain ⟨cs, T, f, hc⟩ := tickH_cells st.sep hb
    rw [hc] at ho; cases ho; cases hoc
  have hne : ∀ b, b ≠ l → (W.putObj l o').heap[b]? = W.heap[b]? := fun b hb => World.putObj_heap_other hb
  refine ⟨st.sep.same (fun b hb => hne b (fun e => hn (e ▸ hb))) (st.sep.env.same (fun b hb => hne b (by omega)) (by have := st.sep.env.gb; simpa [World.putObj] using this)), ?_, st.new⟩
  exact ⟨st.chg.os, st.chg.tape, st.chg.output, by have := st.chg.size; simpa [World.putObj] using this, fun b hb hF => (hne b (by omega)).trans (st.chg.block b hb hF)⟩
theorem TickS.put {H0 : HL} {w W : World} {g per now bx b0 : Nat} {ts : List (Nat × Nat)} {k j : Nat} (h : TickS H0 w g per now bx b0 ts k j W) {l : Nat} (o' : Obj) (hl : w.heap.size ≤ l) (hgb : GB ≤ w.heap.size) (ho : ∃ o : Obj, W.heap[l]? = some o ∧ o.isCells = false) : TickS H0 w g per now bx b0 ts k j (W.putObj l o') := by
  obtain ⟨rv, ro, h1, h2, st⟩ := h
  exact ⟨rv, ro, h1, h2, tick_put st o' hl hgb ho⟩
theorem keeps_row {W w1 : World} {B b0 n : Nat} {T : TypeId} {v v' : Value} {xs : List Value} {o : Obj} (hrow : (W.alloc o).ownsRow 0 T 1 v n xs) (hg : (W.alloc o).grownBy w1 v.ownBlock) (hb : b0 < B) : KeepsFrom B W (w1.setCell ⟨b0, 0, none⟩ v') := by
  refine ⟨by have := hg.size; simp at this; simp [World.setCell]; omega, fun k o2 hB hk hoc => ?_⟩
  have hlt := (Array.getElem?_eq_some_iff.1 hk).1
  refine (Below.heap_setCell _ _ _ _ (fun e => by have e' : k = b0 := e; omega)).trans ?_
  have hk' : (W.alloc o).heap[k]? = some o2 := (Below.heap_alloc _ _ _ hlt).trans hk
  refine (hg.block k (by simp; omega) (fun e => ?_)).trans hk'
  rcases hrow.2 with ⟨rfl, _⟩ | ⟨g, cap, cur, rfl, _, hgb, _⟩
  · cases e
  · have : k = g := by simpa [Value.ownBlock] using e
    subst this
    rw [hgb] at hk'; cases hk'; cases hoc
set_option maxRecDepth 100000 in
set_option maxHeartbeats 4000000 in
theorem gtick_in (F : Fence) (hF : Hid (F = Fence.wide)) (n : Nat) (hn : 4 ≤ n) {w : World} {g per now : Nat} {rv : OV} {ts : List (Nat × Nat)} (h : Sep w (qhl g per now rv ts)) (hok : ovOk rv ts.length) (hl : ts.length ≤ 256) (hnow : now < 1048576) (hord : ts.Pairwise (fun a b => a.2 ≤ b.2)) :
    CallsIn F n Tryz.prog 65 #[.pointer (some ⟨g, 0, none⟩)] w (GTickP g per (now + 1) rv ts w) := by
  have h1 : F.fn 65 := by rw [hF.out]; trivial
  have h2 : F.fn 155 := by rw [hF.out]; trivial
  have h3 : F.fn 109 := by rw [hF.out]; trivial
  have hro : F.round = none := by rw [hF.out]; rfl
  have hn1 : 1 ≤ n := by omega
  obtain ⟨i0, hi, hz0, hz1, hz2⟩ := info_parts Tryz.infoint
  have hc : Cells w g 185 [.int .i64 (per : Int), .int .i64 (now : Int), ovOf rv ts.length] := h.cells (by simp [qhl])
  have c1 := hc.cell 1 _ rfl
  have f1 := hc.free 1
  have hlt := hc.lt
  have hw : IntKind.i64.wrap ((now : Int) + 1) = (now : Int) + 1 := Go.IntWalk.i64_in _ (by omega)
  have hw2 : wrap64 ((now : Int) + 1) = (now : Int) + 1 := Go.IntWalk.wrap64_in _ (by omega)
  obtain ⟨W5, hW5⟩ : ∃ W5, W5 = (((w.setCell ⟨g, 1, none⟩ (.int .i64 ((now : Int) + 1))).alloc (.cells #[.slice none 0 0] 57)).alloc (.cells #[.pointer (some ⟨g, 0, none⟩)] 112)) := ⟨_, rfl⟩
  have hsz : (w.setCell ⟨g, 1, none⟩ (.int .i64 ((now : Int) + 1))).heap.size = w.heap.size := by simp [World.setCell]
  have T0 : Hid (TickS (qhl g per now rv ts) w g per (now + 1) (w.heap.size + 1) w.heap.size ts 0 0 W5 ∧ W5.heap.size = w.heap.size + 2) := by
    have s1 : Step (qhl g per now rv ts) (qhl g per (now + 1) rv ts) w (w.setCell ⟨g, 1, none⟩ (.int .i64 ((now : Int) + 1))) := by
      have := Sep.set (A := []) (B := ovH rv 200 2 (tcells ts)) h 1 (.int .i64 ((now : Int) + 1))
      exact this
    have s2 := s1.sep.new 57 [.slice none 0 0]
    rw [hsz] at s2
    have s3 := s2.sep.new 112 [.pointer (some ⟨g, 0, none⟩)]
    rw [World.size_alloc, hsz] at s3
    have s4 := (s1.trans s2).trans s3
    rw [hW5]
    refine ⟨⟨rv, none, hok, rfl, s4.perm (List.Perm.refl _) ?_⟩, by simp [World.setCell]⟩
    unfold tickH
    show List.Perm (_ :: _ :: qhl g per (now + 1) rv ts) (qhl g per (now + 1) rv ts ++ _ :: _ :: [])
    refine (List.perm_append_comm (l₁ := [_, _]) (l₂ := qhl g per (now + 1) rv ts)).trans ?_
    exact List.Perm.refl _
  clear hsz
  refine callsIn_of_wp_marks Tryz.func65 rfl h1 ?_ hro
  simp only [Tryz.ntmps65, List.size_toArray, List.length_cons, List.length_nil, Nat.reduceAdd, Nat.reduceSub, Array.replicate_succ, Array.replicate_zero, List.push_toArray, List.append_toArray, List.nil_append, List.cons_append]
  gi_wp2_with (gi_at_call 109; refine (lift_in hF (due_make g _)).mono ?_; rintro e w' ⟨rfl, rfl⟩)
  rw [← hW5]
  clear hW5
  have hgb := h.env.gb
  have hD5 := T0.out.2
  have hKl := dueK_le (now + 1) ts
  have hat : ∀ k, k < dueK (now + 1) ts → ∃ x, ts[k]? = some x := fun k hk => ⟨_, List.getElem?_eq_getElem (by omega)⟩
  refine range_state hro hn1 (gf := 155) (lb := #[.pointer (some ⟨w.heap.size + 1, 0, none⟩)]) rfl h2 (enters_of Tryz.func155 (by kernel_rfl) rfl)
    (enc := fun k => #[.int .i64 (((ts[k]?.getD (0, 0)).1 : Nat) : Int)]) (fun _ => rfl)
    (fun k W => k ≤ dueK (now + 1) ts ∧ TickS (qhl g per now rv ts) w g per (now + 1) (w.heap.size + 1) w.heap.size ts k k W)
    (fun k W => k < dueK (now + 1) ts ∧ TickS (qhl g per now rv ts) w g per (now + 1) (w.heap.size + 1) w.heap.size ts (k + 1) k W)
    (dueK (now + 1) ts)
    (fun k W l o' ht hl ho => ⟨ht.1, ht.2.put o' (by omega) hgb ho⟩) (fun k W l o' ht hl ho => ⟨ht.1, ht.2.put o' (by omega) hgb ho⟩)
    (fun W o ht => ⟨ht.1, by obtain ⟨a1, a2, a3, a4, st⟩ := ht.2; exact ⟨a1, a2, a3, a4, st.trans (st.sep.grown ((Below.refl _ _).alloc (Nat.le_refl _) o))⟩⟩)
    ?iter ⟨Nat.zero_le _, T0.out.1⟩
    (fun k => { tmps := #[.pointer (some ⟨g, 0, none⟩), undef, .slice none 0 0, .pointer (some ⟨w.heap.size, 0, none⟩), .int .i64 (((ts[k]?.getD (0, 0)).1 : Nat) : Int), .pointer (some ⟨g, 0, none⟩), .bool false, .pointer (some ⟨g, 0, none⟩), .pointer (some ⟨g, 0, none⟩), .pointer (some ⟨g, 1, none⟩), .int .i64 (now : Int), .int .i64 ((now : Int) + 1), .pointer (some ⟨g, 0, none⟩), .pointer (some ⟨g, 1, none⟩), .pointer (some ⟨g, 0, none⟩), .func (.func 155) #[] #[.pointer (some ⟨w.heap.size + 1, 0, none⟩)], .int .i64 (((ts[k]?.getD (0, 0)).1 : Nat) : Int), undef, undef, undef, undef, undef], defers := [] }) ?assign ?body ?done
  case iter =>
    intro r D W hD ht bk hy
    refine due_in F hF (n - 1) (by omega) (D + 1) (w.heap.size + 1) g (now + 1) (dueK (now + 1) ts) (fun k => (ts[k]?.getD (0, 0)).1)
      (fun k W => (k ≤ dueK (now + 1) ts ∧ TickS (qhl g per now rv ts) w g per (now + 1) (w.heap.size + 1) w.heap.size ts k k W) ∧ Bk r D W)
      (fun k W => (k < dueK (now + 1) ts ∧ TickS (qhl g per now rv ts) w g per (now + 1) (w.heap.size + 1) w.heap.size ts (k + 1) k W) ∧ Bk r D W) W
      (fun k W hj => ?_) (fun k W m hj => ⟨⟨hj.1.1, hj.1.2.drewN m⟩, hj.2⟩) (fun k W m hj => ⟨⟨hj.1.1, hj.1.2.drewN m⟩, hj.2⟩) (fun k W1 hk hj => hy k W1 hk hj.1 hj.2) ⟨ht, bk⟩
    obtain ⟨⟨hk, hts⟩, hbk⟩ := hj
    obtain ⟨rv', ro', q1, q2, st⟩ := hts
    have hcg := st.sep.cells (tickH_g g per (now + 1) (w.heap.size + 1) w.heap.size ts k k rv' ro')
    have hcb := st.sep.cells (b := w.heap.size + 1) (T := 112) (cs := [ptr g]) (by simp [tickH])
    refine ⟨hcb.cell 0 _ rfl, hcg.cell 1 _ (by rw [Int.natCast_add]; rfl), hcg.free 2, hk, fun hlt' => ?_, fun e => ?_⟩
    · obtain ⟨x, hx⟩ := hat k hlt'
      have hfr := TickS.front ⟨rv', ro', q1, q2, st⟩ hx (dueK_lt hlt' hx)
      obtain ⟨b, off, len, cap, at_, p1, p2, p3, p4, p5, p6, p7⟩ := hfr.it
      have hxe : (ts[k]?.getD (0, 0)).1 = x.1 := by rw [hx]; rfl
      exact ⟨b, off, len, cap, at_, p1, p2, p3, by rw [hxe]; exact p4, p5, p6, ⟨⟨hlt', p7⟩, hbk.set (by omega) 2 _⟩⟩
    · exact TickS.late ⟨rv', ro', q1, q2, st⟩ fun x hx => dueK_end hord (by rw [← e]; exact hx)
  case assign =>
    intro l k W K hK
    dsimp only at hK ⊢
    generalize (ts[k]?.getD (0, 0)).1 = x at *
    gi_wp2
    exact hK
  case body =>
    rintro l k W ⟨hk, ht⟩ _
    obtain ⟨x, hx⟩ := hat k hk
    have hxe : (ts[k]?.getD (0, 0)).1 = x.1 := by rw [hx]; rfl
    rw [hxe]
    obtain ⟨v, c0, f0, hrow, hfin⟩ := ht.row hx (.cells #[.int .i64 (x.1 : Int)] 3)
    have HFin := hidden hfin
    have hk256 : k ≤ 256 := by omega
    clear hfin ht h hc c1 f1 hok hord T0 hat
    gi_wp2_with (gi_at_builtin; refine wpListIn_append_own_at _ rfl _ _ 57 rfl 0 3 i0 (.int .i64 0) 1 8 Tryz.underlying57 hi hz0 hz1 hz2 rfl (by decide) _ _ _ rfl hrow ⟨W.heap.size, 0, none⟩ 1 1 [.int .i64 (x.1 : Int)] rfl rfl (cell_one_new _ _ _) (by simp [Value.oneCell']) (by unfold maxLen; omega) (by omega) (Nat.zero_le _) ?_; intro v' w1 hown' hgrow _ hbl; have hw1 := hgrow.size; obtain ⟨⟨u0, d0⟩, df, hts⟩ := HFin.out v' w1 hown' hgrow hbl; obtain ⟨g', cap', rfl⟩ := ownsRow_succ hown'; have HTs := hidden hts; have HG := hidden hgrow; have HOw := hidden hrow; clear hts hown' hgrow hbl hrow)
    exact ⟨keeps_row HOw.out HG.out (by omega), hk, HTs.out⟩
  case done =>
    intro D W hD ht hK
    obtain ⟨_, rv', ro', q1, q2, st⟩ := ht
    have hcb := (st.sep.cells (b := w.heap.size) (T := 57) (cs := [lvOf ro' (dueK (now + 1) ts)]) (by simp [tickH])).cell 0 _ rfl
    gi_wp2
    refine ⟨by simp, .inl ⟨_, _, rfl, run_takeDeferred hK, ?_⟩⟩
    refine ⟨_, results_tmp rfl _ _ _, ?_⟩
    exact ⟨rv', ro', _, _, rfl, q1, q2, tick_put st _ (by omega) hgb ⟨_, hK, rfl⟩⟩
theorem gtick_any {w : World} {g per now : Nat} {rv : OV} {ts : List (Nat × Nat)} (h : Sep w (qhl g per now rv ts)) (hok : ovOk rv ts.length) (hl : ts.length ≤ 256) (hnow : now < 1048576) (hord : ts.Pairwise (fun a b => a.2 ≤ b.2)) :
    Calls Tryz.prog 65 #[.pointer (some ⟨g, 0, none⟩)] w (GTickP g per (now + 1) rv ts w) :=
  (callsIn_wide (n := 4)).1 (gtick_in Fence.wide rfl 4 (Nat.le_refl _) h hok hl hnow hord)
end Go.Proofs.YtcnbbenmlffgpaaGreatDoor
