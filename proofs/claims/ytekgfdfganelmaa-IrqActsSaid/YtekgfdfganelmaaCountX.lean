/- IrqCount's walk: it answers true at every input. Conditions: the acts read as what they are. -/
import Derived.Test.YtekgfdfganelmaaCountC
import Derived.Deep.LoopGhost
namespace Go.Proofs.Ytekgfdfganelmaa
open Go.RowKit

structure ActD where
  kind : Int
  id : Int
  n : Int
  la : Option Addr
  ln : Nat
  cap : Nat
  z : Nat → Int
/-- What is read of the acts that came in. -/
def IsActs (w : World) (a0 : Option Addr) (len : Nat) (A : Nat → ActD) : Prop := ∀ j, j < len → ∃ gb go, a0 = some ⟨gb, go, none⟩ ∧ gb < w.heap.size ∧
  w.cell? ⟨gb, go + j * 4, none⟩ = some (.int .i64 (A j).kind) ∧ w.cell? ⟨gb, go + j * 4 + 1, none⟩ = some (.int .i64 (A j).id) ∧ w.cell? ⟨gb, go + j * 4 + 2, none⟩ = some (.int .i64 (A j).n) ∧
  w.cell? ⟨gb, go + j * 4 + 3, none⟩ = some (.slice (A j).la (A j).ln (A j).cap) ∧
  ∀ i, i < (A j).ln → ∃ gl gof, (A j).la = some ⟨gl, gof, none⟩ ∧ gl < w.heap.size ∧ w.cell? ⟨gl, gof + i, none⟩ = some (.int .i64 ((A j).z i))
def Few (len : Nat) (A : Nat → ActD) (w : World) (e : Ending) (w' : World) : Prop := ((e = .returned (.bool true) ∧ len ≤ 150 ∧ ∀ j, j < len → (A j).ln ≤ 30) ∨ e = .returned (.bool false)) ∧ w = w'

set_option maxHeartbeats 1000000 in
theorem few_any (w : World) (a0 : Option Addr) (len cap : Nat) (A : Nat → ActD) (hA : IsActs w a0 len A) : Calls Try.prog 20 #[.slice a0 len cap] w (Few len A w) := by
  by_cases h : 150 < len
  · have H : Hid (Few len A w (.returned (.bool false)) w) := ⟨.inr rfl, rfl⟩
    clear hA
    go_enter Try.func20, Try.ntmps20
    go_wp2_with fail
    go_ret
    exact H.out
  · have HA : Hid (IsActs w a0 len A) := hA
    clear hA
    go_enter Try.func20, Try.ntmps20
    go_wp2_with fail
    go_loop [3] (fun iv => ∃ i : Nat, iv = .int .i64 i ∧ i ≤ len ∧ ∀ j, j < i → (A j).ln ≤ 30) (fun iv => len - (intOf iv).toNat)
    case atStart => exact ⟨0, rfl, Nat.zero_le _, by intro j hj; omega⟩
    case round =>
      obtain ⟨i, rfl, hi, hpre⟩ := hrel
      have Hp : Hid (∀ j, j < i → (A j).ln ≤ 30) := hpre
      clear hpre
      by_cases hlt : i < len
      · obtain ⟨gb, go, rfl, hgb, c0, c1, c2, c3, _⟩ := HA.out i hlt
        clear c0 c1 c2
        generalize hln : (A i).ln = ln at c3
        have Hln : Hid ((A i).ln = ln) := hln
        clear hln
        by_cases h30 : 30 < ln
        · go_wp2_with fail
          go_ret
          exact ⟨.inr rfl, rfl⟩
        · go_wp2_with fail
          go_round
          case rel =>
            refine ⟨i + 1, by go_num, by omega, fun j hj => ?_⟩
            by_cases e : j = i
            · subst e; rw [Hln.out]; omega
            · exact Hp.out j (by omega)
          case measure => simp [intOf]; omega
      · go_wp2_with fail
        go_ret
        exact ⟨.inl ⟨rfl, by omega, fun j hj => Hp.out j (by omega)⟩, rfl⟩

theorem rowShape0 {w : World} {B : Nat} {v : Value} {k : Int} (h : w.ownsRow B 3 1 v (rowOf k false).length ((rowOf k false).map (Value.int .i64))) : ∃ p cp, v = .slice p 0 cp := by
  rcases h.2 with ⟨rfl, _⟩ | ⟨g, cp, _, rfl, _⟩
  · exact ⟨_, _, rfl⟩
  · exact ⟨_, cp, rfl⟩
theorem rowShape1 {w : World} {B : Nat} {v : Value} {k : Int} (h : w.ownsRow B 3 1 v (rowOf k true).length ((rowOf k true).map (Value.int .i64))) : ∃ g cp, v = .slice (some ⟨g, 0, none⟩) 1 cp ∧ w.cell? ⟨g, 0, none⟩ = some (.int .i64 k) := by
  have hs : w.ownsRow B 3 1 v 1 [.int .i64 k] := h
  rcases hs.2 with ⟨_, h0⟩ | ⟨g, cp, cur, hv, _⟩
  · omega
  · subst hv
    exact ⟨g, cp, rfl, by have := hs.cells (g := g) rfl 0 _ rfl; simpa [Addr.add] using this⟩

set_option maxRecDepth 100000 in
set_option maxHeartbeats 20000000 in
theorem count_any (w : World) (a0 : Option Addr) (len cap : Nat) (A : Nat → ActD) (hA : IsActs w a0 len A) (k : Nat) (hk : k < 256) :
    Calls Try.prog 6 #[.slice a0 len cap, .int .u8 k] w fun e w' => e = .returned (.bool true) ∧ Below w.heap.size w w' := by
  have HA : Hid (IsActs w a0 len A) := hA
  go_enter Try.func6, Try.ntmps6
  go_wp2_with fail
  refine (alive_any w).mono ?_
  rintro e w1 ⟨rfl, hb0⟩
  have hA1 : IsActs w1 a0 len A := by
    intro j hj
    obtain ⟨gb, go, h1, h2, c0, c1, c2, c3, h4⟩ := hA j hj
    refine ⟨gb, go, h1, Nat.lt_of_lt_of_le h2 hb0.size, (hb0.cell (p := ⟨gb, go + j * 4, none⟩) h2).trans c0, (hb0.cell (p := ⟨gb, go + j * 4 + 1, none⟩) h2).trans c1, (hb0.cell (p := ⟨gb, go + j * 4 + 2, none⟩) h2).trans c2, (hb0.cell (p := ⟨gb, go + j * 4 + 3, none⟩) h2).trans c3, fun i hi => ?_⟩
    obtain ⟨gl, gof, h5, h6, h7⟩ := h4 i hi
    exact ⟨gl, gof, h5, Nat.lt_of_lt_of_le h6 hb0.size, (hb0.cell (p := ⟨gl, gof + i, none⟩) h6).trans h7⟩
  have hfew := few_any w1 a0 len cap A hA1
  clear hA hA1
  go_wp2_with fail
  refine hfew.mono ?_
  clear hfew
  rintro e w1' ⟨⟨rfl, h150, h30⟩ | rfl, rfl⟩
  case inr =>
    go_wp2_with fail
    go_ret
    exact ⟨rfl, hb0⟩
  case inl =>
    have H30 : Hid (∀ j, j < len → (A j).ln ≤ 30) := h30
    clear h30
    go_wp2_with fail
    refine (new_any w1).mono ?_
    rintro e w2 ⟨c, m, rfl, hr, hch, hfp⟩
    have i0 : In w.heap.size w w2 c (G.new m) := ⟨hr, fun b hb => Nat.le_trans hb0.size (hfp b hb), hb0.trans ((hch.below (Nat.le_refl _) (fun _ h => h.elim)).mono hb0.size), Nat.le_trans hb0.size hch.size⟩
    clear hr hch hfp hb0
    go_wp2_with fail
    refine (add_ok i0.rep (id := k) (by omega) rfl).mono ?_
    rintro e w3 ⟨rfl, b, hp⟩
    have H3 : Hid (CR w.heap.size w w3 c m k 0 0) := ⟨_, _, _, _, ⟨k, b, .fresh⟩, i0.post hp, ⟨by simp [find, G.new], by intro x hx hne; simp [G.new] at hx; subst hx; exact absurd rfl hne, rfl, .inl rfl, fun p hp => .inl (by show (List.replicate 16 (0 : Int))[p]?.getD 0 = 0; rw [List.getElem?_replicate]; split <;> rfl), (by show (0 : Int) ≤ 0; omega), rfl, (by show (0 : Int) ≤ 0; omega)⟩⟩
    clear i0 hp
    go_wp2_with fail
    go_loopg [7, 8, 9] len (fun g cv wv iv wr => ∃ (i : Nat) (came went : Int), iv = .int .i64 i ∧ cv = .int .i64 came ∧ wv = .int .i64 went ∧ i + g = len ∧ came ≤ i ∧ CR w.heap.size w wr c m k came went)
    case atStart => exact ⟨0, 0, 0, rfl, rfl, rfl, Nat.zero_add _, by omega, H3.out⟩
    case round =>
      clear H3
      obtain ⟨i, came, went, rfl, rfl, rfl, hig, hcame, hCR⟩ := hrel
      have HG : Hid (i + gk = len) := hig
      have hi : i ≤ len := by omega
      clear hig
      obtain ⟨wo, rfl⟩ : ∃ wo : World, wo = wr := ⟨_, rfl⟩
      have hwp := hCR.wpos
      by_cases hlt : i < len
      · obtain ⟨gb, go, rfl, hgb, c0, c1, c2, c3, hl⟩ := HA.out i hlt
        have hln := H30.out i hlt
        have d0 := (hCR.bel.cell (p := ⟨gb, go + i * 4, none⟩) hgb).trans c0
        have d1 := (hCR.bel.cell (p := ⟨gb, go + i * 4 + 1, none⟩) hgb).trans c1
        have d2 := (hCR.bel.cell (p := ⟨gb, go + i * 4 + 2, none⟩) hgb).trans c2
        have d3 := (hCR.bel.cell (p := ⟨gb, go + i * 4 + 3, none⟩) hgb).trans c3
        have Hl : Hid (∀ j, j < (A i).ln → ∃ gl gof, (A i).la = some ⟨gl, gof, none⟩ ∧ gl < w.heap.size ∧ w.cell? ⟨gl, gof + j, none⟩ = some (.int .i64 ((A i).z j))) := hl
        clear c0 c1 c2 c3 hl
        generalize A i = act at d0 d1 d2 d3 Hl hln
        obtain ⟨kind, id, nn, la, ln, lcap, z⟩ := act
        dsimp only at d0 d1 d2 d3 Hl hln
        by_cases hk0 : kind = 0
        · subst hk0
          have hCR4 : CR w.heap.size w (wo.alloc (.cells #[.int .i64 0, .int .i64 id, .int .i64 nn, .slice la ln lcap] 44)) c m k came went := hCR.grown ((Below.refl _ _).alloc (Nat.le_refl _) _)
          clear hCR
          have hcl := add_keeps hCR4 id
          clear hCR4
          go_wp2_with fail
          refine hcl.mono ?_
          clear hcl
          rintro e w5 ⟨r, rfl, hC⟩
          have hb2 : came ≤ (i : Int) + 1 := by omega
          clear hcame hwp
          go_wp2_with fail
          generalize came = came2 at *
          generalize went = went2 at *
          obtain ⟨E, L, row, rv, ek, hin, hc⟩ := hC
          have hsum := hc.sum
          have hl0 := hc.lost
          have hw0 := hc.wpos
          have hrow := hc.row
          have hpend := pending_any hin.rep (by show row.length ≤ _; rw [hrow]; have := rowOf_len (k : Int) ek.q.pending; omega)
          have hlo := fun (W : World) (hi : In w.heap.size w W c ⟨m, E, L, row, rv⟩) => lost_some hi.rep (id := k) hc.fk
          have HC : Hid (CI E L row k came2 went2 ek) := hc
          have HIN : Hid (∀ W, Below w5.heap.size w5 W → In w.heap.size w W c ⟨m, E, L, row, rv⟩) := fun W hb => hin.grown hb
          have HLO : Hid (∀ (W : World), In w.heap.size w W c ⟨m, E, L, row, rv⟩ → Calls Try.prog 15 #[.pointer (some ⟨c, 0, none⟩), .int .i64 k] W fun r w' => r = .returned (.int .i64 ek.q.lost) ∧ W = w') := hlo
          clear hlo hin hc
          refine hpend.mono ?_
          clear hpend
          rintro e w6 ⟨v, rfl, ho, hg⟩
          have hin6 := HIN.out w6 (below_of_grown hg)
          have hlo6 := HLO.out w6 hin6
          have ho2 : w6.ownsRow w5.heap.size 3 1 v (rowOf k ek.q.pending).length ((rowOf k ek.q.pending).map (Value.int .i64)) := by rw [← hrow]; exact ho
          clear ho hg HIN HLO hrow
          have hlb : ek.q.lost ≤ 200 := by
            have : 0 ≤ one ek.q.pending := by unfold one; split <;> omega
            omega
          generalize hq : ek.q.pending = pd at hsum ho2
          have HCR : Hid (CR w.heap.size w w6 c m k came2 went2) := ⟨E, L, row, rv, ek, hin6, HC.out⟩
          clear hq hin6 HC
          generalize ek.q.lost = lo at hsum hl0 hlo6 hlb
          cases pd
          · have hs2 : came2 = went2 + lo := by simpa [one] using hsum
            have hwb : went2 ≤ 200 := by omega
            have hx : (came2 != went2 + lo + 0) = false := by simp; omega
            have hx2 : (came2 != went2 + lo) = false := by simp; omega
            have Hs : Hid (came2 = went2 + lo) := hs2
            obtain ⟨pp, cp, rfl⟩ := rowShape0 ho2
            clear hsum hs2 ho2
            go_wp2_with fail
            go_loopg [12, 13] 1 (fun g hv nv wi => hv = .int .i64 0 ∧ nv = .int .i64 0 ∧ wi = w6)
            case atStart => exact ⟨rfl, rfl, rfl⟩
            case round =>
              obtain ⟨rfl, rfl, hwi⟩ := hrel
              cases hwi
              go_wp2_with fail
              refine hlo6.mono ?_
              rintro e w7 ⟨rfl, rfl⟩
              clear hlo6
              go_wp2_with fail
              go_roundg (len - (i + 1))
              case measure => have := HG.out; omega
              case rel => exact ⟨i + 1, came2, went2, by go_num, rfl, rfl, by omega, by omega, HCR.out⟩
          · have hs2 : came2 = went2 + lo + 1 := by simpa [one] using hsum
            have hwb : went2 ≤ 200 := by omega
            have hx : (came2 != went2 + lo + 1) = false := by simp; omega
            have Hs : Hid (came2 = went2 + lo + 1) := hs2
            obtain ⟨g6, cp, rfl, hcell6⟩ := rowShape1 ho2
            clear hsum hs2 ho2
            go_wp2_with fail
            go_loopg [12, 13] 1 (fun g hv nv wi => ((hv = .int .i64 0 ∧ nv = .int .i64 0 ∧ g = 1) ∨ (hv = .int .i64 1 ∧ nv = .int .i64 1)) ∧ wi = w6)
            case atStart => exact ⟨.inl ⟨rfl, rfl, rfl⟩, rfl⟩
            case round =>
              obtain ⟨hd, hwi⟩ := hrel
              cases hwi
              rcases hd with ⟨rfl, rfl, rfl⟩ | ⟨rfl, rfl⟩
              · clear hlo6
                go_wp2_with fail
                go_roundg 0
                case measure => omega
                case rel => exact ⟨.inr ⟨rfl, rfl⟩, rfl⟩
              · go_wp2_with fail
                refine hlo6.mono ?_
                rintro e w7 ⟨rfl, rfl⟩
                clear hlo6
                go_wp2_with fail
                go_roundg (len - (i + 1))
                case measure => have := HG.out; omega
                case rel => exact ⟨i + 1, came2, went2, by go_num, rfl, rfl, by omega, by omega, HCR.out⟩
        · have hkb0 : (kind == 0) = false := by simpa using hk0
          clear hk0
          by_cases hk1 : kind = 1
          · subst hk1
            have hCR4 : CR w.heap.size w (wo.alloc (.cells #[.int .i64 1, .int .i64 id, .int .i64 nn, .slice la ln lcap] 44)) c m k came went := hCR.grown ((Below.refl _ _).alloc (Nat.le_refl _) _)
            clear hCR
            by_cases hidk : id = k
            · subst hidk
              go_wp2_with fail
              generalize (wo.alloc (.cells #[.int .i64 1, .int .i64 k, .int .i64 nn, .slice la ln lcap] 44)) = w5 at *
              have hC := hCR4
              clear hCR4
              have hb2 : came ≤ (i : Int) + 1 := by omega
              clear hcame hwp
              generalize came = came2 at *
              generalize went = went2 at *

              obtain ⟨E, L, row, rv, ek, hin, hc⟩ := hC
              have hsum := hc.sum
              have hl0 := hc.lost
              have hw0 := hc.wpos
              have hrow := hc.row
              have hpend := pending_any hin.rep (by show row.length ≤ _; rw [hrow]; have := rowOf_len (k : Int) ek.q.pending; omega)
              have hlo := fun (W : World) (hi : In w.heap.size w W c ⟨m, E, L, row, rv⟩) => lost_some hi.rep (id := k) hc.fk
              have HC : Hid (CI E L row k came2 went2 ek) := hc
              have HIN : Hid (∀ W, Below w5.heap.size w5 W → In w.heap.size w W c ⟨m, E, L, row, rv⟩) := fun W hb => hin.grown hb
              have HLO : Hid (∀ (W : World), In w.heap.size w W c ⟨m, E, L, row, rv⟩ → Calls Try.prog 15 #[.pointer (some ⟨c, 0, none⟩), .int .i64 k] W fun r w' => r = .returned (.int .i64 ek.q.lost) ∧ W = w') := hlo
              clear hlo hin hc
              refine hpend.mono ?_
              clear hpend
              rintro e w6 ⟨v, rfl, ho, hg⟩
              have hin6 := HIN.out w6 (below_of_grown hg)
              have hlo6 := HLO.out w6 hin6
              have ho2 : w6.ownsRow w5.heap.size 3 1 v (rowOf k ek.q.pending).length ((rowOf k ek.q.pending).map (Value.int .i64)) := by rw [← hrow]; exact ho
              clear ho hg HIN HLO hrow
              have hlb : ek.q.lost ≤ 200 := by
                have : 0 ≤ one ek.q.pending := by unfold one; split <;> omega
                omega
              generalize hq : ek.q.pending = pd at hsum ho2
              have HCR : Hid (CR w.heap.size w w6 c m k came2 went2) := ⟨E, L, row, rv, ek, hin6, HC.out⟩
              clear hq hin6 HC
              generalize ek.q.lost = lo at hsum hl0 hlo6 hlb
              cases pd
              · have hs2 : came2 = went2 + lo := by simpa [one] using hsum
                have hwb : went2 ≤ 200 := by omega
                have hx : (came2 != went2 + lo + 0) = false := by simp; omega
                have hx2 : (came2 != went2 + lo) = false := by simp; omega
                have Hs : Hid (came2 = went2 + lo) := hs2
                obtain ⟨pp, cp, rfl⟩ := rowShape0 ho2
                clear hsum hs2 ho2
                go_wp2_with fail
                go_loopg [12, 13] 1 (fun g hv nv wi => hv = .int .i64 0 ∧ nv = .int .i64 0 ∧ wi = w6)
                case atStart => exact ⟨rfl, rfl, rfl⟩
                case round =>
                  obtain ⟨rfl, rfl, hwi⟩ := hrel
                  cases hwi
                  go_wp2_with fail
                  refine hlo6.mono ?_
                  rintro e w7 ⟨rfl, rfl⟩
                  clear hlo6
                  go_wp2_with fail
                  go_roundg (len - (i + 1))
                  case measure => have := HG.out; omega
                  case rel => exact ⟨i + 1, came2, went2, by go_num, rfl, rfl, by omega, by omega, HCR.out⟩
              · have hs2 : came2 = went2 + lo + 1 := by simpa [one] using hsum
                have hwb : went2 ≤ 200 := by omega
                have hx : (came2 != went2 + lo + 1) = false := by simp; omega
                have Hs : Hid (came2 = went2 + lo + 1) := hs2
                obtain ⟨g6, cp, rfl, hcell6⟩ := rowShape1 ho2
                clear hsum hs2 ho2
                go_wp2_with fail
                go_loopg [12, 13] 1 (fun g hv nv wi => ((hv = .int .i64 0 ∧ nv = .int .i64 0 ∧ g = 1) ∨ (hv = .int .i64 1 ∧ nv = .int .i64 1)) ∧ wi = w6)
                case atStart => exact ⟨.inl ⟨rfl, rfl, rfl⟩, rfl⟩
                case round =>
                  obtain ⟨hd, hwi⟩ := hrel
                  cases hwi
                  rcases hd with ⟨rfl, rfl, rfl⟩ | ⟨rfl, rfl⟩
                  · clear hlo6
                    go_wp2_with fail
                    go_roundg 0
                    case measure => omega
                    case rel => exact ⟨.inr ⟨rfl, rfl⟩, rfl⟩
                  · go_wp2_with fail
                    refine hlo6.mono ?_
                    rintro e w7 ⟨rfl, rfl⟩
                    clear hlo6
                    go_wp2_with fail
                    go_roundg (len - (i + 1))
                    case measure => have := HG.out; omega
                    case rel => exact ⟨i + 1, came2, went2, by go_num, rfl, rfl, by omega, by omega, HCR.out⟩
            · have hib : (id != k) = true := by simpa using hidk
              have hcl := remove_keeps hCR4 id hidk
              clear hCR4 hidk
              go_wp2_with fail
              refine hcl.mono ?_
              clear hcl
              rintro e w5 ⟨r, rfl, hC⟩
              have hb2 : came ≤ (i : Int) + 1 := by omega
              clear hcame hwp
              go_wp2_with fail
              generalize came = came2 at *
              generalize went = went2 at *
              obtain ⟨E, L, row, rv, ek, hin, hc⟩ := hC
              have hsum := hc.sum
              have hl0 := hc.lost
              have hw0 := hc.wpos
              have hrow := hc.row
              have hpend := pending_any hin.rep (by show row.length ≤ _; rw [hrow]; have := rowOf_len (k : Int) ek.q.pending; omega)
              have hlo := fun (W : World) (hi : In w.heap.size w W c ⟨m, E, L, row, rv⟩) => lost_some hi.rep (id := k) hc.fk
              have HC : Hid (CI E L row k came2 went2 ek) := hc
              have HIN : Hid (∀ W, Below w5.heap.size w5 W → In w.heap.size w W c ⟨m, E, L, row, rv⟩) := fun W hb => hin.grown hb
              have HLO : Hid (∀ (W : World), In w.heap.size w W c ⟨m, E, L, row, rv⟩ → Calls Try.prog 15 #[.pointer (some ⟨c, 0, none⟩), .int .i64 k] W fun r w' => r = .returned (.int .i64 ek.q.lost) ∧ W = w') := hlo
              clear hlo hin hc
              refine hpend.mono ?_
              clear hpend
              rintro e w6 ⟨v, rfl, ho, hg⟩
              have hin6 := HIN.out w6 (below_of_grown hg)
              have hlo6 := HLO.out w6 hin6
              have ho2 : w6.ownsRow w5.heap.size 3 1 v (rowOf k ek.q.pending).length ((rowOf k ek.q.pending).map (Value.int .i64)) := by rw [← hrow]; exact ho
              clear ho hg HIN HLO hrow
              have hlb : ek.q.lost ≤ 200 := by
                have : 0 ≤ one ek.q.pending := by unfold one; split <;> omega
                omega
              generalize hq : ek.q.pending = pd at hsum ho2
              have HCR : Hid (CR w.heap.size w w6 c m k came2 went2) := ⟨E, L, row, rv, ek, hin6, HC.out⟩
              clear hq hin6 HC
              generalize ek.q.lost = lo at hsum hl0 hlo6 hlb
              cases pd
              · have hs2 : came2 = went2 + lo := by simpa [one] using hsum
                have hwb : went2 ≤ 200 := by omega
                have hx : (came2 != went2 + lo + 0) = false := by simp; omega
                have hx2 : (came2 != went2 + lo) = false := by simp; omega
                have Hs : Hid (came2 = went2 + lo) := hs2
                obtain ⟨pp, cp, rfl⟩ := rowShape0 ho2
                clear hsum hs2 ho2
                go_wp2_with fail
                go_loopg [12, 13] 1 (fun g hv nv wi => hv = .int .i64 0 ∧ nv = .int .i64 0 ∧ wi = w6)
                case atStart => exact ⟨rfl, rfl, rfl⟩
                case round =>
                  obtain ⟨rfl, rfl, hwi⟩ := hrel
                  cases hwi
                  go_wp2_with fail
                  refine hlo6.mono ?_
                  rintro e w7 ⟨rfl, rfl⟩
                  clear hlo6
                  go_wp2_with fail
                  go_roundg (len - (i + 1))
                  case measure => have := HG.out; omega
                  case rel => exact ⟨i + 1, came2, went2, by go_num, rfl, rfl, by omega, by omega, HCR.out⟩
              · have hs2 : came2 = went2 + lo + 1 := by simpa [one] using hsum
                have hwb : went2 ≤ 200 := by omega
                have hx : (came2 != went2 + lo + 1) = false := by simp; omega
                have Hs : Hid (came2 = went2 + lo + 1) := hs2
                obtain ⟨g6, cp, rfl, hcell6⟩ := rowShape1 ho2
                clear hsum hs2 ho2
                go_wp2_with fail
                go_loopg [12, 13] 1 (fun g hv nv wi => ((hv = .int .i64 0 ∧ nv = .int .i64 0 ∧ g = 1) ∨ (hv = .int .i64 1 ∧ nv = .int .i64 1)) ∧ wi = w6)
                case atStart => exact ⟨.inl ⟨rfl, rfl, rfl⟩, rfl⟩
                case round =>
                  obtain ⟨hd, hwi⟩ := hrel
                  cases hwi
                  rcases hd with ⟨rfl, rfl, rfl⟩ | ⟨rfl, rfl⟩
                  · clear hlo6
                    go_wp2_with fail
                    go_roundg 0
                    case measure => omega
                    case rel => exact ⟨.inr ⟨rfl, rfl⟩, rfl⟩
                  · go_wp2_with fail
                    refine hlo6.mono ?_
                    rintro e w7 ⟨rfl, rfl⟩
                    clear hlo6
                    go_wp2_with fail
                    go_roundg (len - (i + 1))
                    case measure => have := HG.out; omega
                    case rel => exact ⟨i + 1, came2, went2, by go_num, rfl, rfl, by omega, by omega, HCR.out⟩
          · have hkb1 : (kind == 1) = false := by simpa using hk1
            clear hk1
            by_cases hk2 : kind = 2
            · subst hk2
              have hCR4 : CR w.heap.size w (wo.alloc (.cells #[.int .i64 2, .int .i64 id, .int .i64 nn, .slice la ln lcap] 44)) c m k came went := hCR.grown ((Below.refl _ _).alloc (Nat.le_refl _) _)
              clear hCR
              have hcl := bind_keeps hCR4 (by omega) (by omega) nn
              clear hCR4
              go_wp2_with fail
              refine hcl.mono ?_
              clear hcl
              rintro e w5 ⟨r, rfl, hC⟩
              have hb2 : came ≤ (i : Int) + 1 := by omega
              clear hcame hwp
              go_wp2_with fail
              generalize came = came2 at *
              generalize went = went2 at *
              obtain ⟨E, L, row, rv, ek, hin, hc⟩ := hC
              have hsum := hc.sum
              have hl0 := hc.lost
              have hw0 := hc.wpos
              have hrow := hc.row
              have hpend := pending_any hin.rep (by show row.length ≤ _; rw [hrow]; have := rowOf_len (k : Int) ek.q.pending; omega)
              have hlo := fun (W : World) (hi : In w.heap.size w W c ⟨m, E, L, row, rv⟩) => lost_some hi.rep (id := k) hc.fk
              have HC : Hid (CI E L row k came2 went2 ek) := hc
              have HIN : Hid (∀ W, Below w5.heap.size w5 W → In w.heap.size w W c ⟨m, E, L, row, rv⟩) := fun W hb => hin.grown hb
              have HLO : Hid (∀ (W : World), In w.heap.size w W c ⟨m, E, L, row, rv⟩ → Calls Try.prog 15 #[.pointer (some ⟨c, 0, none⟩), .int .i64 k] W fun r w' => r = .returned (.int .i64 ek.q.lost) ∧ W = w') := hlo
              clear hlo hin hc
              refine hpend.mono ?_
              clear hpend
              rintro e w6 ⟨v, rfl, ho, hg⟩
              have hin6 := HIN.out w6 (below_of_grown hg)
              have hlo6 := HLO.out w6 hin6
              have ho2 : w6.ownsRow w5.heap.size 3 1 v (rowOf k ek.q.pending).length ((rowOf k ek.q.pending).map (Value.int .i64)) := by rw [← hrow]; exact ho
              clear ho hg HIN HLO hrow
              have hlb : ek.q.lost ≤ 200 := by
                have : 0 ≤ one ek.q.pending := by unfold one; split <;> omega
                omega
              generalize hq : ek.q.pending = pd at hsum ho2
              have HCR : Hid (CR w.heap.size w w6 c m k came2 went2) := ⟨E, L, row, rv, ek, hin6, HC.out⟩
              clear hq hin6 HC
              generalize ek.q.lost = lo at hsum hl0 hlo6 hlb
              cases pd
              · have hs2 : came2 = went2 + lo := by simpa [one] using hsum
                have hwb : went2 ≤ 200 := by omega
                have hx : (came2 != went2 + lo + 0) = false := by simp; omega
                have hx2 : (came2 != went2 + lo) = false := by simp; omega
                have Hs : Hid (came2 = went2 + lo) := hs2
                obtain ⟨pp, cp, rfl⟩ := rowShape0 ho2
                clear hsum hs2 ho2
                go_wp2_with fail
                go_loopg [12, 13] 1 (fun g hv nv wi => hv = .int .i64 0 ∧ nv = .int .i64 0 ∧ wi = w6)
                case atStart => exact ⟨rfl, rfl, rfl⟩
                case round =>
                  obtain ⟨rfl, rfl, hwi⟩ := hrel
                  cases hwi
                  go_wp2_with fail
                  refine hlo6.mono ?_
                  rintro e w7 ⟨rfl, rfl⟩
                  clear hlo6
                  go_wp2_with fail
                  go_roundg (len - (i + 1))
                  case measure => have := HG.out; omega
                  case rel => exact ⟨i + 1, came2, went2, by go_num, rfl, rfl, by omega, by omega, HCR.out⟩
              · have hs2 : came2 = went2 + lo + 1 := by simpa [one] using hsum
                have hwb : went2 ≤ 200 := by omega
                have hx : (came2 != went2 + lo + 1) = false := by simp; omega
                have Hs : Hid (came2 = went2 + lo + 1) := hs2
                obtain ⟨g6, cp, rfl, hcell6⟩ := rowShape1 ho2
                clear hsum hs2 ho2
                go_wp2_with fail
                go_loopg [12, 13] 1 (fun g hv nv wi => ((hv = .int .i64 0 ∧ nv = .int .i64 0 ∧ g = 1) ∨ (hv = .int .i64 1 ∧ nv = .int .i64 1)) ∧ wi = w6)
                case atStart => exact ⟨.inl ⟨rfl, rfl, rfl⟩, rfl⟩
                case round =>
                  obtain ⟨hd, hwi⟩ := hrel
                  cases hwi
                  rcases hd with ⟨rfl, rfl, rfl⟩ | ⟨rfl, rfl⟩
                  · clear hlo6
                    go_wp2_with fail
                    go_roundg 0
                    case measure => omega
                    case rel => exact ⟨.inr ⟨rfl, rfl⟩, rfl⟩
                  · go_wp2_with fail
                    refine hlo6.mono ?_
                    rintro e w7 ⟨rfl, rfl⟩
                    clear hlo6
                    go_wp2_with fail
                    go_roundg (len - (i + 1))
                    case measure => have := HG.out; omega
                    case rel => exact ⟨i + 1, came2, went2, by go_num, rfl, rfl, by omega, by omega, HCR.out⟩
            · have hkb2 : (kind == 2) = false := by simpa using hk2
              clear hk2
              by_cases hk3 : kind = 3
              · subst hk3
                have hCR4 : CR w.heap.size w (wo.alloc (.cells #[.int .i64 3, .int .i64 id, .int .i64 nn, .slice la ln lcap] 44)) c m k came went := hCR.grown ((Below.refl _ _).alloc (Nat.le_refl _) _)
                clear hCR
                have hcl := unbind_keeps hCR4
                clear hCR4
                go_wp2_with fail
                refine hcl.mono ?_
                clear hcl
                rintro e w5 ⟨r, rfl, hC⟩
                have hb2 : came ≤ (i : Int) + 1 := by omega
                clear hcame hwp
                go_wp2_with fail
                generalize came = came2 at *
                generalize went = went2 at *
                obtain ⟨E, L, row, rv, ek, hin, hc⟩ := hC
                have hsum := hc.sum
                have hl0 := hc.lost
                have hw0 := hc.wpos
                have hrow := hc.row
                have hpend := pending_any hin.rep (by show row.length ≤ _; rw [hrow]; have := rowOf_len (k : Int) ek.q.pending; omega)
                have hlo := fun (W : World) (hi : In w.heap.size w W c ⟨m, E, L, row, rv⟩) => lost_some hi.rep (id := k) hc.fk
                have HC : Hid (CI E L row k came2 went2 ek) := hc
                have HIN : Hid (∀ W, Below w5.heap.size w5 W → In w.heap.size w W c ⟨m, E, L, row, rv⟩) := fun W hb => hin.grown hb
                have HLO : Hid (∀ (W : World), In w.heap.size w W c ⟨m, E, L, row, rv⟩ → Calls Try.prog 15 #[.pointer (some ⟨c, 0, none⟩), .int .i64 k] W fun r w' => r = .returned (.int .i64 ek.q.lost) ∧ W = w') := hlo
                clear hlo hin hc
                refine hpend.mono ?_
                clear hpend
                rintro e w6 ⟨v, rfl, ho, hg⟩
                have hin6 := HIN.out w6 (below_of_grown hg)
                have hlo6 := HLO.out w6 hin6
                have ho2 : w6.ownsRow w5.heap.size 3 1 v (rowOf k ek.q.pending).length ((rowOf k ek.q.pending).map (Value.int .i64)) := by rw [← hrow]; exact ho
                clear ho hg HIN HLO hrow
                have hlb : ek.q.lost ≤ 200 := by
                  have : 0 ≤ one ek.q.pending := by unfold one; split <;> omega
                  omega
                generalize hq : ek.q.pending = pd at hsum ho2
                have HCR : Hid (CR w.heap.size w w6 c m k came2 went2) := ⟨E, L, row, rv, ek, hin6, HC.out⟩
                clear hq hin6 HC
                generalize ek.q.lost = lo at hsum hl0 hlo6 hlb
                cases pd
                · have hs2 : came2 = went2 + lo := by simpa [one] using hsum
                  have hwb : went2 ≤ 200 := by omega
                  have hx : (came2 != went2 + lo + 0) = false := by simp; omega
                  have hx2 : (came2 != went2 + lo) = false := by simp; omega
                  have Hs : Hid (came2 = went2 + lo) := hs2
                  obtain ⟨pp, cp, rfl⟩ := rowShape0 ho2
                  clear hsum hs2 ho2
                  go_wp2_with fail
                  go_loopg [12, 13] 1 (fun g hv nv wi => hv = .int .i64 0 ∧ nv = .int .i64 0 ∧ wi = w6)
                  case atStart => exact ⟨rfl, rfl, rfl⟩
                  case round =>
                    obtain ⟨rfl, rfl, hwi⟩ := hrel
                    cases hwi
                    go_wp2_with fail
                    refine hlo6.mono ?_
                    rintro e w7 ⟨rfl, rfl⟩
                    clear hlo6
                    go_wp2_with fail
                    go_roundg (len - (i + 1))
                    case measure => have := HG.out; omega
                    case rel => exact ⟨i + 1, came2, went2, by go_num, rfl, rfl, by omega, by omega, HCR.out⟩
                · have hs2 : came2 = went2 + lo + 1 := by simpa [one] using hsum
                  have hwb : went2 ≤ 200 := by omega
                  have hx : (came2 != went2 + lo + 1) = false := by simp; omega
                  have Hs : Hid (came2 = went2 + lo + 1) := hs2
                  obtain ⟨g6, cp, rfl, hcell6⟩ := rowShape1 ho2
                  clear hsum hs2 ho2
                  go_wp2_with fail
                  go_loopg [12, 13] 1 (fun g hv nv wi => ((hv = .int .i64 0 ∧ nv = .int .i64 0 ∧ g = 1) ∨ (hv = .int .i64 1 ∧ nv = .int .i64 1)) ∧ wi = w6)
                  case atStart => exact ⟨.inl ⟨rfl, rfl, rfl⟩, rfl⟩
                  case round =>
                    obtain ⟨hd, hwi⟩ := hrel
                    cases hwi
                    rcases hd with ⟨rfl, rfl, rfl⟩ | ⟨rfl, rfl⟩
                    · clear hlo6
                      go_wp2_with fail
                      go_roundg 0
                      case measure => omega
                      case rel => exact ⟨.inr ⟨rfl, rfl⟩, rfl⟩
                    · go_wp2_with fail
                      refine hlo6.mono ?_
                      rintro e w7 ⟨rfl, rfl⟩
                      clear hlo6
                      go_wp2_with fail
                      go_roundg (len - (i + 1))
                      case measure => have := HG.out; omega
                      case rel => exact ⟨i + 1, came2, went2, by go_num, rfl, rfl, by omega, by omega, HCR.out⟩
              · have hkb3 : (kind == 3) = false := by simpa using hk3
                clear hk3
                by_cases hk4 : kind = 4
                · subst hk4
                  have hCR4 : CR w.heap.size w (wo.alloc (.cells #[.int .i64 4, .int .i64 id, .int .i64 nn, .slice la ln lcap] 44)) c m k came went := hCR.grown ((Below.refl _ _).alloc (Nat.le_refl _) _)
                  clear hCR
                  have hcl := attach_keeps hCR4 nn
                  clear hCR4
                  go_wp2_with fail
                  refine hcl.mono ?_
                  clear hcl
                  rintro e w5 ⟨r, rfl, hC⟩
                  have hb2 : came ≤ (i : Int) + 1 := by omega
                  clear hcame hwp
                  go_wp2_with fail
                  generalize came = came2 at *
                  generalize went = went2 at *
                  obtain ⟨E, L, row, rv, ek, hin, hc⟩ := hC
                  have hsum := hc.sum
                  have hl0 := hc.lost
                  have hw0 := hc.wpos
                  have hrow := hc.row
                  have hpend := pending_any hin.rep (by show row.length ≤ _; rw [hrow]; have := rowOf_len (k : Int) ek.q.pending; omega)
                  have hlo := fun (W : World) (hi : In w.heap.size w W c ⟨m, E, L, row, rv⟩) => lost_some hi.rep (id := k) hc.fk
                  have HC : Hid (CI E L row k came2 went2 ek) := hc
                  have HIN : Hid (∀ W, Below w5.heap.size w5 W → In w.heap.size w W c ⟨m, E, L, row, rv⟩) := fun W hb => hin.grown hb
                  have HLO : Hid (∀ (W : World), In w.heap.size w W c ⟨m, E, L, row, rv⟩ → Calls Try.prog 15 #[.pointer (some ⟨c, 0, none⟩), .int .i64 k] W fun r w' => r = .returned (.int .i64 ek.q.lost) ∧ W = w') := hlo
                  clear hlo hin hc
                  refine hpend.mono ?_
                  clear hpend
                  rintro e w6 ⟨v, rfl, ho, hg⟩
                  have hin6 := HIN.out w6 (below_of_grown hg)
                  have hlo6 := HLO.out w6 hin6
                  have ho2 : w6.ownsRow w5.heap.size 3 1 v (rowOf k ek.q.pending).length ((rowOf k ek.q.pending).map (Value.int .i64)) := by rw [← hrow]; exact ho
                  clear ho hg HIN HLO hrow
                  have hlb : ek.q.lost ≤ 200 := by
                    have : 0 ≤ one ek.q.pending := by unfold one; split <;> omega
                    omega
                  generalize hq : ek.q.pending = pd at hsum ho2
                  have HCR : Hid (CR w.heap.size w w6 c m k came2 went2) := ⟨E, L, row, rv, ek, hin6, HC.out⟩
                  clear hq hin6 HC
                  generalize ek.q.lost = lo at hsum hl0 hlo6 hlb
                  cases pd
                  · have hs2 : came2 = went2 + lo := by simpa [one] using hsum
                    have hwb : went2 ≤ 200 := by omega
                    have hx : (came2 != went2 + lo + 0) = false := by simp; omega
                    have hx2 : (came2 != went2 + lo) = false := by simp; omega
                    have Hs : Hid (came2 = went2 + lo) := hs2
                    obtain ⟨pp, cp, rfl⟩ := rowShape0 ho2
                    clear hsum hs2 ho2
                    go_wp2_with fail
                    go_loopg [12, 13] 1 (fun g hv nv wi => hv = .int .i64 0 ∧ nv = .int .i64 0 ∧ wi = w6)
                    case atStart => exact ⟨rfl, rfl, rfl⟩
                    case round =>
                      obtain ⟨rfl, rfl, hwi⟩ := hrel
                      cases hwi
                      go_wp2_with fail
                      refine hlo6.mono ?_
                      rintro e w7 ⟨rfl, rfl⟩
                      clear hlo6
                      go_wp2_with fail
                      go_roundg (len - (i + 1))
                      case measure => have := HG.out; omega
                      case rel => exact ⟨i + 1, came2, went2, by go_num, rfl, rfl, by omega, by omega, HCR.out⟩
                  · have hs2 : came2 = went2 + lo + 1 := by simpa [one] using hsum
                    have hwb : went2 ≤ 200 := by omega
                    have hx : (came2 != went2 + lo + 1) = false := by simp; omega
                    have Hs : Hid (came2 = went2 + lo + 1) := hs2
                    obtain ⟨g6, cp, rfl, hcell6⟩ := rowShape1 ho2
                    clear hsum hs2 ho2
                    go_wp2_with fail
                    go_loopg [12, 13] 1 (fun g hv nv wi => ((hv = .int .i64 0 ∧ nv = .int .i64 0 ∧ g = 1) ∨ (hv = .int .i64 1 ∧ nv = .int .i64 1)) ∧ wi = w6)
                    case atStart => exact ⟨.inl ⟨rfl, rfl, rfl⟩, rfl⟩
                    case round =>
                      obtain ⟨hd, hwi⟩ := hrel
                      cases hwi
                      rcases hd with ⟨rfl, rfl, rfl⟩ | ⟨rfl, rfl⟩
                      · clear hlo6
                        go_wp2_with fail
                        go_roundg 0
                        case measure => omega
                        case rel => exact ⟨.inr ⟨rfl, rfl⟩, rfl⟩
                      · go_wp2_with fail
                        refine hlo6.mono ?_
                        rintro e w7 ⟨rfl, rfl⟩
                        clear hlo6
                        go_wp2_with fail
                        go_roundg (len - (i + 1))
                        case measure => have := HG.out; omega
                        case rel => exact ⟨i + 1, came2, went2, by go_num, rfl, rfl, by omega, by omega, HCR.out⟩
                · have hkb4 : (kind == 4) = false := by simpa using hk4
                  clear hk4
                  by_cases hk5 : kind = 5
                  · subst hk5
                    have hCR4 : CR w.heap.size w (wo.alloc (.cells #[.int .i64 5, .int .i64 id, .int .i64 nn, .slice la ln lcap] 44)) c m k came went := hCR.grown ((Below.refl _ _).alloc (Nat.le_refl _) _)
                    clear hCR
                    have hcl := mask_keeps hCR4 (Nat.le_refl _) true la ln lcap (by omega) z Hl.out
                    clear hCR4
                    go_wp2_with fail
                    refine hcl.mono ?_
                    clear hcl
                    rintro e w5 ⟨r, rfl, hC⟩
                    have hb2 : came ≤ (i : Int) + 1 := by omega
                    clear hcame hwp
                    go_wp2_with fail
                    generalize came = came2 at *
                    generalize went = went2 at *
                    obtain ⟨E, L, row, rv, ek, hin, hc⟩ := hC
                    have hsum := hc.sum
                    have hl0 := hc.lost
                    have hw0 := hc.wpos
                    have hrow := hc.row
                    have hpend := pending_any hin.rep (by show row.length ≤ _; rw [hrow]; have := rowOf_len (k : Int) ek.q.pending; omega)
                    have hlo := fun (W : World) (hi : In w.heap.size w W c ⟨m, E, L, row, rv⟩) => lost_some hi.rep (id := k) hc.fk
                    have HC : Hid (CI E L row k came2 went2 ek) := hc
                    have HIN : Hid (∀ W, Below w5.heap.size w5 W → In w.heap.size w W c ⟨m, E, L, row, rv⟩) := fun W hb => hin.grown hb
                    have HLO : Hid (∀ (W : World), In w.heap.size w W c ⟨m, E, L, row, rv⟩ → Calls Try.prog 15 #[.pointer (some ⟨c, 0, none⟩), .int .i64 k] W fun r w' => r = .returned (.int .i64 ek.q.lost) ∧ W = w') := hlo
                    clear hlo hin hc
                    refine hpend.mono ?_
                    clear hpend
                    rintro e w6 ⟨v, rfl, ho, hg⟩
                    have hin6 := HIN.out w6 (below_of_grown hg)
                    have hlo6 := HLO.out w6 hin6
                    have ho2 : w6.ownsRow w5.heap.size 3 1 v (rowOf k ek.q.pending).length ((rowOf k ek.q.pending).map (Value.int .i64)) := by rw [← hrow]; exact ho
                    clear ho hg HIN HLO hrow
                    have hlb : ek.q.lost ≤ 200 := by
                      have : 0 ≤ one ek.q.pending := by unfold one; split <;> omega
                      omega
                    generalize hq : ek.q.pending = pd at hsum ho2
                    have HCR : Hid (CR w.heap.size w w6 c m k came2 went2) := ⟨E, L, row, rv, ek, hin6, HC.out⟩
                    clear hq hin6 HC
                    generalize ek.q.lost = lo at hsum hl0 hlo6 hlb
                    cases pd
                    · have hs2 : came2 = went2 + lo := by simpa [one] using hsum
                      have hwb : went2 ≤ 200 := by omega
                      have hx : (came2 != went2 + lo + 0) = false := by simp; omega
                      have hx2 : (came2 != went2 + lo) = false := by simp; omega
                      have Hs : Hid (came2 = went2 + lo) := hs2
                      obtain ⟨pp, cp, rfl⟩ := rowShape0 ho2
                      clear hsum hs2 ho2
                      go_wp2_with fail
                      go_loopg [12, 13] 1 (fun g hv nv wi => hv = .int .i64 0 ∧ nv = .int .i64 0 ∧ wi = w6)
                      case atStart => exact ⟨rfl, rfl, rfl⟩
                      case round =>
                        obtain ⟨rfl, rfl, hwi⟩ := hrel
                        cases hwi
                        go_wp2_with fail
                        refine hlo6.mono ?_
                        rintro e w7 ⟨rfl, rfl⟩
                        clear hlo6
                        go_wp2_with fail
                        go_roundg (len - (i + 1))
                        case measure => have := HG.out; omega
                        case rel => exact ⟨i + 1, came2, went2, by go_num, rfl, rfl, by omega, by omega, HCR.out⟩
                    · have hs2 : came2 = went2 + lo + 1 := by simpa [one] using hsum
                      have hwb : went2 ≤ 200 := by omega
                      have hx : (came2 != went2 + lo + 1) = false := by simp; omega
                      have Hs : Hid (came2 = went2 + lo + 1) := hs2
                      obtain ⟨g6, cp, rfl, hcell6⟩ := rowShape1 ho2
                      clear hsum hs2 ho2
                      go_wp2_with fail
                      go_loopg [12, 13] 1 (fun g hv nv wi => ((hv = .int .i64 0 ∧ nv = .int .i64 0 ∧ g = 1) ∨ (hv = .int .i64 1 ∧ nv = .int .i64 1)) ∧ wi = w6)
                      case atStart => exact ⟨.inl ⟨rfl, rfl, rfl⟩, rfl⟩
                      case round =>
                        obtain ⟨hd, hwi⟩ := hrel
                        cases hwi
                        rcases hd with ⟨rfl, rfl, rfl⟩ | ⟨rfl, rfl⟩
                        · clear hlo6
                          go_wp2_with fail
                          go_roundg 0
                          case measure => omega
                          case rel => exact ⟨.inr ⟨rfl, rfl⟩, rfl⟩
                        · go_wp2_with fail
                          refine hlo6.mono ?_
                          rintro e w7 ⟨rfl, rfl⟩
                          clear hlo6
                          go_wp2_with fail
                          go_roundg (len - (i + 1))
                          case measure => have := HG.out; omega
                          case rel => exact ⟨i + 1, came2, went2, by go_num, rfl, rfl, by omega, by omega, HCR.out⟩
                  · have hkb5 : (kind == 5) = false := by simpa using hk5
                    clear hk5
                    by_cases hk6 : kind = 6
                    · subst hk6
                      have hCR4 : CR w.heap.size w (wo.alloc (.cells #[.int .i64 6, .int .i64 id, .int .i64 nn, .slice la ln lcap] 44)) c m k came went := hCR.grown ((Below.refl _ _).alloc (Nat.le_refl _) _)
                      clear hCR
                      have hcl := mask_keeps hCR4 (Nat.le_refl _) false la ln lcap (by omega) z Hl.out
                      clear hCR4
                      go_wp2_with fail
                      refine hcl.mono ?_
                      clear hcl
                      rintro e w5 ⟨r, rfl, hC⟩
                      have hb2 : came ≤ (i : Int) + 1 := by omega
                      clear hcame hwp
                      go_wp2_with fail
                      generalize came = came2 at *
                      generalize went = went2 at *
                      obtain ⟨E, L, row, rv, ek, hin, hc⟩ := hC
                      have hsum := hc.sum
                      have hl0 := hc.lost
                      have hw0 := hc.wpos
                      have hrow := hc.row
                      have hpend := pending_any hin.rep (by show row.length ≤ _; rw [hrow]; have := rowOf_len (k : Int) ek.q.pending; omega)
                      have hlo := fun (W : World) (hi : In w.heap.size w W c ⟨m, E, L, row, rv⟩) => lost_some hi.rep (id := k) hc.fk
                      have HC : Hid (CI E L row k came2 went2 ek) := hc
                      have HIN : Hid (∀ W, Below w5.heap.size w5 W → In w.heap.size w W c ⟨m, E, L, row, rv⟩) := fun W hb => hin.grown hb
                      have HLO : Hid (∀ (W : World), In w.heap.size w W c ⟨m, E, L, row, rv⟩ → Calls Try.prog 15 #[.pointer (some ⟨c, 0, none⟩), .int .i64 k] W fun r w' => r = .returned (.int .i64 ek.q.lost) ∧ W = w') := hlo
                      clear hlo hin hc
                      refine hpend.mono ?_
                      clear hpend
                      rintro e w6 ⟨v, rfl, ho, hg⟩
                      have hin6 := HIN.out w6 (below_of_grown hg)
                      have hlo6 := HLO.out w6 hin6
                      have ho2 : w6.ownsRow w5.heap.size 3 1 v (rowOf k ek.q.pending).length ((rowOf k ek.q.pending).map (Value.int .i64)) := by rw [← hrow]; exact ho
                      clear ho hg HIN HLO hrow
                      have hlb : ek.q.lost ≤ 200 := by
                        have : 0 ≤ one ek.q.pending := by unfold one; split <;> omega
                        omega
                      generalize hq : ek.q.pending = pd at hsum ho2
                      have HCR : Hid (CR w.heap.size w w6 c m k came2 went2) := ⟨E, L, row, rv, ek, hin6, HC.out⟩
                      clear hq hin6 HC
                      generalize ek.q.lost = lo at hsum hl0 hlo6 hlb
                      cases pd
                      · have hs2 : came2 = went2 + lo := by simpa [one] using hsum
                        have hwb : went2 ≤ 200 := by omega
                        have hx : (came2 != went2 + lo + 0) = false := by simp; omega
                        have hx2 : (came2 != went2 + lo) = false := by simp; omega
                        have Hs : Hid (came2 = went2 + lo) := hs2
                        obtain ⟨pp, cp, rfl⟩ := rowShape0 ho2
                        clear hsum hs2 ho2
                        go_wp2_with fail
                        go_loopg [12, 13] 1 (fun g hv nv wi => hv = .int .i64 0 ∧ nv = .int .i64 0 ∧ wi = w6)
                        case atStart => exact ⟨rfl, rfl, rfl⟩
                        case round =>
                          obtain ⟨rfl, rfl, hwi⟩ := hrel
                          cases hwi
                          go_wp2_with fail
                          refine hlo6.mono ?_
                          rintro e w7 ⟨rfl, rfl⟩
                          clear hlo6
                          go_wp2_with fail
                          go_roundg (len - (i + 1))
                          case measure => have := HG.out; omega
                          case rel => exact ⟨i + 1, came2, went2, by go_num, rfl, rfl, by omega, by omega, HCR.out⟩
                      · have hs2 : came2 = went2 + lo + 1 := by simpa [one] using hsum
                        have hwb : went2 ≤ 200 := by omega
                        have hx : (came2 != went2 + lo + 1) = false := by simp; omega
                        have Hs : Hid (came2 = went2 + lo + 1) := hs2
                        obtain ⟨g6, cp, rfl, hcell6⟩ := rowShape1 ho2
                        clear hsum hs2 ho2
                        go_wp2_with fail
                        go_loopg [12, 13] 1 (fun g hv nv wi => ((hv = .int .i64 0 ∧ nv = .int .i64 0 ∧ g = 1) ∨ (hv = .int .i64 1 ∧ nv = .int .i64 1)) ∧ wi = w6)
                        case atStart => exact ⟨.inl ⟨rfl, rfl, rfl⟩, rfl⟩
                        case round =>
                          obtain ⟨hd, hwi⟩ := hrel
                          cases hwi
                          rcases hd with ⟨rfl, rfl, rfl⟩ | ⟨rfl, rfl⟩
                          · clear hlo6
                            go_wp2_with fail
                            go_roundg 0
                            case measure => omega
                            case rel => exact ⟨.inr ⟨rfl, rfl⟩, rfl⟩
                          · go_wp2_with fail
                            refine hlo6.mono ?_
                            rintro e w7 ⟨rfl, rfl⟩
                            clear hlo6
                            go_wp2_with fail
                            go_roundg (len - (i + 1))
                            case measure => have := HG.out; omega
                            case rel => exact ⟨i + 1, came2, went2, by go_num, rfl, rfl, by omega, by omega, HCR.out⟩
                    · have hkb6 : (kind == 6) = false := by simpa using hk6
                      clear hk6
                      by_cases hk7 : kind = 7
                      · subst hk7
                        have hCR4 : CR w.heap.size w (wo.alloc (.cells #[.int .i64 7, .int .i64 id, .int .i64 nn, .slice la ln lcap] 44)) c m k came went := hCR.grown ((Below.refl _ _).alloc (Nat.le_refl _) _)
                        clear hCR
                        have hcl := raise_keeps hCR4 (by omega) (by omega) (by omega) nn
                        clear hCR4
                        go_wp2_with fail
                        refine hcl.mono ?_
                        clear hcl
                        rintro e w5 (⟨r, hrk, rfl, hC⟩ | ⟨rfl, hC⟩)
                        · have hrb : (r == k) = false := by simpa using hrk
                          clear hrk
                          have hb2 : came ≤ (i : Int) + 1 := by omega
                          clear hcame hwp
                          go_wp2_with fail
                          generalize came = came2 at *
                          generalize went = went2 at *

                          obtain ⟨E, L, row, rv, ek, hin, hc⟩ := hC
                          have hsum := hc.sum
                          have hl0 := hc.lost
                          have hw0 := hc.wpos
                          have hrow := hc.row
                          have hpend := pending_any hin.rep (by show row.length ≤ _; rw [hrow]; have := rowOf_len (k : Int) ek.q.pending; omega)
                          have hlo := fun (W : World) (hi : In w.heap.size w W c ⟨m, E, L, row, rv⟩) => lost_some hi.rep (id := k) hc.fk
                          have HC : Hid (CI E L row k came2 went2 ek) := hc
                          have HIN : Hid (∀ W, Below w5.heap.size w5 W → In w.heap.size w W c ⟨m, E, L, row, rv⟩) := fun W hb => hin.grown hb
                          have HLO : Hid (∀ (W : World), In w.heap.size w W c ⟨m, E, L, row, rv⟩ → Calls Try.prog 15 #[.pointer (some ⟨c, 0, none⟩), .int .i64 k] W fun r w' => r = .returned (.int .i64 ek.q.lost) ∧ W = w') := hlo
                          clear hlo hin hc
                          refine hpend.mono ?_
                          clear hpend
                          rintro e w6 ⟨v, rfl, ho, hg⟩
                          have hin6 := HIN.out w6 (below_of_grown hg)
                          have hlo6 := HLO.out w6 hin6
                          have ho2 : w6.ownsRow w5.heap.size 3 1 v (rowOf k ek.q.pending).length ((rowOf k ek.q.pending).map (Value.int .i64)) := by rw [← hrow]; exact ho
                          clear ho hg HIN HLO hrow
                          have hlb : ek.q.lost ≤ 200 := by
                            have : 0 ≤ one ek.q.pending := by unfold one; split <;> omega
                            omega
                          generalize hq : ek.q.pending = pd at hsum ho2
                          have HCR : Hid (CR w.heap.size w w6 c m k came2 went2) := ⟨E, L, row, rv, ek, hin6, HC.out⟩
                          clear hq hin6 HC
                          generalize ek.q.lost = lo at hsum hl0 hlo6 hlb
                          cases pd
                          · have hs2 : came2 = went2 + lo := by simpa [one] using hsum
                            have hwb : went2 ≤ 200 := by omega
                            have hx : (came2 != went2 + lo + 0) = false := by simp; omega
                            have hx2 : (came2 != went2 + lo) = false := by simp; omega
                            have Hs : Hid (came2 = went2 + lo) := hs2
                            obtain ⟨pp, cp, rfl⟩ := rowShape0 ho2
                            clear hsum hs2 ho2
                            go_wp2_with fail
                            go_loopg [12, 13] 1 (fun g hv nv wi => hv = .int .i64 0 ∧ nv = .int .i64 0 ∧ wi = w6)
                            case atStart => exact ⟨rfl, rfl, rfl⟩
                            case round =>
                              obtain ⟨rfl, rfl, hwi⟩ := hrel
                              cases hwi
                              go_wp2_with fail
                              refine hlo6.mono ?_
                              rintro e w7 ⟨rfl, rfl⟩
                              clear hlo6
                              go_wp2_with fail
                              go_roundg (len - (i + 1))
                              case measure => have := HG.out; omega
                              case rel => exact ⟨i + 1, came2, went2, by go_num, rfl, rfl, by omega, by omega, HCR.out⟩
                          · have hs2 : came2 = went2 + lo + 1 := by simpa [one] using hsum
                            have hwb : went2 ≤ 200 := by omega
                            have hx : (came2 != went2 + lo + 1) = false := by simp; omega
                            have Hs : Hid (came2 = went2 + lo + 1) := hs2
                            obtain ⟨g6, cp, rfl, hcell6⟩ := rowShape1 ho2
                            clear hsum hs2 ho2
                            go_wp2_with fail
                            go_loopg [12, 13] 1 (fun g hv nv wi => ((hv = .int .i64 0 ∧ nv = .int .i64 0 ∧ g = 1) ∨ (hv = .int .i64 1 ∧ nv = .int .i64 1)) ∧ wi = w6)
                            case atStart => exact ⟨.inl ⟨rfl, rfl, rfl⟩, rfl⟩
                            case round =>
                              obtain ⟨hd, hwi⟩ := hrel
                              cases hwi
                              rcases hd with ⟨rfl, rfl, rfl⟩ | ⟨rfl, rfl⟩
                              · clear hlo6
                                go_wp2_with fail
                                go_roundg 0
                                case measure => omega
                                case rel => exact ⟨.inr ⟨rfl, rfl⟩, rfl⟩
                              · go_wp2_with fail
                                refine hlo6.mono ?_
                                rintro e w7 ⟨rfl, rfl⟩
                                clear hlo6
                                go_wp2_with fail
                                go_roundg (len - (i + 1))
                                case measure => have := HG.out; omega
                                case rel => exact ⟨i + 1, came2, went2, by go_num, rfl, rfl, by omega, by omega, HCR.out⟩
                        · have hb2 : came + 1 ≤ (i : Int) + 1 := by omega
                          go_wp2_with fail
                          clear hcame hwp
                          generalize came + 1 = came2 at *
                          generalize went = went2 at *
                          obtain ⟨E, L, row, rv, ek, hin, hc⟩ := hC
                          have hsum := hc.sum
                          have hl0 := hc.lost
                          have hw0 := hc.wpos
                          have hrow := hc.row
                          have hpend := pending_any hin.rep (by show row.length ≤ _; rw [hrow]; have := rowOf_len (k : Int) ek.q.pending; omega)
                          have hlo := fun (W : World) (hi : In w.heap.size w W c ⟨m, E, L, row, rv⟩) => lost_some hi.rep (id := k) hc.fk
                          have HC : Hid (CI E L row k came2 went2 ek) := hc
                          have HIN : Hid (∀ W, Below w5.heap.size w5 W → In w.heap.size w W c ⟨m, E, L, row, rv⟩) := fun W hb => hin.grown hb
                          have HLO : Hid (∀ (W : World), In w.heap.size w W c ⟨m, E, L, row, rv⟩ → Calls Try.prog 15 #[.pointer (some ⟨c, 0, none⟩), .int .i64 k] W fun r w' => r = .returned (.int .i64 ek.q.lost) ∧ W = w') := hlo
                          clear hlo hin hc
                          refine hpend.mono ?_
                          clear hpend
                          rintro e w6 ⟨v, rfl, ho, hg⟩
                          have hin6 := HIN.out w6 (below_of_grown hg)
                          have hlo6 := HLO.out w6 hin6
                          have ho2 : w6.ownsRow w5.heap.size 3 1 v (rowOf k ek.q.pending).length ((rowOf k ek.q.pending).map (Value.int .i64)) := by rw [← hrow]; exact ho
                          clear ho hg HIN HLO hrow
                          have hlb : ek.q.lost ≤ 200 := by
                            have : 0 ≤ one ek.q.pending := by unfold one; split <;> omega
                            omega
                          generalize hq : ek.q.pending = pd at hsum ho2
                          have HCR : Hid (CR w.heap.size w w6 c m k came2 went2) := ⟨E, L, row, rv, ek, hin6, HC.out⟩
                          clear hq hin6 HC
                          generalize ek.q.lost = lo at hsum hl0 hlo6 hlb
                          cases pd
                          · have hs2 : came2 = went2 + lo := by simpa [one] using hsum
                            have hwb : went2 ≤ 200 := by omega
                            have hx : (came2 != went2 + lo + 0) = false := by simp; omega
                            have hx2 : (came2 != went2 + lo) = false := by simp; omega
                            have Hs : Hid (came2 = went2 + lo) := hs2
                            obtain ⟨pp, cp, rfl⟩ := rowShape0 ho2
                            clear hsum hs2 ho2
                            go_wp2_with fail
                            go_loopg [12, 13] 1 (fun g hv nv wi => hv = .int .i64 0 ∧ nv = .int .i64 0 ∧ wi = w6)
                            case atStart => exact ⟨rfl, rfl, rfl⟩
                            case round =>
                              obtain ⟨rfl, rfl, hwi⟩ := hrel
                              cases hwi
                              go_wp2_with fail
                              refine hlo6.mono ?_
                              rintro e w7 ⟨rfl, rfl⟩
                              clear hlo6
                              go_wp2_with fail
                              go_roundg (len - (i + 1))
                              case measure => have := HG.out; omega
                              case rel => exact ⟨i + 1, came2, went2, by go_num, rfl, rfl, by omega, by omega, HCR.out⟩
                          · have hs2 : came2 = went2 + lo + 1 := by simpa [one] using hsum
                            have hwb : went2 ≤ 200 := by omega
                            have hx : (came2 != went2 + lo + 1) = false := by simp; omega
                            have Hs : Hid (came2 = went2 + lo + 1) := hs2
                            obtain ⟨g6, cp, rfl, hcell6⟩ := rowShape1 ho2
                            clear hsum hs2 ho2
                            go_wp2_with fail
                            go_loopg [12, 13] 1 (fun g hv nv wi => ((hv = .int .i64 0 ∧ nv = .int .i64 0 ∧ g = 1) ∨ (hv = .int .i64 1 ∧ nv = .int .i64 1)) ∧ wi = w6)
                            case atStart => exact ⟨.inl ⟨rfl, rfl, rfl⟩, rfl⟩
                            case round =>
                              obtain ⟨hd, hwi⟩ := hrel
                              cases hwi
                              rcases hd with ⟨rfl, rfl, rfl⟩ | ⟨rfl, rfl⟩
                              · clear hlo6
                                go_wp2_with fail
                                go_roundg 0
                                case measure => omega
                                case rel => exact ⟨.inr ⟨rfl, rfl⟩, rfl⟩
                              · go_wp2_with fail
                                refine hlo6.mono ?_
                                rintro e w7 ⟨rfl, rfl⟩
                                clear hlo6
                                go_wp2_with fail
                                go_roundg (len - (i + 1))
                                case measure => have := HG.out; omega
                                case rel => exact ⟨i + 1, came2, went2, by go_num, rfl, rfl, by omega, by omega, HCR.out⟩
                      · have hkb7 : (kind == 7) = false := by simpa using hk7
                        clear hk7
                        by_cases hk8 : kind = 8
                        · subst hk8
                          have hCR4 : CR w.heap.size w (wo.alloc (.cells #[.int .i64 8, .int .i64 id, .int .i64 nn, .slice la ln lcap] 44)) c m k came went := hCR.grown ((Below.refl _ _).alloc (Nat.le_refl _) _)
                          clear hCR
                          have hcl := trigger_keeps hCR4 (by omega)
                          clear hCR4
                          go_wp2_with fail
                          refine hcl.mono ?_
                          clear hcl
                          rintro e w5 ⟨rfl, hC⟩
                          have hb2 : came + 1 ≤ (i : Int) + 1 := by omega
                          go_wp2_with fail
                          clear hcame hwp
                          generalize came + 1 = came2 at *
                          generalize went = went2 at *

                          obtain ⟨E, L, row, rv, ek, hin, hc⟩ := hC
                          have hsum := hc.sum
                          have hl0 := hc.lost
                          have hw0 := hc.wpos
                          have hrow := hc.row
                          have hpend := pending_any hin.rep (by show row.length ≤ _; rw [hrow]; have := rowOf_len (k : Int) ek.q.pending; omega)
                          have hlo := fun (W : World) (hi : In w.heap.size w W c ⟨m, E, L, row, rv⟩) => lost_some hi.rep (id := k) hc.fk
                          have HC : Hid (CI E L row k came2 went2 ek) := hc
                          have HIN : Hid (∀ W, Below w5.heap.size w5 W → In w.heap.size w W c ⟨m, E, L, row, rv⟩) := fun W hb => hin.grown hb
                          have HLO : Hid (∀ (W : World), In w.heap.size w W c ⟨m, E, L, row, rv⟩ → Calls Try.prog 15 #[.pointer (some ⟨c, 0, none⟩), .int .i64 k] W fun r w' => r = .returned (.int .i64 ek.q.lost) ∧ W = w') := hlo
                          clear hlo hin hc
                          refine hpend.mono ?_
                          clear hpend
                          rintro e w6 ⟨v, rfl, ho, hg⟩
                          have hin6 := HIN.out w6 (below_of_grown hg)
                          have hlo6 := HLO.out w6 hin6
                          have ho2 : w6.ownsRow w5.heap.size 3 1 v (rowOf k ek.q.pending).length ((rowOf k ek.q.pending).map (Value.int .i64)) := by rw [← hrow]; exact ho
                          clear ho hg HIN HLO hrow
                          have hlb : ek.q.lost ≤ 200 := by
                            have : 0 ≤ one ek.q.pending := by unfold one; split <;> omega
                            omega
                          generalize hq : ek.q.pending = pd at hsum ho2
                          have HCR : Hid (CR w.heap.size w w6 c m k came2 went2) := ⟨E, L, row, rv, ek, hin6, HC.out⟩
                          clear hq hin6 HC
                          generalize ek.q.lost = lo at hsum hl0 hlo6 hlb
                          cases pd
                          · have hs2 : came2 = went2 + lo := by simpa [one] using hsum
                            have hwb : went2 ≤ 200 := by omega
                            have hx : (came2 != went2 + lo + 0) = false := by simp; omega
                            have hx2 : (came2 != went2 + lo) = false := by simp; omega
                            have Hs : Hid (came2 = went2 + lo) := hs2
                            obtain ⟨pp, cp, rfl⟩ := rowShape0 ho2
                            clear hsum hs2 ho2
                            go_wp2_with fail
                            go_loopg [12, 13] 1 (fun g hv nv wi => hv = .int .i64 0 ∧ nv = .int .i64 0 ∧ wi = w6)
                            case atStart => exact ⟨rfl, rfl, rfl⟩
                            case round =>
                              obtain ⟨rfl, rfl, hwi⟩ := hrel
                              cases hwi
                              go_wp2_with fail
                              refine hlo6.mono ?_
                              rintro e w7 ⟨rfl, rfl⟩
                              clear hlo6
                              go_wp2_with fail
                              go_roundg (len - (i + 1))
                              case measure => have := HG.out; omega
                              case rel => exact ⟨i + 1, came2, went2, by go_num, rfl, rfl, by omega, by omega, HCR.out⟩
                          · have hs2 : came2 = went2 + lo + 1 := by simpa [one] using hsum
                            have hwb : went2 ≤ 200 := by omega
                            have hx : (came2 != went2 + lo + 1) = false := by simp; omega
                            have Hs : Hid (came2 = went2 + lo + 1) := hs2
                            obtain ⟨g6, cp, rfl, hcell6⟩ := rowShape1 ho2
                            clear hsum hs2 ho2
                            go_wp2_with fail
                            go_loopg [12, 13] 1 (fun g hv nv wi => ((hv = .int .i64 0 ∧ nv = .int .i64 0 ∧ g = 1) ∨ (hv = .int .i64 1 ∧ nv = .int .i64 1)) ∧ wi = w6)
                            case atStart => exact ⟨.inl ⟨rfl, rfl, rfl⟩, rfl⟩
                            case round =>
                              obtain ⟨hd, hwi⟩ := hrel
                              cases hwi
                              rcases hd with ⟨rfl, rfl, rfl⟩ | ⟨rfl, rfl⟩
                              · clear hlo6
                                go_wp2_with fail
                                go_roundg 0
                                case measure => omega
                                case rel => exact ⟨.inr ⟨rfl, rfl⟩, rfl⟩
                              · go_wp2_with fail
                                refine hlo6.mono ?_
                                rintro e w7 ⟨rfl, rfl⟩
                                clear hlo6
                                go_wp2_with fail
                                go_roundg (len - (i + 1))
                                case measure => have := HG.out; omega
                                case rel => exact ⟨i + 1, came2, went2, by go_num, rfl, rfl, by omega, by omega, HCR.out⟩
                        · have hkb8 : (kind == 8) = false := by simpa using hk8
                          clear hk8
                          have hCR4 : CR w.heap.size w (wo.alloc (.cells #[.int .i64 kind, .int .i64 id, .int .i64 nn, .slice la ln lcap] 44)) c m k came went := hCR.grown ((Below.refl _ _).alloc (Nat.le_refl _) _)
                          clear hCR
                          have hcl := take_keeps hCR4
                          clear hCR4
                          go_wp2_with fail
                          refine hcl.mono ?_
                          clear hcl
                          rintro e w5 (⟨rfl, hC⟩ | ⟨rfl, hC⟩)
                          · have hb2 : came ≤ (i : Int) + 1 := by omega
                            clear hcame hwp
                            go_wp2_with fail
                            generalize came = came2 at *
                            generalize went = went2 at *

                            obtain ⟨E, L, row, rv, ek, hin, hc⟩ := hC
                            have hsum := hc.sum
                            have hl0 := hc.lost
                            have hw0 := hc.wpos
                            have hrow := hc.row
                            have hpend := pending_any hin.rep (by show row.length ≤ _; rw [hrow]; have := rowOf_len (k : Int) ek.q.pending; omega)
                            have hlo := fun (W : World) (hi : In w.heap.size w W c ⟨m, E, L, row, rv⟩) => lost_some hi.rep (id := k) hc.fk
                            have HC : Hid (CI E L row k came2 went2 ek) := hc
                            have HIN : Hid (∀ W, Below w5.heap.size w5 W → In w.heap.size w W c ⟨m, E, L, row, rv⟩) := fun W hb => hin.grown hb
                            have HLO : Hid (∀ (W : World), In w.heap.size w W c ⟨m, E, L, row, rv⟩ → Calls Try.prog 15 #[.pointer (some ⟨c, 0, none⟩), .int .i64 k] W fun r w' => r = .returned (.int .i64 ek.q.lost) ∧ W = w') := hlo
                            clear hlo hin hc
                            refine hpend.mono ?_
                            clear hpend
                            rintro e w6 ⟨v, rfl, ho, hg⟩
                            have hin6 := HIN.out w6 (below_of_grown hg)
                            have hlo6 := HLO.out w6 hin6
                            have ho2 : w6.ownsRow w5.heap.size 3 1 v (rowOf k ek.q.pending).length ((rowOf k ek.q.pending).map (Value.int .i64)) := by rw [← hrow]; exact ho
                            clear ho hg HIN HLO hrow
                            have hlb : ek.q.lost ≤ 200 := by
                              have : 0 ≤ one ek.q.pending := by unfold one; split <;> omega
                              omega
                            generalize hq : ek.q.pending = pd at hsum ho2
                            have HCR : Hid (CR w.heap.size w w6 c m k came2 went2) := ⟨E, L, row, rv, ek, hin6, HC.out⟩
                            clear hq hin6 HC
                            generalize ek.q.lost = lo at hsum hl0 hlo6 hlb
                            cases pd
                            · have hs2 : came2 = went2 + lo := by simpa [one] using hsum
                              have hwb : went2 ≤ 200 := by omega
                              have hx : (came2 != went2 + lo + 0) = false := by simp; omega
                              have hx2 : (came2 != went2 + lo) = false := by simp; omega
                              have Hs : Hid (came2 = went2 + lo) := hs2
                              obtain ⟨pp, cp, rfl⟩ := rowShape0 ho2
                              clear hsum hs2 ho2
                              go_wp2_with fail
                              go_loopg [12, 13] 1 (fun g hv nv wi => hv = .int .i64 0 ∧ nv = .int .i64 0 ∧ wi = w6)
                              case atStart => exact ⟨rfl, rfl, rfl⟩
                              case round =>
                                obtain ⟨rfl, rfl, hwi⟩ := hrel
                                cases hwi
                                go_wp2_with fail
                                refine hlo6.mono ?_
                                rintro e w7 ⟨rfl, rfl⟩
                                clear hlo6
                                go_wp2_with fail
                                go_roundg (len - (i + 1))
                                case measure => have := HG.out; omega
                                case rel => exact ⟨i + 1, came2, went2, by go_num, rfl, rfl, by omega, by omega, HCR.out⟩
                            · have hs2 : came2 = went2 + lo + 1 := by simpa [one] using hsum
                              have hwb : went2 ≤ 200 := by omega
                              have hx : (came2 != went2 + lo + 1) = false := by simp; omega
                              have Hs : Hid (came2 = went2 + lo + 1) := hs2
                              obtain ⟨g6, cp, rfl, hcell6⟩ := rowShape1 ho2
                              clear hsum hs2 ho2
                              go_wp2_with fail
                              go_loopg [12, 13] 1 (fun g hv nv wi => ((hv = .int .i64 0 ∧ nv = .int .i64 0 ∧ g = 1) ∨ (hv = .int .i64 1 ∧ nv = .int .i64 1)) ∧ wi = w6)
                              case atStart => exact ⟨.inl ⟨rfl, rfl, rfl⟩, rfl⟩
                              case round =>
                                obtain ⟨hd, hwi⟩ := hrel
                                cases hwi
                                rcases hd with ⟨rfl, rfl, rfl⟩ | ⟨rfl, rfl⟩
                                · clear hlo6
                                  go_wp2_with fail
                                  go_roundg 0
                                  case measure => omega
                                  case rel => exact ⟨.inr ⟨rfl, rfl⟩, rfl⟩
                                · go_wp2_with fail
                                  refine hlo6.mono ?_
                                  rintro e w7 ⟨rfl, rfl⟩
                                  clear hlo6
                                  go_wp2_with fail
                                  go_roundg (len - (i + 1))
                                  case measure => have := HG.out; omega
                                  case rel => exact ⟨i + 1, came2, went2, by go_num, rfl, rfl, by omega, by omega, HCR.out⟩
                          · have hb2 : came ≤ (i : Int) + 1 := by omega
                            go_wp2_with fail
                            clear hcame hwp
                            generalize came = came2 at *
                            generalize went + 1 = went2 at *
                            obtain ⟨E, L, row, rv, ek, hin, hc⟩ := hC
                            have hsum := hc.sum
                            have hl0 := hc.lost
                            have hw0 := hc.wpos
                            have hrow := hc.row
                            have hpend := pending_any hin.rep (by show row.length ≤ _; rw [hrow]; have := rowOf_len (k : Int) ek.q.pending; omega)
                            have hlo := fun (W : World) (hi : In w.heap.size w W c ⟨m, E, L, row, rv⟩) => lost_some hi.rep (id := k) hc.fk
                            have HC : Hid (CI E L row k came2 went2 ek) := hc
                            have HIN : Hid (∀ W, Below w5.heap.size w5 W → In w.heap.size w W c ⟨m, E, L, row, rv⟩) := fun W hb => hin.grown hb
                            have HLO : Hid (∀ (W : World), In w.heap.size w W c ⟨m, E, L, row, rv⟩ → Calls Try.prog 15 #[.pointer (some ⟨c, 0, none⟩), .int .i64 k] W fun r w' => r = .returned (.int .i64 ek.q.lost) ∧ W = w') := hlo
                            clear hlo hin hc
                            refine hpend.mono ?_
                            clear hpend
                            rintro e w6 ⟨v, rfl, ho, hg⟩
                            have hin6 := HIN.out w6 (below_of_grown hg)
                            have hlo6 := HLO.out w6 hin6
                            have ho2 : w6.ownsRow w5.heap.size 3 1 v (rowOf k ek.q.pending).length ((rowOf k ek.q.pending).map (Value.int .i64)) := by rw [← hrow]; exact ho
                            clear ho hg HIN HLO hrow
                            have hlb : ek.q.lost ≤ 200 := by
                              have : 0 ≤ one ek.q.pending := by unfold one; split <;> omega
                              omega
                            generalize hq : ek.q.pending = pd at hsum ho2
                            have HCR : Hid (CR w.heap.size w w6 c m k came2 went2) := ⟨E, L, row, rv, ek, hin6, HC.out⟩
                            clear hq hin6 HC
                            generalize ek.q.lost = lo at hsum hl0 hlo6 hlb
                            cases pd
                            · have hs2 : came2 = went2 + lo := by simpa [one] using hsum
                              have hwb : went2 ≤ 200 := by omega
                              have hx : (came2 != went2 + lo + 0) = false := by simp; omega
                              have hx2 : (came2 != went2 + lo) = false := by simp; omega
                              have Hs : Hid (came2 = went2 + lo) := hs2
                              obtain ⟨pp, cp, rfl⟩ := rowShape0 ho2
                              clear hsum hs2 ho2
                              go_wp2_with fail
                              go_loopg [12, 13] 1 (fun g hv nv wi => hv = .int .i64 0 ∧ nv = .int .i64 0 ∧ wi = w6)
                              case atStart => exact ⟨rfl, rfl, rfl⟩
                              case round =>
                                obtain ⟨rfl, rfl, hwi⟩ := hrel
                                cases hwi
                                go_wp2_with fail
                                refine hlo6.mono ?_
                                rintro e w7 ⟨rfl, rfl⟩
                                clear hlo6
                                go_wp2_with fail
                                go_roundg (len - (i + 1))
                                case measure => have := HG.out; omega
                                case rel => exact ⟨i + 1, came2, went2, by go_num, rfl, rfl, by omega, by omega, HCR.out⟩
                            · have hs2 : came2 = went2 + lo + 1 := by simpa [one] using hsum
                              have hwb : went2 ≤ 200 := by omega
                              have hx : (came2 != went2 + lo + 1) = false := by simp; omega
                              have Hs : Hid (came2 = went2 + lo + 1) := hs2
                              obtain ⟨g6, cp, rfl, hcell6⟩ := rowShape1 ho2
                              clear hsum hs2 ho2
                              go_wp2_with fail
                              go_loopg [12, 13] 1 (fun g hv nv wi => ((hv = .int .i64 0 ∧ nv = .int .i64 0 ∧ g = 1) ∨ (hv = .int .i64 1 ∧ nv = .int .i64 1)) ∧ wi = w6)
                              case atStart => exact ⟨.inl ⟨rfl, rfl, rfl⟩, rfl⟩
                              case round =>
                                obtain ⟨hd, hwi⟩ := hrel
                                cases hwi
                                rcases hd with ⟨rfl, rfl, rfl⟩ | ⟨rfl, rfl⟩
                                · clear hlo6
                                  go_wp2_with fail
                                  go_roundg 0
                                  case measure => omega
                                  case rel => exact ⟨.inr ⟨rfl, rfl⟩, rfl⟩
                                · go_wp2_with fail
                                  refine hlo6.mono ?_
                                  rintro e w7 ⟨rfl, rfl⟩
                                  clear hlo6
                                  go_wp2_with fail
                                  go_roundg (len - (i + 1))
                                  case measure => have := HG.out; omega
                                  case rel => exact ⟨i + 1, came2, went2, by go_num, rfl, rfl, by omega, by omega, HCR.out⟩
      · obtain rfl : i = len := by omega
        have hbel := hCR.bel
        obtain ⟨E, L, row, rv, ek, hin, hc⟩ := hCR
        have hle : ek.q.lost ≤ came := by
          have h1 := hc.sum
          have h2 := hc.wpos
          have h3 : 0 ≤ one ek.q.pending := by unfold one; split <;> omega
          omega
        have hlo := lost_some hin.rep (id := k) hc.fk
        clear hin hc
        generalize ek.q.lost = lo at hlo hle
        go_wp2_with fail
        refine hlo.mono ?_
        rintro e w7 ⟨rfl, rfl⟩
        go_wp2_with fail
        go_ret
        exact ⟨rfl, hbel⟩
end Go.Proofs.Ytekgfdfganelmaa
