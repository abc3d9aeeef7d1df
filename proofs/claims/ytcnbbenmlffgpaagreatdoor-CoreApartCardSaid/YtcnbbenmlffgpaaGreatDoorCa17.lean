/- CoreApart returns true at every input. No condition. Part of its proof. -/
import Derived.Test.YtcnbbenmlffgpaaGreatDoorCa15
import Derived.Test.YtcnbbenmlffgpaaGreatDoorCa13
import Derived.Sort.WalkB12
import Derived.Lib.SlicesMore
import Derived.Maps.AppendAt
import Derived.Laws.OwnMore
import Derived.Shelf.RegionOpenPlain
import Derived.Test.YtcnbbenmlffgpaaGreatDoorCa16
set_option linter.unusedVariables false
/- Walks of the core's Any and made. Conditions: the blocks hold what CO.hl says. -/
namespace Go.Proofs.YtcnbbenmlffgpaaGreatDoor
open Go.RowKit

/-- What Any tells. -/
def anyV (l : List Pl) (x : Nat) : Value := match pget l 2 x with
  | some p => .tuple #[p.obj, .bool true]
  | none => match pget l 1 x with
    | some p => .tuple #[p.obj, .bool true]
    | none => .tuple #[zobj, .bool false]
set_option maxHeartbeats 2000000 in
theorem cany_gen {w : World} {S : CO} (h : Sep w S.hl) {x : Nat} {a b c e : Int} (hG : Calls Tryz.prog 72 #[.pointer (some ⟨S.t, 0, none⟩), .int .u32 (x : Int)] (w.alloc (.cells #[.int .i64 0, .int .i64 0, .int .i64 0] 39)) (Told (w.alloc (.cells #[.int .i64 0, .int .i64 0, .int .i64 0] 39)) (.tuple #[.agg #[.int .i64 a, .int .i64 b, .int .i64 c], .int .i64 e]))) :
    Calls Tryz.prog 22 #[.pointer (some ⟨S.c, 0, none⟩), .int .u32 (x : Int)] w (Told w (.tuple #[.agg #[.int .i64 a, .int .i64 b, .int .i64 c], .bool (e == 0)])) := by
  have c1 := CO.c1 (h.alloc (.cells #[.int .i64 0, .int .i64 0, .int .i64 0] 39))
  clear h
  go_enter Tryz.func22, Tryz.ntmps22
  go_wp2_with (go_at_call 72; refine hG.mono ?_; rintro r w1 ⟨rfl, hb⟩; obtain ⟨hb, e0, e1, e2, ef, hlt⟩ := new3 hb; have HB := hidden hb; have f0 := ef 0; have f1 := ef 1; have f2 := ef 2; clear hb ef)
  refine bodyPost_ret (v := .tuple #[.agg #[.int .i64 a, .int .i64 b, .int .i64 c], .bool (e == 0)]) (by simp [results, Tryz.results22, go_sem, e0, e1, e2, hlt]) rfl ⟨rfl, below3 HB.out _ _ _ _⟩
theorem cany_any {w : World} {S : CO} (h : Sep w S.hl) (ok : LOk S.l) {x : Nat} (hx : x < 4294967296) : Calls Tryz.prog 22 #[.pointer (some ⟨S.c, 0, none⟩), .int .u32 (x : Int)] w (Told w (anyV S.l x)) := by
  unfold anyV
  cases h2 : pget S.l 2 x with
  | some p => exact cany_gen h (hpeek_zom (h := S.ht) (CO.sT (h.alloc _)) ok hx h2)
  | none =>
    have hp := hpeek_else (h := S.ht) (CO.sT (h.alloc (.cells #[.int .i64 0, .int .i64 0, .int .i64 0] 39))) ok hx h2
    cases h1 : pget S.l 1 x with
    | some p =>
      refine cany_gen (e := 0) h (hp.mono ?_)
      rintro r w' ⟨⟨a, b, c, e, rfl, (⟨q, hq, hv, rfl⟩ | ⟨hn, _, _⟩)⟩, hb⟩
      · have : q = p := by
          have hq' : pget S.l 1 x = some q := hq
          rw [h1] at hq'; cases hq'; rfl
        subst this
        rw [hv]
        exact ⟨rfl, hb⟩
      · have hn' : pget S.l 1 x = none := hn
        rw [h1] at hn'; cases hn'
    | none =>
      refine cany_gen (e := 8) h (hp.mono ?_)
      rintro r w' ⟨⟨a, b, c, e, rfl, (⟨q, hq, hv, rfl⟩ | ⟨hn, hv, rfl⟩)⟩, hb⟩
      · have hq' : pget S.l 1 x = some q := hq
        rw [h1] at hq'; cases hq'
      · rw [hv]
        exact ⟨rfl, hb⟩
theorem ownsRow_base {w : World} {B B' size n : Nat} {T : TypeId} {v : Value} {xs : List Value} (h : w.ownsRow B T size v n xs) (hB : B' ≤ B) : w.ownsRow B' T size v n xs := by
  refine ⟨h.1, ?_⟩
  rcases h.2 with h | ⟨g, cap, cur, e, hg, rest⟩
  · exact .inl h
  · exact .inr ⟨g, cap, cur, e, Nat.le_trans hB hg, rest⟩
/-- The test of made. -/
def kidT (l : List Pl) (a x : Nat) : Bool := decide (x ≠ 0) && match l[x % 256]? with
  | some p => decide (p.fac = a)
  | none => false
theorem kidT_live {l : List Pl} {a x : Nat} {p : Pl} (hp : pget l 1 x = some p) : kidT l a x = (decide (p.fac = a) && decide (x ≠ 0)) := by
  unfold kidT
  rw [(pget_some.1 hp).1]
  simp [Bool.and_comm]
set_option maxHeartbeats 4000000 in
set_option maxRecDepth 100000 in
theorem cmade_fac {w : World} {S : CO} {fr : List Nat} {N K : Nat} (h : Sep w S.hl) (ok : S.Ok fr N K) {x : Nat} (hx : x < 4294967296) {p : Pl} (hp : pget S.l 1 x = some p) (hk : p.kind = 1) :
    Calls Tryz.prog 60 #[.pointer (some ⟨S.c, 0, none⟩), .int .u32 (x : Int)] w (NewHs w (kids S.l x)) := by
  have hlok := ok.inv.lok
  have hO := cown_some h ok hx hp hk
  have HS := hidden h
  have HLok := hidden hlok
  have hkids : kids S.l x = (allL S.l 1).filter (kidT S.l p.own) := by
    unfold kids; rw [hp]; simp only [hk, if_true]; rfl
  rw [hkids]
  have HLv : Hid (∀ w1, Below w.heap.size w w1 → w1.cell? ⟨S.c, 1, none⟩ = some (.pointer (some ⟨S.t, 0, none⟩)) ∧ Calls Tryz.prog 58 #[.pointer (some ⟨S.t, 0, none⟩)] w1 (NewHs w1 (allL S.l 1))) := fun w1 hb => by
    have s1 := (h.grown hb).sep
    exact ⟨CO.c1 s1, hlive_any (h := S.ht) (CO.sT s1) hlok⟩
  have HGt : Hid (∀ w1 y, Below w.heap.size w w1 → y ∈ allL S.l 1 → w1.cell? ⟨S.c, 1, none⟩ = some (.pointer (some ⟨S.t, 0, none⟩)) ∧ ∃ q : Pl, pget S.l 1 y = some q ∧ Calls Tryz.prog 62 #[.pointer (some ⟨S.t, 0, none⟩), .int .u32 (y : Int)] w1 (Told w1 (.tuple #[.agg #[.int .i64 (q.kind : Int), .int .i64 (q.at_ : Int), .int .i64 (q.fac : Int)], .int .i64 0]))) := fun w1 y hb hy => by
    have s1 := (h.grown hb).sep
    obtain ⟨q, hq⟩ := (mem_all (by rw [hlok.1]; omega)).1 hy
    have hy32 : y < 4294967296 := by
      obtain ⟨a1, a2, _⟩ := pget_some.1 hq
      have := (hlok.2 q (List.mem_of_getElem? a1)).2
      unfold nm at a2; omega
    exact ⟨CO.c1 s1, q, hq, hget_some (h := S.ht) (CO.sT s1) hlok hy32 hq⟩
  have hLl : (allL S.l 1).length ≤ 256 := by
    have := allTo_len S.l 1 S.l.length
    unfold allL; rw [hlok.1] at this ⊢; exact this
  obtain ⟨i0, hinf, hz0, hz1, hz2⟩ := info_parts infoHandle
  clear h ok hlok hp hk hkids
  generalize p.own = po at *
  generalize hL : allL S.l 1 = L at *
  go_enter Tryz.func60, Tryz.ntmps60
  go_wp2_with fail
  refine hO.mono ?_
  rintro r w1 ⟨rfl, hb1⟩
  obtain ⟨c1, hlv⟩ := HLv.out w1 hb1
  have HB1 := hidden hb1
  clear hb1
  go_wp2_with fail
  refine hlv.mono ?_
  intro r w2 hx2
  obtain ⟨a0, cap0, rfl, hb2, hih⟩ := hx2.shape
  have HB2 : Hid (Below w.heap.size w w2) := HB1.out.trans (hb2.mono HB1.out.size)
  have HIh := hidden hih
  have hsz2 := HB2.out.size
  clear hx2 hb2 hih hlv c1 hO
  go_wp2_with fail
  go_loopg [5, 26] L.length (fun gk ov iv wr => ∃ k : Nat, iv = .int .i64 k ∧ k + gk = L.length ∧ OutH w2 wr ov ((L.take k).filter (kidT S.l po)))
  case atStart => exact ⟨0, rfl, Nat.zero_add _, by simpa using OutH.nil w2⟩
  case round =>
    obtain ⟨k, rfl, hkg, hout⟩ := hrel
    have HO := hidden hout
    have HKG := hidden hkg
    clear hout
    by_cases hlt : k < L.length
    · obtain ⟨y, hy⟩ : ∃ y, L[k]? = some y := ⟨_, List.getElem?_eq_getElem hlt⟩
      obtain ⟨g0, rfl, hg0, hgl, hcell⟩ := (HIh.out.below HO.out.2).at' k y hy
      obtain ⟨c1, q, hq, hget⟩ := HGt.out wr y (HB2.out.trans (HO.out.2.mono HB2.out.size)) (List.mem_of_getElem? hy)
      have hstep : (L.take (k + 1)).filter (kidT S.l po) = (L.take k).filter (kidT S.l po) ++ if kidT S.l po y = true then [y] else [] := by
        rw [List.take_add_one, hy, List.filter_append]
        simp [List.filter_cons]
      have HStep := hidden hstep
      have hkt := kidT_live (a := po) hq
      have HKt := hidden hkt
      have hlen : ((L.take k).filter (kidT S.l po)).length ≤ 256 := Nat.le_trans (List.length_filter_le _ _) (by rw [List.length_take]; omega)
      clear hstep hkt hq hy
      go_wp2_with fail
      refine hget.mono ?_
      rintro r w3 ⟨rfl, hb3⟩
      have HO3 : Hid (∀ o, OutH w2 (w3.alloc o) u5 ((L.take k).filter (kidT S.l po))) := fun o => (HO.out.below hb3).alloc o
      have hsz3 : w2.heap.size ≤ w3.heap.size := Nat.le_trans HO.out.2.size hb3.size
      clear hb3 hget HO
      by_cases hc : kidT S.l po y = true
      · have hcc := HKt.out
        rw [hc] at hcc
        have hcc2 := hcc.symm
        rw [Bool.and_eq_true, decide_eq_true_eq, decide_eq_true_eq] at hcc2
        have hb1 : (((q.fac : Nat) : Int) == (po : Int)) = true := by simp; omega
        have hb2 : (((y : Nat) : Int) != 0) = true := by simp; omega
        have hb3 : (((y : Nat) : Int) == 0) = false := by simp; omega
        have HC := hidden hc
        clear hc hcc hcc2
        have hlen2 := HO3.out (.cells #[.int .i64 (q.kind : Int), .int .i64 (q.at_ : Int), .int .i64 (q.fac : Int)] 39)
        go_wp2_with (refine wpList_append_own _ rfl (.tmp 47) (.tmp 49) 30 rfl w2.heap.size 32 i0 (.int .u32 0) 1 4 Tryz.underlying30 hinf hz0 hz1 hz2 rfl (by decide) _ _ _ rfl ((HO3.out _).1.alloc _) ⟨w3.heap.size + 1, 0, none⟩ 1 1 [.int .u32 (y : Int)] rfl rfl (newh_cell2 _ _ _) (by simp [Value.oneCell']) (by unfold maxLen; omega) (by omega) (by simp; omega) ?_; intro v' w4 hown' hgrow _; have HR := hidden ((HO3.out _).app1 (M := [y]) hown' hgrow); clear hown' hgrow HO3 hlen2)
        have HR2 : Hid (OutH w2 w4 v' ((L.take (k + 1)).filter (kidT S.l po))) := by
          have := HStep.out
          rw [if_pos HC.out] at this
          rw [this]; exact HR.out
        clear HR
        go_roundg (L.length - (k + 1))
        case measure => have := HKG.out; omega
        case rel => exact ⟨k + 1, by go_num, by omega, HR2.out⟩
      · have hcf : kidT S.l po y = false := by simpa using hc
        have HR2 : Hid (∀ o, OutH w2 (w3.alloc o) u5 ((L.take (k + 1)).filter (kidT S.l po))) := fun o => by
          have := HStep.out
          rw [if_neg hc, List.append_nil] at this
          rw [this]; exact HO3.out o
        have hcc := HKt.out
        rw [hcf] at hcc
        have hcase : q.fac ≠ po ∨ q.fac = po ∧ y = 0 := by
          by_cases h1 : q.fac = po
          · right
            refine ⟨h1, ?_⟩
            rcases Nat.eq_zero_or_pos y with h2 | h2
            · exact h2
            · exfalso
              have h3 : y ≠ 0 := by omega
              simp [h1, h3] at hcc
          · exact .inl h1
        clear hc hcc hcf HO3
        rcases hcase with h1 | ⟨h1, h2⟩
        · have hb1 := beq_nat_f h1
          clear h1
          go_wp2_with fail
          go_roundg (L.length - (k + 1))
          case measure => have := HKG.out; omega
          case rel => exact ⟨k + 1, by go_num, by omega, HR2.out _⟩
        · have hb1 : (((q.fac : Nat) : Int) == (po : Int)) = true := by simp; omega
          have hb2 : (((y : Nat) : Int) != 0) = false := by simp; omega
          have hb3 : (((y : Nat) : Int) == 0) = true := by simp; omega
          clear h1 h2
          go_wp2_with fail
          go_roundg (L.length - (k + 1))
          case measure => have := HKG.out; omega
          case rel => exact ⟨k + 1, by go_num, by omega, HR2.out _⟩
    · have hkl : k = L.length := by omega
      have hout := HO.out
      rw [hkl, List.take_length] at hout
      have HR : Hid (NewHs w (L.filter (kidT S.l po)) (.returned u5) wr) := ⟨u5, rfl, ownsRow_base hout.1 hsz2, HB2.out.trans (hout.2.mono hsz2)⟩
      clear hout HO
      go_wp2_with fail
      first | exact HR.out | (go_ret; exact HR.out)
theorem cmade_err {w : World} {S : CO} {x : Nat} {e : Int} (he : e ≠ 0) (hO : Calls Tryz.prog 16 #[.pointer (some ⟨S.c, 0, none⟩), .int .u32 (x : Int)] w (Told w (.tuple #[.int .i64 0, .int .i64 e]))) :
    Calls Tryz.prog 60 #[.pointer (some ⟨S.c, 0, none⟩), .int .u32 (x : Int)] w (NewHs w []) := by
  have hb1 : (e == 0) = false := by simpa using he
  go_enter Tryz.func60, Tryz.ntmps60
  go_wp2_with (go_at_call 16; refine hO.mono ?_; rintro r w1 ⟨rfl, hb⟩; have HB := hidden hb; clear hb)
  have HR : Hid (∀ w', w' = w1 → NewHs w [] (.returned (.slice none 0 0)) w') := fun w' e => ⟨_, rfl, World.ownsRow_nil _ _ _ _, by rw [e]; exact HB.out⟩
  first | exact HR.out _ rfl | (go_ret; exact HR.out _ rfl)
theorem cmade_any {w : World} {S : CO} {fr : List Nat} {N K : Nat} (h : Sep w S.hl) (ok : S.Ok fr N K) {x : Nat} (hx : x < 4294967296) : Calls Tryz.prog 60 #[.pointer (some ⟨S.c, 0, none⟩), .int .u32 (x : Int)] w (NewHs w (kids S.l x)) := by
  cases hp : pget S.l 1 x with
  | none =>
    rw [kids_none (fun p h => by rw [hp] at h; cases h)]
    exact cmade_err (e := 8) (by decide) (cown_err (by decide) (cof_none h ok.inv.lok hx 1 hp))
  | some p =>
    by_cases hk : p.kind = 1
    · exact cmade_fac h ok hx hp hk
    · rw [kids_none (fun q h => by rw [hp] at h; cases h; exact hk)]
      exact cmade_err (e := 10) (by decide) (cown_err (by decide) (cof_other h ok.inv.lok hx 1 hp (by decide) (by omega)))
end Go.Proofs.YtcnbbenmlffgpaaGreatDoor

/- Two rows of handles under way: appends to one, cuts, a reversal. No condition. -/
namespace Go.Proofs.YtcnbbenmlffgpaaGreatDoor
open Go.RowKit

def encH (x : Nat) : Value := .int .u32 (x : Int)
theorem OutH.shape {w wr : World} {v : Value} {L : List Nat} (h : OutH w wr v L) : ∃ (a : Option Addr) (cap : Nat), v = .slice a L.length cap := by
  rcases h.1.2 with ⟨rfl, h0⟩ | ⟨g, cap, cur, rfl, _⟩
  · exact ⟨none, 0, by rw [h0]⟩
  · exact ⟨_, cap, rfl⟩
theorem OutH.shape1 {w wr : World} {v : Value} {L : List Nat} (h : OutH w wr v L) (hl : L ≠ []) : ∃ (g cap : Nat), v = .slice (some ⟨g, 0, none⟩) L.length cap := by
  rcases h.1.2 with ⟨rfl, h0⟩ | ⟨g, cap, cur, rfl, _⟩
  · exact absurd (List.eq_nil_of_length_eq_zero h0) hl
  · exact ⟨g, cap, rfl⟩
theorem OutH.parts {w wr : World} {g n cap : Nat} {L : List Nat} (h : OutH w wr (.slice (some ⟨g, 0, none⟩) n cap) L) : ∃ cur, n = L.length ∧ w.heap.size ≤ g ∧ wr.heap[g]? = some (.cells cur 32 (0, 0)) ∧ L.length ≤ cap ∧ cap ≤ maxLen ∧ cur.size = cap ∧ cur.toList.take L.length = hands L := by
  rcases h.1.2 with ⟨h', _⟩ | ⟨g', cap', cur, h', a1, a2, a3, a4, a5, a6⟩
  · simp at h'
  · simp only [Value.slice.injEq, Option.some.injEq, Addr.mk.injEq, and_true, true_and] at h'
    obtain ⟨rfl, rfl, rfl⟩ := h'
    exact ⟨cur, rfl, a1, a2, a3, a4, by simpa using a5, by simpa using a6⟩
theorem OutH.cellAt {w wr : World} {g n cap : Nat} {L : List Nat} (h : OutH w wr (.slice (some ⟨g, 0, none⟩) n cap) L) {j x : Nat} (hj : L[j]? = some x) : wr.cell? ⟨g, j, none⟩ = some (.int .u32 (x : Int)) ∧ w.heap.size ≤ g ∧ g < wr.heap.size := by
  obtain ⟨cur, _, a1, a2, _, _, _, a6⟩ := h.parts
  refine ⟨?_, a1, lt_of_block a2⟩
  have hv := hands_at hj
  rw [← a6, List.getElem?_take] at hv
  split at hv
  · simp only [World.cell?, a2, Option.isSome_none, Bool.false_eq_true, if_false]
    rw [← Array.getElem?_toList]; exact hv
  · cases hv
theorem OutH.cut {w wr : World} {g n cap x : Nat} {L : List Nat} (h : OutH w wr (.slice (some ⟨g, 0, none⟩) n cap) (L ++ [x])) : OutH w wr (.slice (some ⟨g, 0, none⟩) L.length cap) L := by
  obtain ⟨cur, _, a1, a2, a3, a4, a5, a6⟩ := h.parts
  have hl : L.length + 1 ≤ cap := by simpa using a3
  refine ⟨⟨by simp [hands_len], .inr ⟨g, cap, cur, rfl, a1, a2, by omega, a4, by simpa using a5, ?_⟩⟩, h.2⟩
  have := congrArg (List.take L.length) a6
  rw [List.take_take, List.length_append, hands_app, show min L.length (L.length + [x].length) = L.length by simp] at this
  rw [Nat.mul_one, this]
  have e := hands_len L
  rw [← e, List.take_left]
/-- Two rows that are apart. -/
def Two (w wr : World) (v : Value) (L : List Nat) (u : Value) (M : List Nat) : Prop := OutH w wr v L ∧ OutH w wr u M ∧ ∀ b, v.ownBlock = some b → u.ownBlock ≠ some b
theorem Two.swap {w wr : World} {v u : Value} {L M : List Nat} (h : Two w wr v L u M) : Two w wr u M v L := ⟨h.2.1, h.1, fun b h1 h2 => h.2.2 b h2 h1⟩
theorem Two.below {w wr w1 : World} {v u : Value} {L M : List Nat} (h : Two w wr v L u M) (hb : Below wr.heap.size wr w1) : Two w w1 v L u M := ⟨h.1.below hb, h.2.1.below hb, h.2.2⟩
theorem Two.alloc {w wr : World} {v u : Value} {L M : List Nat} (h : Two w wr v L u M) (o : Obj) : Two w (wr.alloc o) v L u M := ⟨h.1.alloc o, h.2.1.alloc o, h.2.2⟩
theorem Two.cut {w wr : World} {g n cap x : Nat} {u : Value} {L M : List Nat} (h : Two w wr (.slice (some ⟨g, 0, none⟩) n cap) (L ++ [x]) u M) : Two w wr (.slice (some ⟨g, 0, none⟩) L.length cap) L u M := ⟨h.1.cut, h.2.1, h.2.2⟩
/-- Behind an append to the first. -/
theorem Two.app {w wr w1 : World} {v v' u : Value} {L M X : List Nat} (h : Two w wr v L u M) (hown : w1.ownsRow w.heap.size 32 1 v' (L.length + X.length) (hands L ++ hands X)) (hg : wr.grownBy w1 v.ownBlock) (hat : v'.ownBlock = v.ownBlock ∨ v'.ownBlock = some wr.heap.size) : Two w w1 v' (L ++ X) u M := by
  obtain ⟨h1, h2, h3⟩ := h
  have hb : Below w.heap.size w w1 := h1.2.trans ((Below.refl _ wr).mono h1.2.size |>.grown hg h1.2.size (fun b hb => (h1.1.lt b hb).1))
  refine ⟨h1.app0 hown hg, ⟨h2.1.kept hg ?_, hb⟩, fun b e1 e2 => ?_⟩
  · cases hv : v.ownBlock with
    | none => cases hu : u.ownBlock with
      | none => exact .inl rfl
      | some c => exact .inr (by simp)
    | some b => exact .inr (fun e => h3 b hv e)
  · rcases hat with e | e
    · exact h3 b (e ▸ e1) e2
    · rw [e] at e1; cases e1
      exact absurd (h2.1.lt _ e2).2 (by omega)
/-- An append of a slice of handles that was made. -/
theorem app_hs {w : World} {B B' : Nat} {v : Value} {L M : List Nat} {a : Option Addr} {cap : Nat} {ty : TypeId} (h : w.ownsRow B 32 1 v L.length (hands L)) (hM : IsHs B' M a w) (hn : L.length + M.length ≤ 65536) (hB : B ≤ w.heap.size) :
    ∃ v' w', (Builtin.append_ #[30, 30] ty #[v, .slice a M.length (match a with | none => 0 | some _ => cap)]).run Tryz.prog w = .ok v' w' ∧ w'.ownsRow B 32 1 v' (L.length + M.length) (hands L ++ hands M) ∧ w.grownBy w' v.ownBlock ∧ (v'.ownBlock = v.ownBlock ∨ v'.ownBlock = some w.heap.size) := by
  obtain ⟨i0, hinf, hz0, hz1, hz2⟩ := info_parts infoHandle
  cases a with
  | none =>
    have hM0 : M = [] := by
      cases M with
      | nil => rfl
      | cons x r => obtain ⟨g, h1, _⟩ := hM.at' 0 x rfl; cases h1
    subst hM0
    exact ⟨v, w, run_append_owned_none w B 30 ty 32 i0 1 Tryz.underlying30 hinf v _ _ h, by simpa [hands] using h, ⟨rfl, rfl, rfl, Nat.le_refl _, fun _ _ _ => rfl⟩, .inl rfl⟩
  | some ad =>
    obtain ⟨v', w', e1, e2, e3, _, e5⟩ := run_append_own_at (P := Tryz.prog) w B 30 ty 32 i0 (.int .u32 0) 1 4 Tryz.underlying30 hinf hz0 hz1 hz2 rfl (by decide) v _ _ h ad M.length cap (hands M) (by simp [hands_len]) (fun j u hj => by
      have hj' : j < M.length := by have := (List.getElem?_eq_some_iff.1 hj).1; simpa [hands_len] using this
      obtain ⟨g, g1, _, _, g4⟩ := hM.at' j M[j] (List.getElem?_eq_getElem hj')
      cases g1
      rw [hands_at (List.getElem?_eq_getElem hj')] at hj
      cases hj
      have e : (⟨g, 0, none⟩ : Addr).add j = ⟨g, j, none⟩ := by unfold Addr.add; split <;> simp_all
      rw [e]; exact g4) (fun u hu => by
        obtain ⟨x, _, rfl⟩ := List.mem_map.1 hu
        rfl) (by unfold maxLen; omega) (by omega) hB
    exact ⟨v', w', e1, e2, e3, e5⟩
/-- What a reversal leaves. -/
theorem holds_hands {w wr : World} {g n cap : Nat} {L : List Nat} (h : OutH w wr (.slice (some ⟨g, 0, none⟩) n cap) L) : Go.Sort.Holds encH wr g 0 L.toArray := by
  obtain ⟨cur, _, a1, a2, _, _, _, a6⟩ := h.parts
  intro j hj
  have hj' : j < L.length := by simpa using hj
  have hx := List.getElem?_eq_getElem hj'
  refine ⟨?_, by simp [World.frozen?, a2]⟩
  have := (h.cellAt hx).1
  rw [Nat.zero_add, this, getElem!_pos _ j hj]
  simp [encH]
theorem take_putCellsH (cur : Array Value) (F : Array Nat) (h : F.size ≤ cur.size) : (Go.Sort.putCells encH 0 F cur).toList.take F.size = F.toList.map encH := by
  apply List.ext_getElem?
  intro j
  by_cases hj : j < F.size
  · rw [List.getElem?_take_of_lt hj, Array.getElem?_toList]
    simp [Go.Sort.putCells, hj, show j < cur.size by omega]
  · rw [List.getElem?_take_eq_none (by omega), List.getElem?_eq_none (by simp; omega)]
theorem heap_putH {w : World} {g n : Nat} {cur : Array Value} {e : TypeId} (d : Array Nat) (hb : w.heap[g]? = some (.cells cur e (0, 0))) :
    (Go.Sort.putRow encH (Go.Sort.ahead w n) g 0 d).heap[g]? = some (.cells (Go.Sort.putCells encH 0 d cur) e (0, 0)) := by
  have hg : g < w.heap.size := (Array.getElem?_eq_some_iff.1 hb).1
  simp [Go.Sort.putRow, Go.Sort.mapBlock, Go.Sort.ahead, Array.getElem?_modify, hb, Go.Sort.onCells]
theorem grown_putH {w : World} {g n : Nat} (d : Array Nat) : w.grownBy (Go.Sort.putRow encH (Go.Sort.ahead w n) g 0 d) (some g) := by
  refine ⟨rfl, rfl, rfl, by simp [Go.Sort.putRow, Go.Sort.mapBlock, Go.Sort.ahead], fun k hk hne => ?_⟩
  have : g ≠ k := fun e => hne (by rw [e])
  simp [Go.Sort.putRow, Go.Sort.mapBlock, Go.Sort.ahead, Array.getElem?_modify, this]
theorem OutH.reversed {w wr : World} {g n cap k : Nat} {L : List Nat} (h : OutH w wr (.slice (some ⟨g, 0, none⟩) n cap) L) : OutH w (Go.Sort.putRow encH (Go.Sort.ahead wr k) g 0 L.toArray.reverse) (.slice (some ⟨g, 0, none⟩) n cap) L.reverse := by
  obtain ⟨cur, rfl, a1, a2, a3, a4, a5, a6⟩ := h.parts
  have hgr := grown_putH (w := wr) (g := g) (n := k) L.toArray.reverse
  have hsz : L.toArray.reverse.size = L.length := by simp
  refine ⟨⟨by simp [hands_len], .inr ⟨g, cap, _, by rw [List.length_reverse], a1, heap_putH _ a2, by simpa using a3, a4, by simp [Go.Sort.putCells, a5], ?_⟩⟩, h.2.trans ((Below.refl _ wr).mono h.2.size |>.grown hgr h.2.size (fun b hb => by cases hb; exact a1))⟩
  have e : L.reverse.length * 1 = L.toArray.reverse.size := by simp
  rw [e, take_putCellsH _ _ (by rw [hsz, a5]; exact a3)]
  simp [hands, encH]
theorem NewHs.shape0 {w : World} {L : List Nat} {r : Ending} {w' : World} (h : NewHs w L r w') : ∃ (a : Option Addr) (cap : Nat), r = .returned (.slice a L.length cap) ∧ Below w.heap.size w w' ∧ IsHs w.heap.size L a w' ∧ (a = none → cap = 0) := by
  obtain ⟨v, rfl, ⟨h1, h2⟩, hb⟩ := h
  have h := NewHs.shape (w := w) (L := L) (w' := w') (r := .returned v) ⟨v, rfl, ⟨h1, h2⟩, hb⟩
  obtain ⟨a, cap, e, hb', hi⟩ := h
  refine ⟨a, cap, e, hb', hi, fun ha => ?_⟩
  subst ha
  rcases h2 with ⟨rfl, h0⟩ | ⟨g, cap', cur, rfl, _⟩
  · simp only [Ending.returned.injEq, Value.slice.injEq] at e; omega
  · simp at e
theorem app_hs0 {w : World} {B B' : Nat} {v : Value} {L M : List Nat} {a : Option Addr} {cap : Nat} {ty : TypeId} (h : w.ownsRow B 32 1 v L.length (hands L)) (hM : IsHs B' M a w) (ha : a = none → cap = 0) (hn : L.length + M.length ≤ 65536) (hB : B ≤ w.heap.size) :
    ∃ v' w', (Builtin.append_ #[30, 30] ty #[v, .slice a M.length cap]).run Tryz.prog w = .ok v' w' ∧ w'.ownsRow B 32 1 v' (L.length + M.length) (hands L ++ hands M) ∧ w.grownBy w' v.ownBlock ∧ (v'.ownBlock = v.ownBlock ∨ v'.ownBlock = some w.heap.size) := by
  have := app_hs (ty := ty) (cap := cap) h hM hn hB
  cases a with
  | none => rw [ha rfl]; exact this
  | some ad => exact this
end Go.Proofs.YtcnbbenmlffgpaaGreatDoor

/- The walk of slices.Reverse at handles. Condition: the slice's row holds d. -/
namespace Go.Proofs.YtcnbbenmlffgpaaGreatDoor
open Go.RowKit
open Go.Sort (Holds putRow holds_putRow holds_ahead putRow_self reverseLoop swp size_swp)

set_option maxHeartbeats 1600000 in
set_option maxRecDepth 1000000 in
theorem reverse_row (blk cap : Nat) (d : Array Nat) (w : World) (hH : Holds encH w blk 0 d) (hsz : d.size ≤ 65536) :
    Calls Tryz.prog 61 #[.slice (some ⟨blk, 0, none⟩) d.size cap] w fun e w' => e = .returned (.tuple #[]) ∧ ∃ n, w' = putRow encH (Go.Sort.ahead w n) blk 0 d.reverse := by
  go_enter Tryz.func61, Tryz.ntmps61
  go_wp2_with fail
  go_loopg [2, 3] d.size (fun k s2 s3 wr => ∃ (i jn : Nat) (jz : Int) (dk : Array Nat) (n : Nat), s2 = .int .i64 i ∧ s3 = .int .i64 jz ∧ ((i : Int) < jz → jz = jn ∧ jn < d.size) ∧ (¬ (i : Int) < jz → ¬ i < jn) ∧ jn - i ≤ k ∧
    dk.size = d.size ∧ wr = putRow encH (Go.Sort.ahead w n) blk 0 dk ∧ reverseLoop i jn dk = reverseLoop 0 (d.size - 1) d)
  case atStart => exact ⟨0, d.size - 1, (d.size : Int) - 1, d, 0, rfl, rfl, fun h => ⟨by omega, by omega⟩, fun h => by omega, by omega, rfl, (putRow_self encH w blk 0 d hH).symm, rfl⟩
  case round =>
    obtain ⟨i, jn, jz, dk, n, rfl, rfl, h1, h2, hk, hds, hwr, heq⟩ := hrel
    by_cases hlt : (i : Int) < jz
    · obtain ⟨rfl, hjn⟩ := h1 hlt
      have hij : i < jn := by omega
      have hHk : Holds encH wr blk 0 dk := by rw [hwr]; exact holds_putRow encH _ blk 0 d dk (holds_ahead encH w n blk 0 d hH) hds
      obtain ⟨ci, fi⟩ := hHk i (by omega)
      obtain ⟨cj, fj⟩ := hHk jn (by omega)
      have A : Aside (wr = putRow encH (Go.Sort.ahead w n) blk 0 dk) := hwr
      have SW : Hid (((wr.setCell ⟨blk, i, none⟩ (.int .u32 (dk[jn]! : Int))).setCell ⟨blk, jn, none⟩ (.int .u32 (dk[i]! : Int))).drew = putRow encH (Go.Sort.ahead w (n + 1)) blk 0 (swp dk i jn)) := by
        have := swap_world encH (off := 0) (i := i) (j := jn) (by omega) (by omega) hwr rfl rfl
        rw [Nat.zero_add, Nat.zero_add] at this
        exact this
      clear hwr hHk hH h1 h2
      go_wp2_with fail
      rw [Nat.zero_add] at ci fi cj fj
      unfold encH at ci cj
      go_region
      all_goals
        go_wp2_with fail
        go_roundg (jn - 1 - (i + 1))
        case measure => omega
        case rel =>
          rw [reverseLoop, if_pos hij] at heq
          exact ⟨i + 1, jn - 1, (jn : Int) - 1, swp dk i jn, n + 1, by go_num, by go_num, fun h => ⟨by omega, by omega⟩, fun h => by omega, Nat.le_refl _, by rw [size_swp]; exact hds,
            (by have hsw := SW.out; first | exact hsw | (simp only [getElem!_pos dk jn (by omega)] at hsw; exact hsw)), heq⟩
    · have hnot := h2 hlt
      go_wp2_with fail
      first | go_end0 | skip
      refine ⟨rfl, n, ?_⟩
      rw [reverseLoop, if_neg hnot] at heq
      rw [← Go.Lib.reverseLoop_reverse, ← heq]
end Go.Proofs.YtcnbbenmlffgpaaGreatDoor

/- The walk of the core's Under. Conditions: the blocks hold what CO.hl says. -/
namespace Go.Proofs.YtcnbbenmlffgpaaGreatDoor
open Go.RowKit

theorem kids_len (l : List Pl) (hl : l.length ≤ 256) (x : Nat) : (kids l x).length ≤ 256 := by
  unfold kids
  split
  · split
    · unfold kidsA
      refine Nat.le_trans (List.length_filter_le _ _) ?_
      have := allTo_len l 1 l.length
      unfold allL; omega
    · simp
  · simp
/-- Where a round of Under stands. -/
structure UndI (l : List Pl) (N x : Nat) (ws os : List Nat) : Prop where
  eq : os ++ rest l N ws = pre l N x
theorem UndI.start (l : List Pl) (N x : Nat) : UndI l N x [x] [] := ⟨by simp [rest]⟩
theorem UndI.step {l : List Pl} {N x y : Nat} {ws os : List Nat} (t : Tre l N) (u : UndI l N x (ws ++ [y]) os) : UndI l N x (ws ++ kids l y) (os ++ [y]) ∧ (rest l N (ws ++ kids l y)).length < (rest l N (ws ++ [y])).length := by
  have h := u.eq
  rw [rest_snoc t] at h ⊢
  exact ⟨⟨by rw [List.append_assoc]; exact h⟩, by simp⟩
theorem UndI.len {l : List Pl} {N x : Nat} {ws os : List Nat} (t : Tre l N) (u : UndI l N x ws os) : ws.length ≤ 256 ∧ os.length ≤ 256 := by
  have h1 := congrArg List.length u.eq
  have h2 := pre_len t x
  have h3 := rest_len l N ws
  rw [List.length_append] at h1
  omega
theorem UndI.name {l : List Pl} {N x y : Nat} {ws os : List Nat} (t : Tre l N) (ok : LOk l) (hx : x < 4294967296) (u : UndI l N x (ws ++ [y]) os) : y < 4294967296 := by
  have hy : y ∈ pre l N x := by
    rw [← u.eq, rest_snoc t]; simp
  rcases pre_live t hy with rfl | ⟨_, q, hq⟩
  · exact hx
  · obtain ⟨a1, a2, _⟩ := pget_some.1 hq
    have := (ok.2 q (List.mem_of_getElem? a1)).2
    unfold nm at a2; omega
theorem UndI.done {l : List Pl} {N x : Nat} {os : List Nat} (t : Tre l N) (u : UndI l N x [] os) : os.reverse = under l N x ++ [x] := by
  have h := u.eq
  rw [show rest l N [] = [] from rfl, List.append_nil, pre_split t] at h
  rw [h]; simp
theorem OutH.single (w : World) (x : Nat) : OutH w (w.alloc (.cells #[.int .u32 (x : Int)] 32)) (.slice (some ⟨w.heap.size, 0, none⟩) 1 1) [x] :=
  ⟨⟨rfl, .inr ⟨w.heap.size, 1, #[.int .u32 (x : Int)], rfl, Nat.le_refl _, Cells.new w 32 [.int .u32 (x : Int)], Nat.le_refl 1, (by decide : 1 ≤ maxLen), rfl, rfl⟩⟩, (Below.refl _ _).alloc (Nat.le_refl _) _⟩
theorem Two.start (w : World) (x : Nat) : Two w (w.alloc (.cells #[.int .u32 (x : Int)] 32)) (.slice (some ⟨w.heap.size, 0, none⟩) 1 1) [x] (.slice none 0 0) [] :=
  ⟨OutH.single w x, (OutH.nil w).alloc _, fun b _ h => by simp [Value.ownBlock] at h⟩
theorem Two.drew {w wr : World} {v u : Value} {L M : List Nat} (h : Two w wr v L u M) : Two w wr.drew v L u M := h.below (Below.refl _ _).drew
theorem isHs_one (w : World) (y : Nat) : IsHs w.heap.size [y] (some ⟨w.heap.size, 0, none⟩) (w.alloc (.cells #[.int .u32 (y : Int)] 32)) := ⟨fun j x hj => by
  match j, hj with
  | 0, hj =>
    cases hj
    exact ⟨_, rfl, Nat.le_refl _, by simp, (Cells.new w 32 [.int .u32 (y : Int)]).cell 0 _ rfl⟩
  | k + 1, hj => cases hj⟩
set_option maxHeartbeats 4000000 in
set_option maxRecDepth 100000 in
theorem cunder_any {w : World} {S : CO} {fr : List Nat} {N K : Nat} (h : Sep w S.hl) (ok : S.Ok fr N K) {x : Nat} (hx : x < 4294967296) :
    Calls Tryz.prog 17 #[.pointer (some ⟨S.c, 0, none⟩), .int .u32 (x : Int)] w (NewHs w (under S.l S.P.q.next.toNat x)) := by
  have tre := ok.inv.tree
  have lok := ok.inv.lok
  have HM : Hid (∀ (w1 : World) (y : Nat), Below w.heap.size w w1 → y < 4294967296 → Calls Tryz.prog 60 #[.pointer (some ⟨S.c, 0, none⟩), .int .u32 (y : Int)] w1 (NewHs w1 (kids S.l y))) := fun w1 y hb hy => cmade_any (h.grown hb).sep ok hy
  generalize S.P.q.next.toNat = M at *
  have HTre := hidden tre
  have HLok := hidden lok
  have HX := hidden hx
  have HS := hidden (Two.start w x)
  clear h ok tre lok hx
  go_enter Tryz.func17, Tryz.ntmps17
  go_wp2_with fail
  go_loopg [5, 6] (pre S.l M x).length (fun gk ov wv wr => ∃ ws os, Two w wr wv ws ov os ∧ UndI S.l M x ws os ∧ (rest S.l M ws).length ≤ gk)
  case atStart => exact ⟨[x], [], HS.out, UndI.start _ _ _, by have := (UndI.start S.l M x).eq; rw [List.nil_append] at this; rw [this]; exact Nat.le_refl _⟩
  case round =>
    obtain ⟨ws, os, htwo, hu, hgk⟩ := hrel
    obtain ⟨l1, l2⟩ := hu.len HTre.out
    have hcc : ws = [] ∨ ∃ (ws' : List Nat) (y : Nat), ws = ws' ++ [y] := by
      rcases List.eq_nil_or_concat ws with h | ⟨a, b, h⟩
      · exact .inl h
      · exact .inr ⟨a, b, by rw [h, List.concat_eq_append]⟩
    rcases hcc with rfl | ⟨ws', y, rfl⟩
    · have hdone := hu.done HTre.out
      have hne : os ≠ [] := fun e => by rw [e] at hdone; simp at hdone
      obtain ⟨aw, cw, rfl⟩ := htwo.1.shape
      obtain ⟨g, co, rfl⟩ := htwo.2.1.shape1 hne
      obtain ⟨_, _, _, _, hco, _⟩ := htwo.2.1.parts
      have hrev := reverse_row g co os.toArray wr (holds_hands htwo.2.1) (by simp; omega)
      have hfin : ∀ n, NewHs w (under S.l M x) (.returned (.slice (some ⟨g, 0, none⟩) (under S.l M x).length co)) (Go.Sort.putRow encH (Go.Sort.ahead wr n) g 0 os.toArray.reverse) := fun n => by
        have h1 := htwo.2.1.reversed (k := n)
        rw [hdone] at h1
        have h2 := h1.cut
        exact ⟨_, rfl, h2.1, h2.2⟩
      have hlen : os.length = (under S.l M x).length + 1 := by
        have := congrArg List.length hdone
        simpa using this
      have HF := hidden hfin
      rw [show os.toArray.size = os.length from rfl] at hrev
      rw [hlen] at hrev ⊢
      have hm : (under S.l M x).length ≤ 256 := by omega
      have hcapi : (((under S.l M x).length : Nat) : Int) ≤ (co : Int) := by omega
      have hcap : (under S.l M x).length ≤ co := by omega
      have hw : IntKind.i64.wrap ((under S.l M x).length : Int) = ((under S.l M x).length : Int) := Go.IntWalk.i64_in _ (by omega)
      clear hfin htwo hu hgk hdone hne l1 l2 hlen
      generalize (under S.l M x).length = m at *
      generalize NewHs w (under S.l M x) = Q at *
      go_wp2_with fail
      refine hrev.mono ?_
      rintro r w1 ⟨rfl, n, rfl⟩
      have HQ := hidden (HF.out n)
      clear hrev HF
      generalize Go.Sort.putRow encH (Go.Sort.ahead wr n) g 0 os.toArray.reverse = w1 at *
      go_wp2_with fail
      first | exact HQ.out | (go_ret; exact HQ.out)
    · obtain ⟨g, cw, rfl⟩ := htwo.1.shape1 (by simp)
      obtain ⟨_, _, _, _, hcw, _⟩ := htwo.1.parts
      have hcap : ws'.length ≤ cw := by
        have : ws'.length + 1 ≤ cw := by simpa using hcw
        omega
      have hcapi : ((ws'.length : Nat) : Int) ≤ (cw : Int) := by omega
      clear hcw
      obtain ⟨hcell, _, _⟩ := htwo.1.cellAt (j := ws'.length) (x := y) (by simp)
      have hy := hu.name HTre.out HLok.out HX.out
      obtain ⟨hstep, hlt⟩ := hu.step HTre.out
      have hb := htwo.1.2
      have hmade := HM.out wr.drew y hb.drew hy
      have hkl := kids_len S.l (by rw [HLok.out.1]; exact Nat.le_refl _) y
      have hl : ws'.length + 1 ≤ 256 := by simpa using l1
      have HApp : Hid (∀ w1 am cm, Below wr.drew.heap.size wr.drew w1 → IsHs wr.drew.heap.size (kids S.l y) am w1 → (am = none → cm = 0) → ∃ v1 w2, (Builtin.append_ #[30, 30] 30 #[.slice (some ⟨g, 0, none⟩) ws'.length cw, .slice am (kids S.l y).length cm]).run Tryz.prog w1 = .ok v1 w2 ∧ Two w w2 v1 (ws' ++ kids S.l y) u5 os) := fun w1 am cm hb1 hi ha0 => by
        have t1 : Two w w1 (.slice (some ⟨g, 0, none⟩) ws'.length cw) ws' u5 os := htwo.cut.drew.below hb1
        obtain ⟨v1, w2, e1, e2, e3, e4⟩ := app_hs0 (ty := 30) (a := am) (cap := cm) t1.1.1 hi ha0 (by omega) t1.1.2.size
        exact ⟨v1, w2, e1, t1.app e2 e3 e4⟩
      have HApp2 : Hid (∀ w2 v1 L, Two w w2 v1 L u5 os → ∃ v2 w3, (Builtin.append_ #[30, 30] 30 #[u5, .slice (some ⟨w2.heap.size, 0, none⟩) 1 1]).run Tryz.prog (w2.alloc (.cells #[.int .u32 (y : Int)] 32)) = .ok v2 w3 ∧ Two w w3 v1 L v2 (os ++ [y])) := fun w2 v1 L t => by
        have t1 := (t.alloc (.cells #[.int .u32 (y : Int)] 32)).swap
        obtain ⟨v2, w3, e1, e2, e3, e4⟩ := app_hs (ty := 30) (a := some ⟨w2.heap.size, 0, none⟩) (cap := 1) t1.1.1 (isHs_one w2 y) (by simp; omega) t1.1.2.size
        exact ⟨v2, w3, e1, (t1.app e2 e3 e4).swap⟩
      have HStep := hidden hstep
      have HGk := hidden (Nat.lt_of_lt_of_le hlt hgk)
      have hw : IntKind.i64.wrap (ws'.length : Int) = (ws'.length : Int) := Go.IntWalk.i64_in _ (by omega)
      rw [show (ws' ++ [y]).length = ws'.length + 1 by simp] at *
      clear htwo hu hgk l1 l2 hstep hlt hb hkl hy
      generalize hkk : kids S.l y = kk at *
      generalize hn : ws'.length = n at *
      go_wp2_with fail
      go_region_law (first | (go_simp; go_at_call 60; refine hmade.mono ?_; intro r w1 hnew; obtain ⟨am, cm, rfl, hbm, hism, hac⟩ := hnew.shape0; obtain ⟨v1, w2, r1, r2⟩ := HApp.out w1 am cm hbm hism hac; clear hac; have HR := hidden r1; have HT2 := hidden r2; clear r1 r2 hbm hism hnew) | (refine step_append_runI rfl (.tmp 23) (.tmp 26) 30 30 rfl _ _ (by simp [Act.eval, Act.put]) (by simp [Act.eval, Act.put]) HR.out ?_))
      all_goals
        obtain ⟨v2, w3, r3, r4⟩ := HApp2.out _ _ _ HT2.out
        have HT3 := hidden r4
        clear r4
        go_wp2_with (at_builtin; refine Lib.wpList_append_run _ rfl _ _ _ _ rfl _ _ rfl rfl _ _ r3 ?_)
        go_roundg (rest S.l M (ws' ++ kk)).length
        case measure => exact HGk.out
        case rel => exact ⟨_, _, HT3.out, HStep.out, Nat.le_refl _⟩
end Go.Proofs.YtcnbbenmlffgpaaGreatDoor

/- A tick of the core, one thing behind the other: what each call leaves. Conditions: the blocks hold what CO.hl says. -/
namespace Go.Proofs.YtcnbbenmlffgpaaGreatDoor
open Go.RowKit

theorem le_sum_of_mem {α : Type} (f : α → Int) {l : List α} (h : ∀ x ∈ l, 0 ≤ f x) {a : α} (ha : a ∈ l) : f a ≤ (l.map f).sum := by
  have nn : ∀ l : List α, (∀ x ∈ l, 0 ≤ f x) → 0 ≤ (l.map f).sum := by
    intro l
    induction l with
    | nil => simp
    | cons x r ih =>
      intro h
      rw [List.map_cons, List.sum_cons]
      have := h x (by simp)
      have := ih fun y hy => h y (by simp [hy])
      omega
  induction l with
  | nil => cases ha
  | cons x r ih =>
    rw [List.map_cons, List.sum_cons]
    have h1 := h x (by simp)
    have h2 : ∀ y ∈ r, 0 ≤ f y := fun y hy => h y (by simp [hy])
    rcases List.mem_cons.1 ha with rfl | ha
    · have := nn r h2; omega
    · have := ih h2 ha; omega
/-- What a parent has given away holds what its child has. -/
theorem child_le {q : QT} (ok : q.Ok) {l : List Pl} {xc : Int → Int} (t : TreI q.E l xc) {par id : Int} {e c : En Fa} (he : find q.E par = some e) (hc : find q.E id = some c) (hp : c.q.parent = par) : c.q.limit ≤ e.q.given ∧ 1 ≤ e.q.kids := by
  obtain ⟨g1, g2⟩ := t.given par e he
  have hm : c ∈ q.E := (find_mem hc).1
  have hnn : ∀ x ∈ q.E, 0 ≤ x.q.limit := fun x hx => by
    have := ok.fa _ _ (find_of_mem ok.ids hx)
    omega
  have k1 : givF par c ≤ (q.E.map (givF par)).sum := le_sum_of_mem _ (fun x hx => by have := hnn x hx; unfold givF; split <;> omega) hm
  have k2 : kidF par c ≤ (q.E.map (kidF par)).sum := le_sum_of_mem _ (fun x _ => by unfold kidF; split <;> omega) hm
  unfold givSum at g1
  unfold kidCnt at g2
  unfold givF at k1
  unfold kidF at k2
  rw [if_pos hp] at k1 k2
  unfold givF at g1
  unfold kidF at g2
  omega
theorem Inv.wordf {P : PL} {l : List Pl} {fr : List Nat} {xc : Int → Int} {zs : List Nat} (v : Inv P l fr xc zs) {p : Pl} (hp : p ∈ l) (hi : p.is = true) (hk : p.kind = 1) : word8 P.a.mem p.at_ = p.own ∧ p.at_ % 8 = 0 ∧ p.at_ + 8 ≤ P.a.mem.length ∧ p.own < 1048576 := by
  have hu := v.mem.used hp hi (by omega)
  rw [hk] at hu
  have h1 := used_in_mem v.mem.pool hu
  have : costN 1 = 64 := rfl
  refine ⟨v.mem.word p hp hi hk, used_al8 v.mem.pool hu, by omega, ?_⟩
  obtain ⟨e, he⟩ := v.tre.acc hp hi hk
  have h2 := v.mem.pool.q.fa _ e he
  have h3 := v.mem.pool.q.next1
  omega
theorem drop_takeWhile {α : Type} (p : α → Bool) : ∀ l : List α, l.drop (l.takeWhile p).length = l.dropWhile p
  | [] => rfl
  | x :: r => by
    rw [List.takeWhile_cons, List.dropWhile_cons]
    cases h : p x with
    | true => simpa using drop_takeWhile p r
    | false => simp
/-- What a round of Tick leaves. -/
def RoundP (S1 : CO) (N K h : Nat) (zs : List Nat) (wr w5 : World) : Prop := ∃ S2 fr2, Mid S2 fr2 N K zs ∧ Ticked S1 S2 [h] ∧ Step S1.hl S2.hl wr w5
/-- What region 'Close' reads: bx is where the object lies. -/
def TF (S : CO) (bx k a f : Nat) (w' : World) : Prop := w'.cell? ⟨S.c, 0, none⟩ = some (.pointer (some ⟨S.P.p, 0, none⟩)) ∧ w'.cell? ⟨S.P.p, 0, none⟩ = some (.pointer (some ⟨S.P.q.t, 0, none⟩)) ∧ w'.cell? ⟨bx, 0, none⟩ = some (.int .i64 (k : Int)) ∧ w'.cell? ⟨bx, 1, none⟩ = some (.int .i64 (a : Int)) ∧ w'.cell? ⟨bx, 2, none⟩ = some (.int .i64 (f : Int))
theorem TF.of {w1 w2 : World} {S : CO} {l' : List Pl} {P' : PL} (h1 : Sep w1 (S.setL l').hl) {w0 : World} (st : Step (S.setL l').hl ((S.setL l').setP P').hl w0 w2) (hp : P'.p = S.P.p) (hq : P'.q.t = S.P.q.t) (hl : w1.heap.size < w0.heap.size) {k a f : Nat}
    (e0 : w0.cell? ⟨w1.heap.size, 0, none⟩ = some (.int .i64 (k : Int))) (e1 : w0.cell? ⟨w1.heap.size, 1, none⟩ = some (.int .i64 (a : Int))) (e2 : w0.cell? ⟨w1.heap.size, 2, none⟩ = some (.int .i64 (f : Int))) : TF S w1.heap.size k a f w2 := by
  have c := CO.c0 st.sep
  have p0 := PL.c0 (CO.sP st.sep)
  have e : ((S.setL l').setP P').P = P' := rfl
  rw [e, hp] at c p0
  rw [hq] at p0
  exact ⟨c, p0, st.box h1 hl e0, st.box h1 hl e1, st.box h1 hl e2⟩
theorem tick_round {wr : World} {S1 : CO} {fr1 : List Nat} {N K h : Nat} {zs : List Nat} (hs : Sep wr S1.hl) (m : Mid S1 fr1 N K (h :: zs)) (hK : K ≤ 1048575) :
    ∃ p : Pl, pget S1.l 2 h = some p ∧ h < 4294967296 ∧ Calls Tryz.prog 66 #[.pointer (some ⟨S1.t, 0, none⟩), .int .u32 (h : Int)] wr fun r w1 => r = .returned (.tuple #[.agg #[.int .i64 (p.kind : Int), .int .i64 (p.at_ : Int), .int .i64 (p.fac : Int)], .int .i64 0]) ∧ wr.heap.size ≤ w1.heap.size ∧ S1.c < w1.heap.size ∧
      (p.kind ≠ 1 → Calls Tryz.prog 68 #[.pointer (some ⟨S1.c, 0, none⟩), .agg #[.int .i64 (p.kind : Int), .int .i64 (p.at_ : Int), .int .i64 (p.fac : Int)]] (w1.alloc (.cells #[.int .i64 (p.kind : Int), .int .i64 (p.at_ : Int), .int .i64 (p.fac : Int)] 39)) fun r w5 => r = .returned (.tuple #[]) ∧ RoundP S1 N K h zs wr w5) ∧
      (p.kind = 1 → TF S1 w1.heap.size p.kind p.at_ p.fac (w1.alloc (.cells #[.int .i64 (p.kind : Int), .int .i64 (p.at_ : Int), .int .i64 (p.fac : Int)] 39)) ∧
        Calls Tryz.prog 59 #[.pointer (some ⟨S1.c, 0, none⟩), .agg #[.int .i64 (p.kind : Int), .int .i64 (p.at_ : Int), .int .i64 (p.fac : Int)]] (w1.alloc (.cells #[.int .i64 (p.kind : Int), .int .i64 (p.at_ : Int), .int .i64 (p.fac : Int)] 39)).drew fun r w3 => r = .returned (.int .i64 (p.own : Int)) ∧ TF S1 w1.heap.size p.kind p.at_ p.fac w3 ∧
          Calls Tryz.prog 67 #[.pointer (some ⟨S1.P.q.t, 0, none⟩), .int .i64 (p.own : Int)] w3 fun r w4 => r = .returned (.int .i64 0) ∧ TF S1 w1.heap.size p.kind p.at_ p.fac w4 ∧
            Calls Tryz.prog 68 #[.pointer (some ⟨S1.c, 0, none⟩), .agg #[.int .i64 (p.kind : Int), .int .i64 (p.at_ : Int), .int .i64 (p.fac : Int)]] w4 fun r w5 => r = .returned (.tuple #[]) ∧ RoundP S1 N K h zs wr w5) := by
  obtain ⟨p, hp⟩ := (m.inv.que.has h).1 (by simp)
  obtain ⟨hi, hnm, hst⟩ := pget_some.1 hp
  have hpm := pget_mem hp
  have hpi : p.is = true := Pl.is_iff.2 (.inr hst)
  have hage := (m.age p hpm).2 hst
  have hnow := m.now
  have hage5 := (m.inv.st p hpm).2
  have h32 : h < 4294967296 := by unfold nm at hnm; omega
  have hlok := m.inv.lok
  have hpool := m.inv.mem.pool
  obtain ⟨e, he⟩ := m.inv.tre.fac p hpm hpi
  have hpay := m.inv.tre.pays hpm hpi (Int.le_refl _) he
  refine ⟨p, hp, h32, ?_⟩
  refine Calls.mono (hfree_some (h := S1.ht) (CO.sT hs) hlok h32 hp (by omega)) ?_
  rintro r w1 ⟨rfl, st⟩
  have s1 : Step S1.hl (S1.setL (S1.l.set (h % 256) (noPl (p.age + 1)))).hl wr w1 := CO.stepL hs _ st
  have hcl : S1.c < w1.heap.size := (CO.cells s1.sep).lt
  have hB := Cells.new w1 39 [.int .i64 (p.kind : Int), .int .i64 (p.at_ : Int), .int .i64 (p.fac : Int)]
  have sA := s1.sep.grown (((Below.refl _ w1).alloc (Nat.le_refl _) (.cells #[.int .i64 (p.kind : Int), .int .i64 (p.at_ : Int), .int .i64 (p.fac : Int)] 39)))
  refine ⟨rfl, s1.chg.size, hcl, fun hk => ?_, fun hk => ?_⟩
  · have hheld : Held S1.P fr1 p.fac p.kind p.at_ e := ⟨he, hpay, fun h8 => m.inv.mem.used hpm hpi h8, fun h8 => m.inv.mem.frame hpm hpi h8⟩
    refine Calls.mono (cput_any (S := S1.setL (S1.l.set (h % 256) (noPl (p.age + 1)))) sA.sep hpool hheld) ?_
    rintro r w5 ⟨rfl, P', fr', bk, st5⟩
    have hinv := m.inv.freeN hp hk bk (by omega)
    obtain ⟨e', q1, _, q3⟩ := bk.q
    obtain ⟨m2, t2⟩ := m.freed hp bk.same bk.mem (by rw [q3]; rfl) (bk.high hpool (by have := m.inv.kind hp (.inr rfl); omega)) bk.few hinv
    exact ⟨rfl, _, fr', m2, t2, (s1.trans sA).trans st5⟩
  · obtain ⟨h0, hno, c, hc, c1, c2, c3, c4⟩ := m.inv.last hp hk
    obtain ⟨k1, k2, k3, k4⟩ := m.inv.wordf hpm hpi hk
    obtain ⟨k5, k6⟩ := child_le hpool.q m.inv.tre he hc c4
    have hne : (p.own : Int) ≠ p.fac := by
      have := (m.inv.tre.par p hpm hpi hk c hc).2 h0
      omega
    have hcf := hpool.q.fa _ c hc
    have hl1 : w1.heap.size < (w1.alloc (.cells #[.int .i64 (p.kind : Int), .int .i64 (p.at_ : Int), .int .i64 (p.fac : Int)] 39)).heap.size := by simp
    have F0 : TF S1 w1.heap.size p.kind p.at_ p.fac (w1.alloc (.cells #[.int .i64 (p.kind : Int), .int .i64 (p.at_ : Int), .int .i64 (p.fac : Int)] 39)) := ⟨CO.c0 (S := S1.setL (S1.l.set (h % 256) (noPl (p.age + 1)))) sA.sep, PL.c0 (CO.sP (S := S1.setL (S1.l.set (h % 256) (noPl (p.age + 1)))) sA.sep), hB.cell 0 _ rfl, hB.cell 1 _ rfl, hB.cell 2 _ rfl⟩
    refine ⟨F0, ?_⟩
    refine Calls.mono (cword_any (k := p.kind) (f := p.fac) sA.sep.drew hpool.bytes (mem_bound hpool) k2 k3 k1 k4) ?_
    rintro r w3 ⟨rfl, hb⟩
    have sW := sA.drew.sep.grown hb
    have s3 := sA.drew.trans sW
    have hs3 := sW.chg.size
    have F3 : TF S1 w1.heap.size p.kind p.at_ p.fac w3 := TF.of (P' := S1.P) s1.sep sW rfl rfl hl1 F0.2.2.1 F0.2.2.2.1 F0.2.2.2.2
    refine ⟨rfl, F3, ?_⟩
    have hq := qclose_ok (PL.sQ (CO.sP s3.sep)) hpool.q (id := (p.own : Int)) hc (by omega) c1 c2 c3 (by rw [c4]; exact he) k5 (by omega)
    refine Calls.mono hq ?_
    rintro r w4 ⟨rfl, st4⟩
    rw [c4] at st4
    have s4 := CO.stepP s3.sep (S1.P.setQ (closed S1.P.q p.fac e c p.own)) rfl (PL.stepQ (CO.sP s3.sep) (closed S1.P.q p.fac e c p.own) rfl st4)
    have F4 : TF S1 w1.heap.size p.kind p.at_ p.fac w4 := TF.of (P' := S1.P.setQ (closed S1.P.q p.fac e c p.own)) s1.sep s4 rfl rfl (by have : w1.heap.size < (w1.alloc (.cells #[.int .i64 (p.kind : Int), .int .i64 (p.at_ : Int), .int .i64 (p.fac : Int)] 39)).drew.heap.size := hl1; omega) F3.2.2.1 F3.2.2.2.1 F3.2.2.2.2
    refine ⟨rfl, F4, ?_⟩
    have okq := ok_closed hpool.q he hc hne.symm (by omega) (by omega) (by omega)
    have ok1 := PL.ok_setQ hpool okq
    have pw1 : (upd S1.P.q.E p.fac { e.q with given := e.q.given - c.q.limit, kids := e.q.kids - 1 }).Pairwise (fun a b => a.id ≠ b.id) := upd_pairwise _ _ (fun a b a' b' _ h1 _ h2 h => by rw [← h1, ← h2]; exact h) hpool.q.ids
    have he1 : find (closed S1.P.q p.fac e c p.own).E p.fac = some { e with q := { e.q with given := e.q.given - c.q.limit, kids := e.q.kids - 1 } } := by
      show find (rem (upd S1.P.q.E p.fac _) p.own) p.fac = _
      rw [find_rem pw1, if_neg (fun h => hne h.symm), find_upd_same he]
    have hheld : Held (S1.P.setQ (closed S1.P.q p.fac e c p.own)) fr1 p.fac p.kind p.at_ { e with q := { e.q with given := e.q.given - c.q.limit, kids := e.q.kids - 1 } } := ⟨he1, hpay, fun h8 => m.inv.mem.used hpm hpi h8, fun h8 => m.inv.mem.frame hpm hpi h8⟩
    refine Calls.mono (cput_any (S := (S1.setL (S1.l.set (h % 256) (noPl (p.age + 1)))).setP (S1.P.setQ (closed S1.P.q p.fac e c p.own))) s4.sep ok1 hheld) ?_
    rintro r w5 ⟨rfl, P', fr', bk, st5⟩
    rw [hk] at bk
    have hinv := m.inv.freeF hp hk he hc (P1 := S1.P.setQ (closed S1.P.q p.fac e c p.own)) rfl bk (by omega)
    obtain ⟨e', q1, _, q3⟩ := bk.q
    obtain ⟨m2, t2⟩ := m.freed hp (P' := P') (SameP.trans (P := S1.P) (P1 := S1.P.setQ (closed S1.P.q p.fac e c p.own)) ⟨rfl, rfl, rfl, rfl, rfl, rfl, rfl⟩ bk.same) (bk.mem.trans rfl) (by rw [q3]; rfl) (bk.high ok1 (by omega)) bk.few hinv
    exact ⟨rfl, _, fr', m2, t2, ((s1.trans s3).trans s4).trans st5⟩
/-! The rows under way. -/
theorem ownsRow_same {w w1 : World} {B size n : Nat} {T : TypeId} {v : Value} {xs : List Value} (h : w.ownsRow B T size v n xs) (hk : ∀ b, v.ownBlock = some b → w1.heap[b]? = w.heap[b]?) : w1.ownsRow B T size v n xs := by
  refine ⟨h.1, ?_⟩
  rcases h.2 with h | ⟨g, cap, cur, rfl, hB, hg, rest⟩
  · exact .inl h
  · exact .inr ⟨g, cap, cur, rfl, hB, (hk g rfl).trans hg, rest⟩
theorem Step.own {H H' : HL} {w w1 w2 : World} (st : Step H H' w w1) {v : Value} (hg : w1.grownBy w2 v.ownBlock) (hown : ∀ b, v.ownBlock = some b → w.heap.size ≤ b ∧ b ∉ keys H') (hgb : GB ≤ w.heap.size) : Step H H' w w2 := by
  have hk : ∀ b ∈ keys H', w2.heap[b]? = w1.heap[b]? := fun b hb => hg.block b (st.sep.lt hb) (fun e => (hown b e.symm).2 hb)
  refine ⟨st.sep.same hk ?_, ?_, st.new⟩
  · exact st.sep.env.same (fun b hb => hg.block b (Nat.lt_of_lt_of_le hb st.sep.env.gb) (fun e => by
      have h1 := (hown b e.symm).1
      omega)) (Nat.le_trans st.sep.env.gb hg.size)
  · refine ⟨hg.os.trans st.chg.os, hg.tape.trans st.chg.tape, hg.output.trans st.chg.output, Nat.le_trans st.chg.size hg.size, fun k hk hF => ?_⟩
    exact (hg.block k (Nat.lt_of_lt_of_le hk st.chg.size) (fun e => by have := (hown k e.symm).1; omega)).trans (st.chg.block k hk hF)
/-- Some way into Tick's loop: D were freed; the ids of the queue lie in gi. -/
structure TI (w : World) (S1 : CO) (gi : Nat) (ids : List Nat) (ov : Value) (D : List Nat) (wr : World) : Prop where
  row : wr.ownsRow w.heap.size 32 1 ov D.length (hands D)
  off : ∀ b ∈ keys S1.hl, ov.ownBlock ≠ some b
  cell : ∀ (j y : Nat), ids[j]? = some y → gi < wr.heap.size ∧ gi ∉ keys S1.hl ∧ ov.ownBlock ≠ some gi ∧ wr.cell? ⟨gi, j, none⟩ = some (.int .i64 (y : Int))
theorem TI.step {w wr w1 : World} {S1 S2 : CO} {gi : Nat} {ids D : List Nat} {ov : Value} (t : TI w S1 gi ids ov D wr) (st : Step S1.hl S2.hl wr w1) : TI w S2 gi ids ov D w1 := by
  have hown : ∀ b, ov.ownBlock = some b → b < wr.heap.size := fun b hb => (t.row.lt b hb).2
  refine ⟨ownsRow_same t.row (fun b hb => st.chg.block b (hown b hb) (fun hk => t.off b hk hb)), fun b hb e => ?_, fun j y hj => ?_⟩
  · rcases st.new b hb with h | h
    · exact t.off b h e
    · have := hown b e; omega
  · obtain ⟨a1, a2, a3, a4⟩ := t.cell j y hj
    refine ⟨Nat.lt_of_lt_of_le a1 st.chg.size, fun hk => ?_, a3, (World.cell?_of_block (w := wr) (st.chg.block _ a1 a2)).trans a4⟩
    rcases st.new _ hk with h | h
    · exact a2 h
    · omega
theorem TI.app {w wr w1 : World} {S1 : CO} {gi y : Nat} {ids D : List Nat} {ov v' : Value} (t : TI w S1 gi ids ov D wr) (hs : Sep wr S1.hl) (hown : w1.ownsRow w.heap.size 32 1 v' (D.length + 1) (hands D ++ hands [y])) (hg : (wr.alloc (.cells #[.int .u32 (y : Int)] 32)).grownBy w1 ov.ownBlock) (hat : v'.ownBlock = ov.ownBlock ∨ v'.ownBlock = some (wr.alloc (.cells #[.int .u32 (y : Int)] 32)).heap.size) : TI w S1 gi ids v' (D ++ [y]) w1 := by
  have hsz : (wr.alloc (.cells #[.int .u32 (y : Int)] 32)).heap.size = wr.heap.size + 1 := by simp
  refine ⟨by rw [List.length_append, hands_app]; exact hown, fun b hb e => ?_, fun j z hj => ?_⟩
  · rcases hat with h | h
    · exact t.off b hb (h ▸ e)
    · rw [h] at e; cases e
      have := hs.lt hb; omega
  · obtain ⟨a1, a2, a3, a4⟩ := t.cell j z hj
    have hgs := hg.size
    refine ⟨by omega, a2, fun e => ?_, (World.cell?_of_block (w := wr.alloc _) (hg.block gi (by omega) (fun e => a3 e.symm))).trans (cell_alloc_old a4)⟩
    rcases hat with h | h
    · exact a3 (h ▸ e)
    · rw [h] at e
      have := Option.some.inj e
      omega
/-- What the loop of Tick keeps to. -/
def TRel (S : CO) (N K : Nat) (rv : OV) (w : World) (gi k gk : Nat) (ov : Value) (wr : World) : Prop :=
  ∃ (S1 : CO) (fr1 : List Nat), k + gk = (dueN S).length ∧ Mid S1 fr1 N (K + 1) ((dueN S).drop k) ∧ Ticked (S.setG (S.now + 1) rv (dueT S)) S1 ((dueN S).take k) ∧ Step S.hl S1.hl w wr ∧ TI w S1 gi (dueN S) ov ((dueN S).take k) wr
/-- The end of a round: what was freed is appended. -/
theorem tick_app {S S1 S2 : CO} {fr2 : List Nat} {N K k y gk : Nat} {rv : OV} {w wr w5 : World} {gi : Nat} {ov : Value} (hgb : GB ≤ w.heap.size) (hy : (dueN S)[k]? = some y) (hkg : k + 1 + gk = (dueN S).length) (hl : (dueN S).length ≤ 256) (htk : Ticked (S.setG (S.now + 1) rv (dueT S)) S1 ((dueN S).take k)) (hst : Step S.hl S1.hl w wr) (hti : TI w S1 gi (dueN S) ov ((dueN S).take k) wr)
    (hm : Mid S2 fr2 N (K + 1) ((dueN S).drop (k + 1))) (ht : Ticked S1 S2 [y]) (st : Step S1.hl S2.hl wr w5) :
    ∃ v' w6, (Builtin.append_ #[30, 30] 30 #[ov, .slice (some ⟨w5.heap.size, 0, none⟩) 1 1]).run Tryz.prog (w5.alloc (.cells #[.int .u32 (y : Int)] 32)) = .ok v' w6 ∧ TRel S N K rv w gi (k + 1) gk v' w6 := by
  have t5 := hti.step st
  have hs5 := hst.trans st
  have hk : k < (dueN S).length := (List.getElem?_eq_some_iff.1 hy).1
  have hrow : (w5.alloc (.cells #[.int .u32 (y : Int)] 32)).ownsRow w.heap.size 32 1 ov ((dueN S).take k).length (hands ((dueN S).take k)) := t5.row.alloc _
  have hisz : w.heap.size ≤ (w5.alloc (.cells #[.int .u32 (y : Int)] 32)).heap.size := by
    have := hs5.chg.size
    rw [World.size_alloc]; omega
  obtain ⟨v', w6, e1, e2, e3, e4⟩ := app_hs (ty := 30) (a := some ⟨w5.heap.size, 0, none⟩) (cap := 1) hrow (isHs_one w5 y) (by rw [List.length_take, List.length_singleton]; omega) hisz
  have htake : (dueN S).take (k + 1) = (dueN S).take k ++ [y] := by
    rw [List.take_add_one, hy]; rfl
  refine ⟨v', w6, e1, S2, fr2, hkg, hm, ?_, ?_, ?_⟩
  · rw [htake]; exact htk.trans ht
  · have hs6 := hs5.trans (hs5.sep.grown ((Below.refl _ w5).alloc (Nat.le_refl _) (.cells #[.int .u32 (y : Int)] 32)))
    refine hs6.own e3 (fun b hb => ⟨(hrow.lt b hb).1, fun hk => t5.off b hk hb⟩) hgb
  · rw [htake]
    exact t5.app hs5.sep e2 e3 e4
theorem dueN_len {S : CO} {fr : List Nat} {N K : Nat} (ok : S.Ok fr N K) : (dueN S).length ≤ 256 := by
  have := ok.few
  unfold dueN
  rw [List.length_map]
  exact Nat.le_trans (List.takeWhile_sublist _).length_le this
/-- What the queue's own Tick leaves: the loop begins. -/
theorem tick_start {S : CO} {fr : List Nat} {N K : Nat} {w w1 : World} {r : Ending} (h : Sep w S.hl) (ok : S.Ok fr N K) (hg : GTickP S.g S.period (S.now + 1) S.rv S.ts w r w1) :
    ∃ (rv : OV) (gi : Nat) (ad : Option Addr) (cap : Nat), r = .returned (.slice ad (dueN S).length cap) ∧ ((dueN S).length ≠ 0 → ad = some ⟨gi, 0, none⟩) ∧ ovOk rv (dueT S).length ∧ TRel S N K rv w gi 0 (dueN S).length (.slice none 0 0) w1 := by
  obtain ⟨rv, ro, bx, b0, rfl, o1, o2, st⟩ := hg
  have e0 : S.now + 1 - 1 = S.now := by omega
  rw [e0] at st
  have eT : S.ts.drop (dueK (S.now + 1) S.ts) = dueT S := by
    exact drop_takeWhile _ S.ts
  have eN : (S.ts.take (dueK (S.now + 1) S.ts)).map Prod.fst = dueN S := by rw [dueK_take]; rfl
  have eL : dueK (S.now + 1) S.ts = (dueN S).length := by unfold dueK dueN; rw [List.length_map]
  unfold tickH at st
  rw [eT] at st o1
  rw [eN] at st
  rw [eL] at st o2 ⊢
  have stW := Step.lift S.permG (List.Perm.refl _) h st
  have st1 := CO.stepG h (S.now + 1) rv (dueT S) (st.drop (List.sublist_append_left _ _))
  have hsub : ∀ b ∈ keys (S.setG (S.now + 1) rv (dueT S)).hl, b ∈ keys (qhl S.g S.period (S.now + 1) rv (dueT S) ++ (S.head :: (S.P.hl ++ S.ht.hl))) := fun b hb => ((S.setG (S.now + 1) rv (dueT S)).permG.map Prod.fst).mem_iff.1 hb
  obtain ⟨gi, ad, cap, e1, e2, e3⟩ : ∃ (gi : Nat) (ad : Option Addr) (cap : Nat), lvOf ro (dueN S).length = .slice ad (dueN S).length cap ∧ ((dueN S).length ≠ 0 → ad = some ⟨gi, 0, none⟩) ∧ ((dueN S).length ≠ 0 → ro = some (gi, cap)) := by
    cases ro with
    | none =>
      have h0 : (dueN S).length = 0 := o2
      exact ⟨0, none, 0, by rw [h0]; rfl, fun h => absurd h0 h, fun h => absurd h0 h⟩
    | some q => exact ⟨q.1, some ⟨q.1, 0, none⟩, q.2, rfl, fun _ => rfl, fun _ => rfl⟩
  refine ⟨rv, gi, ad, cap, by rw [e1], e2, o1, _, fr, by omega, ?_, ?_, st1, ⟨World.ownsRow_nil _ _ _ _, fun b _ h => by simp [Value.ownBlock] at h, fun j y hj => ?_⟩⟩
  · rw [List.drop_zero]; exact ok.mid o1
  · rw [List.take_zero]; exact Ticked.refl _
  · have hj' := (List.getElem?_eq_some_iff.1 hj).1
    have hro := e3 (by omega)
    subst hro
    have sR : Sep w1 (rowH (some (gi, cap)) 3 1 (ints (dueN S))) := st.sep.right.tail.tail
    have hgi : gi ∈ keys (rowH (some (gi, cap)) 3 1 (ints (dueN S))) := by simp [rowH]
    refine ⟨sR.lt hgi, fun hk => ?_, by simp [Value.ownBlock], row_cell sR j _ (by unfold ints; rw [List.getElem?_map, hj]; rfl)⟩
    have hk2 := hsub gi hk
    have hnd := stW.sep.nd
    simp only [keys_append, keys_cons, List.append_assoc, List.cons_append, rowH, keys_nil] at hnd hk2
    have hcnt := List.nodup_iff_count.1 hnd gi
    simp only [List.count_append, List.count_cons, List.count_nil, beq_self_eq_true, if_true] at hcnt
    have hpos : 0 < (keys (qhl S.g S.period (S.now + 1) rv (dueT S)) ++ S.head.fst :: (keys S.P.hl ++ keys S.ht.hl)).count gi := List.count_pos_iff.2 (by simpa using hk2)
    simp only [List.count_append, List.count_cons] at hpos
    omega
end Go.Proofs.YtcnbbenmlffgpaaGreatDoor
