/- CoreCharge returns true at every input. No condition. Part of its proof. -/
import Derived.Test.YtcnbbenmlffgpaaGreatDoorCc21
import Derived.Test.YtcnbbenmlffgpaaGreatDoorCc17
import Derived.Test.YtcnbbenmlffgpaaGreatDoorCc20
import Derived.Deep.Cut
import Derived.Test.YtcnbbenmlffgpaaGreatDoorCc01
import Derived.Lib.LaidTab
import Derived.LaidMore
import Derived.MakeChecks
import Derived.Stop.LaidErr
import Derived.Test.YtcnbbenmlffgpaaGreatDoorRows
import Derived.Test.YtcnbbenmlffgpaaGreatDoorCc18
import Derived.WalkKit
import Derived.ProofKit
import Derived.OpenShut
import Derived.ShutString
import Derived.Below
import Derived.Stop.Joined
set_option linter.unusedVariables false
/- Walk of the law's 'all': all objects, in a new row. Conditions: the blocks hold what CO.hl says. -/
namespace Go.Proofs.YtcnbbenmlffgpaaGreatDoor
open Go.RowKit Go.Shelf

def ocells (L : List Pl) : List Value := L.flatMap fun p => [.int .i64 (p.kind : Int), .int .i64 (p.at_ : Int), .int .i64 (p.fac : Int)]
theorem ocells_len : ∀ L : List Pl, (ocells L).length = L.length * 3
  | [] => rfl
  | p :: L => by
    have := ocells_len L
    unfold ocells at *
    rw [List.flatMap_cons, List.length_append, this, List.length_cons]
    simp; omega
theorem ocells_app (L M : List Pl) : ocells (L ++ M) = ocells L ++ ocells M := by unfold ocells; rw [List.flatMap_append]
theorem infoObj : (Tryz.prog.info? 39).map (fun i => (i.zero, i.size, i.bytes)) = some (some (.agg #[.int .i64 0, .int .i64 0, .int .i64 0]), 3, 24) := by kernel_rfl
/-- A new row of objects. -/
def NewObs (w : World) (L : List Pl) (r : Ending) (w' : World) : Prop := ∃ v, r = .returned v ∧ w'.ownsRow w.heap.size 39 3 v L.length (ocells L) ∧ Below w.heap.size w w'
/-- A row of objects under way. -/
def OutO (w wr : World) (v : Value) (L : List Pl) : Prop := wr.ownsRow w.heap.size 39 3 v L.length (ocells L) ∧ Below w.heap.size w wr
theorem OutO.nil (w : World) : OutO w w (.slice none 0 0) [] := ⟨World.ownsRow_nil _ _ _ _, Below.refl _ _⟩
theorem OutO.below {w wr w1 : World} {v : Value} {L : List Pl} (h : OutO w wr v L) (hb : Below wr.heap.size wr w1) : OutO w w1 v L :=
  ⟨h.1.kept (row := none) ⟨hb.os, hb.tape, hb.output, hb.size, fun k hk _ => hb.block k hk⟩ (by cases hv : v.ownBlock with | none => exact .inl rfl | some b => exact .inr (by simp)), h.2.trans (hb.mono h.2.size)⟩
theorem OutO.alloc {w wr : World} {v : Value} {L : List Pl} (h : OutO w wr v L) (o : Obj) : OutO w (wr.alloc o) v L := h.below ((Below.refl _ _).alloc (Nat.le_refl _) o)
def obj3 (p : Pl) : List Value := [.int .i64 (p.kind : Int), .int .i64 (p.at_ : Int), .int .i64 (p.fac : Int)]
theorem OutO.app {w wr : World} {v : Value} {L : List Pl} (h : OutO w wr v L) (hl : L.length ≤ 1000) (p : Pl) (o : Obj) : ∃ v' w', (Builtin.append_ #[101, 101] 101 #[v, .slice (some ⟨wr.heap.size + 1, 0, none⟩) 1 1]).run Tryz.prog ((wr.alloc o).alloc (.cells #[.int .i64 (p.kind : Int), .int .i64 (p.at_ : Int), .int .i64 (p.fac : Int)] 39)) = .ok v' w' ∧ OutO w w' v' (L ++ [p]) := by
  obtain ⟨i0, hi, hz0, hz1, hz2⟩ := info_parts infoObj
  have h2 := (h.alloc o).alloc (.cells #[.int .i64 (p.kind : Int), .int .i64 (p.at_ : Int), .int .i64 (p.fac : Int)] 39)
  have hsz : (wr.alloc o).heap.size = wr.heap.size + 1 := by simp
  obtain ⟨v', w', hr, q1, q2, _, q4⟩ := run_append_own_at (P := Tryz.prog) ((wr.alloc o).alloc (.cells #[.int .i64 (p.kind : Int), .int .i64 (p.at_ : Int), .int .i64 (p.fac : Int)] 39)) w.heap.size 101 101 39 i0 (.agg #[.int .i64 0, .int .i64 0, .int .i64 0]) 3 24 Tryz.underlying101 hi hz0 hz1 hz2 rfl (by decide) v L.length (ocells L) h2.1 ⟨wr.heap.size + 1, 0, none⟩ 1 1 (obj3 p) rfl (by
    intro j u hj
    have := (Cells.new (wr.alloc o) 39 (obj3 p)).cell j u hj
    rw [hsz] at this
    have e : (⟨wr.heap.size + 1, 0, none⟩ : Addr).add j = ⟨wr.heap.size + 1, j, none⟩ := by unfold Addr.add; split <;> simp_all
    rw [e]; exact this) (fun u hu => by
      unfold obj3 at hu
      simp only [List.mem_cons, List.not_mem_nil, or_false] at hu
      rcases hu with rfl | rfl | rfl <;> rfl) (by unfold maxLen; omega) (by omega) h2.2.size
  refine ⟨v', w', hr, ?_, ?_⟩
  · rw [List.length_append, ocells_app]
    exact q1
  · exact h2.2.trans ((Below.refl _ _).mono h2.2.size |>.grown q2 h2.2.size (fun b hb => (h2.1.lt b hb).1))
set_option maxHeartbeats 2000000 in
theorem all_any {w : World} {S : CO} {fr : List Nat} {N K : Nat} (h : Sep w S.hl) (ok : S.Ok fr N K) : Calls Tryz.prog 49 #[.pointer (some ⟨S.c, 0, none⟩)] w (NewObs w ((obL S.l).map (obP S.l))) := by
  have hll : S.l.length ≤ 256 := by rw [ok.inv.len]; omega
  have hlv := clive_any h ok.inv.lok
  have HZm : Hid (∀ w1 v1, Below w.heap.size w w1 → OutH w w1 v1 (allL S.l 1) → Calls Tryz.prog 32 #[.pointer (some ⟨S.c, 0, none⟩)] w1 fun r w2 => ∃ v2, r = .returned v2 ∧ ∃ v3 w3, (Builtin.append_ #[30, 30] 30 #[v1, v2]).run Tryz.prog w2 = .ok v3 w3 ∧ Below w.heap.size w w3 ∧ w3.ownsRow w.heap.size 32 1 v3 (obL S.l).length (hands (obL S.l))) := fun w1 v1 hb ho => by
    refine (czombies_any (h.grown hb).sep ok.inv.lok).mono ?_
    intro r w2 hr
    obtain ⟨a, cap, rfl, hb2, his, hc⟩ := hr.shape0
    have ho2 := ho.below hb2
    have hl1 := allTo_len S.l 1 S.l.length
    have hl2 := allTo_len S.l 2 S.l.length
    obtain ⟨v3, w3, e1, e2, e3, e4⟩ := app_hs0 (ty := 30) (cap := cap) ho2.1 his hc (by unfold allL; omega) ho2.2.size
    refine ⟨_, rfl, v3, w3, e1, ?_, ?_⟩
    · exact ho2.2.trans ((Below.refl _ _).mono ho2.2.size |>.grown e3 ho2.2.size (fun b hb => (ho2.1.lt b hb).1))
    · unfold obL
      rw [List.length_append, hands_app]; exact e2
  have HAny : Hid (∀ w1 x, Below w.heap.size w w1 → x ∈ obL S.l → Calls Tryz.prog 22 #[.pointer (some ⟨S.c, 0, none⟩), .int .u32 (x : Int)] w1 fun r w2 => r = .returned (.tuple #[.agg #[.int .i64 ((obP S.l x).kind : Int), .int .i64 ((obP S.l x).at_ : Int), .int .i64 ((obP S.l x).fac : Int)], .bool true]) ∧ Below w1.heap.size w1 w2) := fun w1 x hb hx => by
    obtain ⟨p, h1, h2, h3, h4⟩ := ob_at hll hx
    have hx32 : x < 4294967296 := by
      have hn : nm (x % 256) p = x := by rcases h4 with h4 | h4 <;> exact (pget_some.1 h4).2.1
      have := (ok.inv.lok.2 p (List.mem_of_getElem? h1)).2
      unfold nm at hn; omega
    have := cany_any (h.grown hb).sep ok.inv.lok hx32
    rw [h3]
    unfold anyV at this
    rcases h4 with h4 | h4
    · have hz : pget S.l 2 x = none := by
        cases hc : pget S.l 2 x with
        | none => rfl
        | some q =>
          obtain ⟨a1, _, a3⟩ := pget_some.1 h4
          obtain ⟨b1, _, b3⟩ := pget_some.1 hc
          rw [a1] at b1; cases b1; omega
      rw [hz, h4] at this
      exact this
    · rw [h4] at this
      exact this
  have hol := obL_len hll
  clear h ok hll
  generalize obL S.l = L at *
  generalize obP S.l = ob at *
  generalize S.c = c at *
  have HR : Hid (∀ w3 w4 v, Below w.heap.size w w3 → OutO w3 w4 v (L.map ob) → NewObs w (L.map ob) (.returned v) w4) := fun w3 w4 v hb ho => ⟨v, rfl, ownsRow_base ho.1 hb.size, hb.trans (ho.2.mono hb.size)⟩
  generalize hQ : NewObs w (L.map ob) = Q at *
  clear hQ
  go_enter Tryz.func49, Tryz.ntmps49
  go_wp2_with fail
  refine hlv.mono ?_
  rintro r w1 ⟨v1, rfl, hr1, hb1⟩
  have hz := HZm.out w1 v1 hb1 ⟨hr1, hb1⟩
  have HZ := hidden hz
  clear hz hr1 hb1 hlv HZm
  go_wp2_with fail
  refine HZ.out.mono ?_
  rintro r w2 ⟨v2, rfl, v3, w3, happ, hb3, hrow⟩
  have HB3 := hidden hb3
  obtain ⟨la, lcap, rfl, hih, _⟩ := row_isHs hrow
  have HIh := hidden hih
  clear hb3 hrow hih HZ
  go_wp2_with (at_builtin; refine Lib.wpList_append_run _ rfl _ _ _ _ rfl _ _ rfl rfl _ _ happ ?_)
  generalize hll : L.length = ll at *
  have HLl := hidden hll
  have hol2 : (ll : Int) ≤ 512 := by omega
  clear hll happ hol
  go_loopg [3, 5] ll (fun gk ov iv wr => ∃ k : Nat, iv = .int .i64 (k : Int) ∧ k + gk = ll ∧ OutO w3 wr ov ((L.take k).map ob))
  case atStart => exact ⟨0, rfl, Nat.zero_add _, by simpa using OutO.nil w3⟩
  case round =>
    obtain ⟨k, rfl, hkg, hout⟩ := hrel
    have HO := hidden hout
    have HKg := hidden hkg
    clear hout hkg
    by_cases hlt : k < ll
    · have hx : L[k]? = some (L[k]'(by rw [HLl.out]; exact hlt)) := List.getElem?_eq_getElem _
      generalize L[k]'(by rw [HLl.out]; exact hlt) = x at hx
      obtain ⟨g0, rfl, hg0, hgl, hcell⟩ := (HIh.out.below HO.out.2).at' k x hx
      have hany := HAny.out wr x (HB3.out.trans (HO.out.2.mono HB3.out.size)) (List.mem_of_getElem? hx)
      have HAn := hidden hany
      have HX := hidden hx
      have hki : (k : Int) < (ll : Int) := by omega
      clear hx hany hg0 hgl
      go_wp2_with fail
      refine HAn.out.mono ?_
      rintro r w4 ⟨rfl, hb4⟩
      obtain ⟨v', w5, happ, hout5⟩ := (HO.out.below hb4).app (by rw [List.length_map, List.length_take]; have := HLl.out; omega) (ob x) (.cells #[.int .i64 ((ob x).kind : Int), .int .i64 ((ob x).at_ : Int), .int .i64 ((ob x).fac : Int)] 39)
      have hO5 : OutO w3 w5 v' ((L.take (k + 1)).map ob) := by
        rw [List.take_add_one, HX.out, List.map_append]; exact hout5
      have HO5 := hidden hO5
      clear hb4 HAn HO hcell hout5 hO5
      generalize (ob x).kind = qk at *
      generalize (ob x).at_ = qa at *
      generalize (ob x).fac = qf at *
      go_wp2_with (at_builtin; refine Lib.wpList_append_run _ rfl _ _ _ _ rfl _ _ rfl rfl _ _ happ ?_)
      go_roundg (ll - (k + 1))
      case measure => have := HKg.out; omega
      case rel => exact ⟨k + 1, by go_num, by have := HKg.out; omega, HO5.out⟩
    · obtain rfl : k = ll := by have := HKg.out; omega
      have ho := HO.out
      rw [List.take_of_length_le (by rw [HLl.out]; exact Nat.le_refl _)] at ho
      have HQ := hidden (HR.out _ _ _ HB3.out ho)
      clear ho HO
      go_wp2_with fail
      first | exact HQ.out | (go_ret; exact HQ.out)
end Go.Proofs.YtcnbbenmlffgpaaGreatDoor

/- CoreExact, one call behind the other. Conditions: the blocks hold what CO.hl says. -/
namespace Go.Proofs.YtcnbbenmlffgpaaGreatDoor
open Go.RowKit

def kindE (m : Nat) : Nat := [2, 3, 4, 5, 8][m]?.getD 2
theorem kindE_may (m : Nat) : (kindE m = 8 ∨ 2 ≤ kindE m ∧ kindE m ≤ 5) := by
  unfold kindE
  match m with
  | 0 => decide
  | 1 => decide
  | 2 => decide
  | 3 => decide
  | 4 => decide
  | n + 5 => simp
/-- What the round keeps to: the factory 1, its account, how much of all is left. -/
structure ExS (S : CO) (c qt aa n K : Nat) (f : Pl) : Prop where
  c : S.c = c
  ok : ∃ fr, S.Ok fr (n + 1) K
  qt : S.P.q.t = qt
  aa : S.P.a.a = aa
  get : pget S.l 1 1 = some f
  kind : f.kind = 1
  own : f.own = 1
  per : S.period = 1
  top : S.P.d.top = 8
  ps : S.P.d.ps.length ≤ n
  live : (allL S.l 1).length ≤ n
def ExAt (c qt aa i : Nat) (w wr : World) : Prop := ∃ (S : CO) (f : Pl), ExS S c qt aa (2 + i) i f ∧ S.ts = [] ∧ Step [] S.hl w wr
theorem ExAt.fresh {c qt aa i : Nat} {w wr : World} (h : ExAt c qt aa i w wr) : Below w.heap.size w wr := by
  obtain ⟨S, f, _, _, st⟩ := h
  exact st.fresh
theorem costK_pos {k : Nat} (h : k = 8 ∨ 2 ≤ k ∧ k ≤ 5) : 32 ≤ costK k ∧ costK k ≤ 1024 := by
  have : k = 2 ∨ k = 3 ∨ k = 4 ∨ k = 5 ∨ k = 8 := by omega
  rcases this with rfl | rfl | rfl | rfl | rfl <;> decide
set_option maxHeartbeats 1000000 in
theorem cost16_any (w : World) {k : Nat} (hk : k = 8 ∨ 2 ≤ k ∧ k ≤ 5) : Calls Tryz.prog 29 #[.int .i64 (k : Int)] w fun r w' => r = .returned (.int .i64 ((costK k : Nat) : Int)) ∧ w = w' := by
  have : k = 2 ∨ k = 3 ∨ k = 4 ∨ k = 5 ∨ k = 8 := by omega
  rcases this with rfl | rfl | rfl | rfl | rfl
  all_goals
    go_enter Tryz.func29, Tryz.ntmps29
    try push_cast
    go_wp2_with fail
    go_ret
    exact ⟨rfl, rfl⟩
/-- The start of a round: limit and use, then a Make. -/
theorem ex_start {c qt aa i : Nat} {w wr : World} (h : ExAt c qt aa i w wr) (hi : i ≤ 60) : ∃ lim use : Int, 0 ≤ use ∧ use ≤ lim ∧ lim ≤ 1073741824 ∧ ∀ w1, Below wr.heap.size wr w1 →
    Calls Tryz.prog 27 #[.pointer (some ⟨qt, 0, none⟩), .int .i64 1] w1 fun r w2 => r = .returned (.int .i64 lim) ∧ w1 = w2 ∧
    Calls Tryz.prog 28 #[.pointer (some ⟨qt, 0, none⟩), .int .i64 1] w1 fun r w3 => r = .returned (.int .i64 use) ∧ ∀ k : Nat, (k = 8 ∨ 2 ≤ k ∧ k ≤ 5) →
    Calls Tryz.prog 21 #[.pointer (some ⟨c, 0, none⟩), .int .u32 1, .int .i64 (k : Int), .int .i64 0] w3 fun r w4 =>
      (lim - use < ((costK k : Nat) : Int) ∧ r = .returned (.tuple #[.int .u32 0, .int .i64 5]) ∧ ExAt c qt aa (i + 1) w w4) ∨
      (((costK k : Nat) : Int) ≤ lim - use ∧ ∃ (x : Nat) (S : CO) (f q : Pl) (e : En Fa), r = .returned (.tuple #[.int .u32 (x : Int), .int .i64 0]) ∧ ExS S c qt aa (2 + (i + 1)) i f ∧ S.ts = [] ∧ pget S.l 1 x = some q ∧ q.kind = k ∧ x ≠ 0 ∧ x ≠ 1 ∧ find S.P.q.E 1 = some e ∧ e.q.limit = lim ∧ e.q.charged + e.q.given = use + ((costK k : Nat) : Int) ∧
        (∀ j, q.at_ ≤ j → j < q.at_ + costK k → S.P.a.mem[j]? = some 0) ∧ Step [] S.hl w w4) := by
  obtain ⟨S, f, ⟨ec, ⟨fr, ok⟩, eq, ea, hf, hk1, ho1, hper, htop, hps, hlv⟩, hts, st⟩ := h
  have hfm := pget_mem hf
  have hfi : f.is = true := Pl.is_iff.2 (.inl (pget_some.1 hf).2.2)
  obtain ⟨e, he⟩ := ok.inv.tre.acc hfm hfi hk1
  have he1 : find S.P.q.E 1 = some e := by rw [ho1] at he; exact he
  obtain ⟨b1, b2, b3, b4, b5, _⟩ := ok.inv.mem.pool.q.fa _ e he
  refine ⟨e.q.limit, e.q.charged + e.q.given, by omega, by omega, by omega, fun w1 hb => ?_⟩
  have st1 := st.trans (st.sep.grown hb)
  have hl := qlimit_some (PL.sQ (CO.sP st1.sep)) he1
  rw [eq] at hl
  unfold ptr at hl
  refine hl.mono ?_
  rintro r w2 ⟨rfl, rfl⟩
  refine ⟨rfl, rfl, ?_⟩
  have hu := quse_some (PL.sQ (CO.sP st1.sep)) ok.inv.mem.pool.q he1
  rw [eq] at hu
  unfold ptr at hu
  refine hu.mono ?_
  rintro r w3 ⟨rfl, hb3⟩
  refine ⟨rfl, fun k hk => ?_⟩
  have st3 := st1.trans (st1.sep.grown hb3)
  have hm := cmake_any st3.sep ok (by omega) (x := 1) (by omega) (k : Int) 0
  rw [ec] at hm
  refine hm.mono ?_
  intro r w4 hr
  have hlf : leftOf e = e.q.limit - (e.q.charged + e.q.given) := rfl
  by_cases hq : leftOf e < ((costK k : Nat) : Int)
  · obtain ⟨rfl, st4⟩ := hr.low hf hk1 (by omega) (fun h => by omega) he hq
    exact .inl ⟨by omega, rfl, S, f, ⟨ec, ⟨fr, ok.mono (by omega) (by omega)⟩, eq, ea, hf, hk1, ho1, hper, htop, by omega, by omega⟩, hts, st3.trans st4⟩
  · obtain ⟨i0, p0, hfst⟩ := room_some ok hts (by omega)
    obtain ⟨a, x, P', fr', rfl, hm, st4⟩ := hr.able hf (e := e) (i := i0) (p := p0) ⟨hk1, by omega, he, by omega, by rw [htop]; omega, hfst, fun h => by omega⟩
    have hi256 : i0 < 256 := by have := (List.getElem?_eq_some_iff.1 hfst.1).1; rw [ok.inv.len] at this; exact this
    have hne1 : i0 ≠ 1 := fun e1 => by
      obtain ⟨a1, _, a3⟩ := pget_some.1 hf
      have h1 := hfst.1
      rw [e1] at h1
      rw [show (1 : Nat) % 256 = 1 from rfl, h1] at a1
      cases a1
      have := hfst.2.1; omega
    have hne0 : i0 ≠ 0 := root_ne ok.inv.que hfst.1 (by have := hfst.2.1; omega)
    have hfac := hm.fac (by omega)
    refine .inr ⟨by omega, nm i0 p0, S.made f k a x i0 p0 P', f, ⟨k, a, f.own, 1, p0.age, x⟩, { e with q := { e.q with charged := e.q.charged + ((costK k : Nat) : Int) } }, rfl, ⟨ec, ⟨fr', ?_⟩, ?_, ?_, ?_, hk1, ho1, hper, ?_, ?_, ?_⟩, hts, ?_, rfl, ?_, ?_, ?_, rfl, ?_, ?_, st3.trans st4⟩
    · exact (hm.ok ok hfst.1).mono (by omega) (Nat.le_refl _)
    · show P'.q.t = qt; rw [hm.same.qt, eq]
    · show P'.a.a = aa; rw [hm.same.aa, ea]
    · show pget (S.l.set i0 _) 1 1 = some f
      rw [pget_set _ hfst.1, if_neg (by omega)]; exact hf
    · show P'.d.top = 8; rw [hm.same.top, htop]
    · have := hm.few; show P'.d.ps.length ≤ _; omega
    · show (allL (S.l.set i0 _) 1).length ≤ _
      have := allL_add (q := (⟨k, a, f.own, 1, p0.age, x⟩ : Pl)) hfst.1 1
      omega
    · show pget (S.l.set i0 _) 1 (nm i0 p0) = _
      rw [pget_set _ hfst.1, if_pos (nm_mod hi256 p0), if_pos ⟨rfl, rfl⟩]
    · unfold nm; omega
    · unfold nm; omega
    · show find P'.q.E 1 = _
      rw [hfac]
      rw [ho1] at he ⊢
      exact find_upd_same he _
    · show e.q.charged + _ + e.q.given = _; omega
    · exact hm.zero (by omega)
/-- The object lies in a block beside the core. -/
def Box (S : CO) (bx : Nat) (k a f : Nat) (w : World) : Prop := bx ∉ keys S.hl ∧ bx < w.heap.size ∧ w.cell? ⟨bx, 0, none⟩ = some (.int .i64 (k : Int)) ∧ w.cell? ⟨bx, 1, none⟩ = some (.int .i64 (a : Int)) ∧ w.cell? ⟨bx, 2, none⟩ = some (.int .i64 (f : Int))
theorem Box.new {S : CO} {w : World} (h : Sep w S.hl) (k a f : Nat) : Box S w.heap.size k a f (w.alloc (.cells #[.int .i64 (k : Int), .int .i64 (a : Int), .int .i64 (f : Int)] 39)) := by
  have hc := Cells.new w 39 [.int .i64 (k : Int), .int .i64 (a : Int), .int .i64 (f : Int)]
  exact ⟨fun hk => by have := h.lt hk; omega, by simp, hc.cell 0 _ rfl, hc.cell 1 _ rfl, hc.cell 2 _ rfl⟩
theorem Box.step {S S' : CO} {bx k a f : Nat} {w w' : World} (h : Box S bx k a f w) (st : Step S.hl S'.hl w w') : Box S' bx k a f w' := by
  obtain ⟨h1, h2, h3, h4, h5⟩ := h
  have hbk := st.chg.block bx h2 h1
  refine ⟨fun hk => ?_, Nat.lt_of_lt_of_le h2 st.chg.size, (World.cell?_of_block (w := w) hbk).trans h3, (World.cell?_of_block (w := w) hbk).trans h4, (World.cell?_of_block (w := w) hbk).trans h5⟩
  rcases st.new bx hk with h' | h'
  · exact h1 h'
  · omega
theorem Box.grown {S : CO} {bx k a f : Nat} {w w' : World} (h : Box S bx k a f w) (hb : Below w.heap.size w w') : Box S bx k a f w' := by
  obtain ⟨h1, h2, h3, h4, h5⟩ := h
  have hbk := hb.block bx h2
  exact ⟨h1, Nat.lt_of_lt_of_le h2 hb.size, (World.cell?_of_block (w := w) hbk).trans h3, (World.cell?_of_block (w := w) hbk).trans h4, (World.cell?_of_block (w := w) hbk).trans h5⟩
end Go.Proofs.YtcnbbenmlffgpaaGreatDoor

/- CoreCharge, one call behind the other. Conditions: the blocks hold what CO.hl says. -/
namespace Go.Proofs.YtcnbbenmlffgpaaGreatDoor
open Go.RowKit Go.Shelf

theorem ocells_at : ∀ {L : List Pl} {j : Nat} {p : Pl}, L[j]? = some p → (ocells L)[j * 3]? = some (.int .i64 (p.kind : Int)) ∧ (ocells L)[j * 3 + 1]? = some (.int .i64 (p.at_ : Int)) ∧ (ocells L)[j * 3 + 2]? = some (.int .i64 (p.fac : Int))
  | [], j, p, h => by simp at h
  | q :: L, 0, p, h => by
    simp at h; subst h
    exact ⟨rfl, rfl, rfl⟩
  | q :: L, j + 1, p, h => by
    rw [List.getElem?_cons_succ] at h
    obtain ⟨h1, h2, h3⟩ := ocells_at (L := L) h
    have e : ocells (q :: L) = [.int .i64 (q.kind : Int), .int .i64 (q.at_ : Int), .int .i64 (q.fac : Int)] ++ ocells L := rfl
    have el : [Value.int .i64 (q.kind : Int), .int .i64 (q.at_ : Int), .int .i64 (q.fac : Int)].length = 3 := rfl
    rw [e, List.getElem?_append_right (by rw [el]; omega), List.getElem?_append_right (by rw [el]; omega), List.getElem?_append_right (by rw [el]; omega), el]
    rw [show (j + 1) * 3 - 3 = j * 3 by omega, show (j + 1) * 3 + 1 - 3 = j * 3 + 1 by omega, show (j + 1) * 3 + 2 - 3 = j * 3 + 2 by omega]
    exact ⟨h1, h2, h3⟩
set_option maxHeartbeats 1000000 in
theorem cost16_all (w : World) {k : Nat} (hk : k = 8 ∨ 1 ≤ k ∧ k ≤ 5) : Calls Tryz.prog 29 #[.int .i64 (k : Int)] w fun r w' => r = .returned (.int .i64 ((costK k : Nat) : Int)) ∧ w = w' := by
  have : k = 1 ∨ k = 2 ∨ k = 3 ∨ k = 4 ∨ k = 5 ∨ k = 8 := by omega
  rcases this with rfl | rfl | rfl | rfl | rfl | rfl
  all_goals
    go_enter Tryz.func29, Tryz.ntmps29
    try push_cast
    go_wp2_with fail
    go_ret
    exact ⟨rfl, rfl⟩
theorem costK_some {k : Nat} (h : k = 8 ∨ 1 ≤ k ∧ k ≤ 5) : 32 ≤ costK k ∧ costK k ≤ 1024 := by
  have : k = 1 ∨ k = 2 ∨ k = 3 ∨ k = 4 ∨ k = 5 ∨ k = 8 := by omega
  rcases this with rfl | rfl | rfl | rfl | rfl | rfl <;> decide
/-- A core at c, its accounts at qt, new since w. -/
def ChAt (c qt N K : Nat) (w wr : World) : Prop := ∃ (S : CO) (fr : List Nat), S.c = c ∧ S.P.q.t = qt ∧ S.Ok fr N K ∧ Step [] S.hl w wr
theorem ChAt.fresh {c qt N K : Nat} {w wr : World} (h : ChAt c qt N K w wr) : Below w.heap.size w wr := by
  obtain ⟨S, fr, ec, eq, ok, st⟩ := h
  exact st.fresh
theorem ch_play {c qt N K : Nat} {w wr : World} (h : ChAt c qt N K w wr) (hN : N + 1 < 1048576) (hK : K + 20 < 1048575) (x : A5) (hx : x.Wf) : Calls Tryz.prog 14 #[.pointer (some ⟨c, 0, none⟩), .agg #[.int .i64 x.kind, .int .i64 x.n, .int .i64 x.k, .int .i64 x.m, .int .u32 x.h]] wr fun r w' => r = .returned (.tuple #[]) ∧ ChAt c qt (N + 1) (K + 20) w w' := by
  obtain ⟨S, fr, ec, eq, ok, st⟩ := h
  have := play_any st.sep ok hN hK x hx
  rw [ec] at this
  refine this.mono ?_
  rintro r w' ⟨rfl, ⟨S', fr', ok', wt, st'⟩, _⟩
  exact ⟨rfl, S', fr', wt.c.trans ec, wt.same.qt.trans eq, ok', st.trans st'⟩
/-- The core, and three rows that were read: what is live, all objects, the ids. -/
structure ChS (S : CO) (LV : List Nat) (va : Option Addr) (OB : List Pl) (oa : Option Addr) (ids : List Int) (ia : Option Addr) (w wr : World) : Prop where
  st : Step [] S.hl w wr
  va : Aside S.hl LV va wr
  oa : AsideV S.hl (ocells OB) oa wr
  ia : AsideV S.hl (ids.map encZ) ia wr
section
variable {S : CO} {fr : List Nat} {N K : Nat} {LV : List Nat} {va : Option Addr} {OB : List Pl} {oa : Option Addr} {ids : List Int} {ia : Option Addr} {w wr w' : World}
theorem ChS.grown (h : ChS S LV va OB oa ids ia w wr) (hb : Below wr.heap.size wr w') : ChS S LV va OB oa ids ia w w' :=
  have st := h.st.sep.grown hb
  ⟨h.st.trans st, h.va.step st, h.oa.step st, h.ia.step st⟩
theorem ChS.ob (h : ChS S LV va OB oa ids ia w wr) {j : Nat} {p : Pl} (hj : OB[j]? = some p) : ∃ g, oa = some ⟨g, 0, none⟩ ∧ wr.cell? ⟨g, j * 3, none⟩ = some (.int .i64 (p.kind : Int)) ∧ wr.cell? ⟨g, j * 3 + 1, none⟩ = some (.int .i64 (p.at_ : Int)) ∧ wr.cell? ⟨g, j * 3 + 2, none⟩ = some (.int .i64 (p.fac : Int)) := by
  obtain ⟨c0, c1, c2⟩ := ocells_at hj
  obtain ⟨g, h1, _, _, h2⟩ := h.oa _ _ c0
  obtain ⟨g', h1', _, _, h3⟩ := h.oa _ _ c1
  obtain ⟨g'', h1'', _, _, h4⟩ := h.oa _ _ c2
  rw [h1] at h1' h1''
  cases h1'; cases h1''
  exact ⟨g, h1, h2, h3, h4⟩
theorem ch_begin (ok : S.Ok fr N K) (st : Step [] S.hl w wr) : Calls Tryz.prog 15 #[.pointer (some ⟨S.c, 0, none⟩)] wr fun r w1 => ∃ (LV : List Nat) (va : Option Addr) (vc : Nat), allL S.l 1 = LV ∧ r = .returned (.slice va LV.length vc) ∧
    (Calls Tryz.prog 49 #[.pointer (some ⟨S.c, 0, none⟩)] w1 fun r w2 => ∃ (OB : List Pl) (oa : Option Addr) (oc : Nat), (obL S.l).map (obP S.l) = OB ∧ r = .returned (.slice oa OB.length oc) ∧
      (Calls Tryz.prog 50 #[.pointer (some ⟨S.P.q.t, 0, none⟩)] w2 fun r w3 => ∃ (ids : List Int) (ia : Option Addr) (ic : Nat), idsOf S.P.q.E = ids ∧ r = .returned (.slice ia ids.length ic) ∧ ChS S LV va OB oa ids ia w w3)) := by
  refine (clive_any st.sep ok.inv.lok).mono ?_
  intro r w1 hr
  obtain ⟨va, vc, rfl, hb1, hva⟩ := hr.aside st.sep
  have st1 := st.trans (st.sep.grown hb1)
  refine ⟨_, va, vc, rfl, rfl, (all_any st1.sep ok).mono ?_⟩
  rintro r w2 ⟨v, rfl, hrow, hb2⟩
  obtain ⟨oa, oc, rfl, hoa⟩ := row_asideV st1.sep hrow
  have st2 := st1.trans (st1.sep.grown hb2)
  refine ⟨_, oa, oc, rfl, rfl, (fl_ids st2.sep st2.sep ok).mono ?_⟩
  rintro r w3 ⟨ia, ic, rfl, hb3, hia⟩
  exact ⟨_, ia, ic, rfl, rfl, st2.trans (st2.sep.grown hb3), (hva.grown hb2).grown hb3, hoa.step (st2.sep.grown hb3), hia⟩
theorem ch_own (ok : S.Ok fr N K) (h : ChS S LV va OB oa ids ia w wr) {x : Nat} (hx : x < 4294967296) {q : Pl} (hq : pget S.l 1 x = some q) : Calls Tryz.prog 16 #[.pointer (some ⟨S.c, 0, none⟩), .int .u32 (x : Int)] wr fun r w' => r = .returned (kindOwn q) ∧ ChS S LV va OB oa ids ia w w' := by
  refine (own_any h.st.sep ok hx hq).mono ?_
  rintro r w' ⟨rfl, hb⟩
  exact ⟨rfl, h.grown hb⟩
/-- What an account is charged, has given, may use at most. -/
theorem ch_acc (ok : S.Ok fr N K) {x : Nat} {q : Pl} (hq : pget S.l 1 x = some q) (hk : q.kind = 1) : ∃ e, find S.P.q.E q.own = some e ∧ e.q.charged = ((obL S.l).map fun x => costP q.own (obP S.l x)).sum ∧ e.q.given = ((idsOf S.P.q.E).map (givI S.P.q.E q.own)).sum ∧
    0 ≤ e.q.charged ∧ 0 ≤ e.q.given ∧ e.q.charged + e.q.given ≤ e.q.limit ∧ e.q.limit ≤ 1073741824 := by
  have hq' := ok.inv.mem.pool.q
  obtain ⟨e, he⟩ := ok.inv.tre.acc (pget_mem hq) (Pl.is_iff.2 (.inl (pget_some.1 hq).2.2)) hk
  have h1 := ok.inv.tre.charged _ e he
  have h2 := (ok.inv.tre.given _ e he).1
  obtain ⟨a1, a2, a3, a4, _⟩ := hq'.fa _ e he
  refine ⟨e, he, ?_, ?_, a1, a2, a3, a4⟩
  · rw [ob_sum (by rw [ok.inv.len]; omega), h1]
    show costSum S.l q.own + x0 q.own = _
    unfold x0; omega
  · rw [ids_sum hq'.ids, h2]
theorem costP_pos (a : Int) (p : Pl) : 0 ≤ costP a p := by unfold costP; split <;> omega
theorem lim_pos (ok : S.Ok fr N K) (a id : Int) : 0 ≤ givI S.P.q.E a id := by
  unfold givI limOf
  split
  · cases hf : find S.P.q.E id with
    | none => exact Int.le_refl _
    | some e =>
      obtain ⟨a1, a2, a3, a4, _⟩ := ok.inv.mem.pool.q.fa _ e hf
      simp only; omega
  · exact Int.le_refl _
/-- An id's parent and limit. -/
theorem ch_id (ok : S.Ok fr N K) (h : ChS S LV va OB oa ids ia w wr) (hids : ids = idsOf S.P.q.E) {n : Nat} {id : Int} (hn : ids[n]? = some id) : ∃ g, ia = some ⟨g, 0, none⟩ ∧ wr.cell? ⟨g, n, none⟩ = some (.int .i64 id) ∧ 0 ≤ limOf S.P.q.E id ∧ limOf S.P.q.E id ≤ 1073741824 ∧
    (Calls Tryz.prog 51 #[.pointer (some ⟨S.P.q.t, 0, none⟩), .int .i64 id] wr fun r w' => r = .returned (.int .i64 (parOf S.P.q.E id)) ∧ wr = w') ∧
    (Calls Tryz.prog 27 #[.pointer (some ⟨S.P.q.t, 0, none⟩), .int .i64 id] wr fun r w' => r = .returned (.int .i64 (limOf S.P.q.E id)) ∧ wr = w') := by
  obtain ⟨g, h1, _, _, h2⟩ := h.ia n (encZ id) (by rw [List.getElem?_map, hn]; rfl)
  have hq := ok.inv.mem.pool.q
  obtain ⟨e, he⟩ := ids_mem hq.ids (hids ▸ List.mem_of_getElem? hn)
  obtain ⟨a1, a2, a3, a4, _⟩ := hq.fa _ e he
  have s := PL.sQ (CO.sP h.st.sep)
  refine ⟨g, h1, h2, ?_, ?_, ?_, ?_⟩
  · unfold limOf; rw [he]; simp only; omega
  · unfold limOf; rw [he]; exact a4
  · unfold parOf; rw [he]; exact qparent_some s he
  · unfold limOf; rw [he]; exact qlimit_some s he
/-- The account's own use and limit. -/
theorem ch_end (ok : S.Ok fr N K) (h : ChS S LV va OB oa ids ia w wr) {id : Int} {e : En Fa} (he : find S.P.q.E id = some e) : Calls Tryz.prog 28 #[.pointer (some ⟨S.P.q.t, 0, none⟩), .int .i64 id] wr fun r w1 => r = .returned (.int .i64 (e.q.charged + e.q.given)) ∧
    (Calls Tryz.prog 27 #[.pointer (some ⟨S.P.q.t, 0, none⟩), .int .i64 id] w1 fun r w' => r = .returned (.int .i64 e.q.limit) ∧ w1 = w') ∧ ChS S LV va OB oa ids ia w w1 := by
  refine (quse_some (PL.sQ (CO.sP h.st.sep)) ok.inv.mem.pool.q he).mono ?_
  rintro r w1 ⟨rfl, hb⟩
  have h1 := h.grown hb
  exact ⟨rfl, qlimit_some (PL.sQ (CO.sP h1.st.sep)) he, h1⟩
theorem ChS.at (h : ChS S LV va OB oa ids ia w wr) (ok : S.Ok fr N K) : ChAt S.c S.P.q.t N K w wr := ⟨S, fr, rfl, rfl, ok, h.st⟩
end
end Go.Proofs.YtcnbbenmlffgpaaGreatDoor

/- The law CoreCharge is true. Conditions: the package-level variables lie, the acts are read. -/
namespace Go.Proofs.YtcnbbenmlffgpaaGreatDoor
open Go.RowKit Go.Shelf

theorem ch_new {w w1 : World} (henv : Env w) (hb : Below w.heap.size w w1) (lim n : Nat) (hl0 : 64 ≤ lim) (hl1 : lim ≤ 65536) (hn0 : 1 ≤ n) (hn1 : n ≤ 16) : Calls Tryz.prog 13 #[.int .i64 65536, .int .i64 (lim : Int), .int .i64 (n : Int)] w1 fun r w2 => ∃ c pp qt : Nat, r = .returned (.pointer (some ⟨c, 0, none⟩)) ∧
    (Calls Tryz.prog 24 #[.pointer (some ⟨c, 0, none⟩)] w2 fun r w' => r = .returned (.pointer (some ⟨pp, 0, none⟩)) ∧ w2 = w') ∧ (Calls Tryz.prog 26 #[.pointer (some ⟨pp, 0, none⟩)] w2 fun r w' => r = .returned (.pointer (some ⟨qt, 0, none⟩)) ∧ w2 = w') ∧ ChAt c qt 1 0 w w2 := by
  have h16 : ((2 ^ (6 + 10) : Nat) : Int) = 65536 := by decide
  have h1 := cnew_any (Sep.nil (henv.below hb)) 6 (by omega) (by omega) (lim : Int) (by omega) (by rw [h16]; omega) n hn0 hn1
  rw [h16] at h1
  refine h1.mono ?_
  rintro r w2 ⟨S, rfl, hf, st⟩
  have st1 : Step [] S.hl w1 w2 := by simpa using st
  exact ⟨S.c, S.P.p, S.P.q.t, rfl, cmemory_any st1.sep, pquota_any (CO.sP st1.sep), S, [], rfl, rfl, hf.ok, ((Sep.nil henv).grown hb).trans st1⟩
set_option maxHeartbeats 16000000 in
set_option maxRecDepth 100000 in
theorem charge_any {w : World} (henv : Env w) (li : Nat) (hli : li < 65536) (pd : Nat) (hpd : pd < 256) (a0 : Option Addr) (len cap : Nat) (A : Nat → A5) (hA : IsA5 w a0 len A) : Calls Tryz.prog 9 #[.int .u16 (li : Int), .int .u8 (pd : Int), .slice a0 len cap] w (Told w (.bool true)) := by
  have hal := alive16_any henv
  have hp0 : (0 : Int) ≤ (pd : Int) := by omega
  have hp1 : (pd : Int) < 256 := by omega
  have hq0 : (0 : Int) ≤ (li : Int) := by omega
  have hq1 : (li : Int) < 65536 := by omega
  have hper : 1 ≤ 1 + pd % 16 ∧ 1 + pd % 16 ≤ 16 := by omega
  have hlmt : 64 ≤ 64 + li % 65473 ∧ 64 + li % 65473 ≤ 65536 := by omega
  have hmod : (1 : Int) + (pd : Int).tmod 16 = (((1 + pd % 16 : Nat) : Nat) : Int) := by
    rw [Int.tmod_eq_emod_of_nonneg hp0]; omega
  have hmod2 : (1 : Int) + (pd : Int) % 16 = (((1 + pd % 16 : Nat) : Nat) : Int) := by omega
  have hmol : (64 : Int) + (li : Int).tmod 65473 = (((64 + li % 65473 : Nat) : Nat) : Int) := by
    rw [Int.tmod_eq_emod_of_nonneg hq0]; omega
  have hmol2 : (64 : Int) + (li : Int) % 65473 = (((64 + li % 65473 : Nat) : Nat) : Int) := by omega
  generalize (1 + pd % 16 : Nat) = n at *
  generalize (64 + li % 65473 : Nat) = lm at *
  have HAl : Hid (∀ r w1, Told w (.bool true) r w1 → r = .returned (.bool true) ∧ Below w.heap.size w w1) := fun r w1 h => ⟨h.1, h.2⟩
  have HNw : Hid (∀ w1, Below w.heap.size w w1 → _) := fun w1 hb => ch_new henv hb lm n hlmt.1 hlmt.2 hper.1 hper.2
  have HMod := hidden hmod
  have HMod2 := hidden hmod2
  have HMol := hidden hmol
  have HMol2 := hidden hmol2
  have HA := hidden hA
  clear henv hA hpd hli hmod hmod2 hmol hmol2 hlmt hper
  go_enter Tryz.func9, Tryz.ntmps9
  go_wp2_with fail
  refine hal.mono ?_
  intro r w1 hx
  obtain ⟨rfl, hb1⟩ := HAl.out _ _ hx
  have HNew := hidden (HNw.out w1 hb1)
  have HB1 := hidden hb1
  clear hx hb1 hal HAl HNw
  by_cases h60 : 80 < len
  · have HR : Hid (Told w (.bool true) (.returned (.bool true)) w1) := ⟨rfl, HB1.out⟩
    have h60i : (80 : Int) < len := by omega
    clear h60
    go_wp2_with fail
    first | exact HR.out | (go_ret; exact HR.out)
  have hlen : (len : Int) ≤ 80 := by omega
  have hd60 : decide ((80 : Int) < (len : Int)) = false := by rw [decide_eq_false_iff_not]; omega
  clear h60
  go_wp2_with fail
  first | rw [HMod2.out] | rw [HMod.out]
  first | rw [HMol2.out] | rw [HMol.out]
  refine HNew.out.mono ?_
  rintro r w2 ⟨c, pp, qt, rfl, m1, q1, hst0⟩
  have HS0 := hidden hst0
  have HM1 := hidden m1
  have HQ1 := hidden q1
  clear hst0 HNew m1 q1 hp0 hp1 hq0 hq1
  go_wp2_with fail
  refine HM1.out.mono ?_
  rintro r w' ⟨rfl, rfl⟩
  clear HM1
  go_wp2_with fail
  refine HQ1.out.mono ?_
  rintro r w' ⟨rfl, rfl⟩
  clear HQ1
  go_wp2_with fail
  go_loopg [9] len (fun gk iv wr => ∃ (i : Nat), iv = .int .i64 i ∧ i + gk = len ∧ ChAt c qt (1 + i) (20 * i) w wr)
  case atStart => exact ⟨0, rfl, Nat.zero_add _, HS0.out⟩
  case round =>
    clear HS0
    obtain ⟨i, rfl, hig, hst⟩ := hrel
    have HIg := hidden hig
    by_cases hlt : i < len
    · obtain ⟨g, off, rfl, b0, b1, b2, b3, b4, wf⟩ := HA.out.read hst.fresh hlt
      have hpl := ch_play hst (by omega) (by omega) (A i) wf
      generalize (A i).kind = ak at *
      generalize (A i).n = an at *
      generalize (A i).k = akk at *
      generalize (A i).m = am at *
      generalize (A i).h = ah at *
      have HPl := hidden hpl
      have hii : (i : Int) < (len : Int) := by omega
      clear hpl hst wf hig
      go_wp2_with fail
      refine HPl.out.mono ?_
      rintro r w3 ⟨rfl, S, fr, hSc, hSq, ok, st⟩
      have hbg := ch_begin ok st
      have HNx : Hid (∀ wx LV va OB oa ids ia, ChS S LV va OB oa ids ia w wx → ChAt c qt (1 + i + 1) (20 * i + 20) w wx) := fun wx LV va OB oa ids ia h => by
        have := h.at ok
        rw [hSc, hSq] at this
        exact this
      rw [hSc, hSq] at hbg
      have HBg := hidden hbg
      have HOk := hidden ok
      have HSc := hidden hSc
      have HSq := hidden hSq
      clear hbg ok st hSc hSq HPl b0 b1 b2 b3 b4
      go_wp2_with fail
      refine HBg.out.mono ?_
      rintro r w4 ⟨LV, va, vc, hLVe, rfl, hz⟩
      have hlvlen : LV.length ≤ 256 := by rw [← hLVe]; exact (live_some HOk.out).2.1
      have HZ := hidden hz
      clear hz HBg
      go_wp2_with fail
      refine HZ.out.mono ?_
      rintro r w5 ⟨OB, oa, oc, hOBe, rfl, hz⟩
      have HZ2 := hidden hz
      clear hz HZ
      go_wp2_with fail
      refine HZ2.out.mono ?_
      rintro r w6 ⟨ids, ia, ic, hIDe, rfl, hcs⟩
      have HCs := hidden hcs
      obtain ⟨_, _, l3⟩ := live_some HOk.out
      rw [hLVe] at l3
      have HLv := hidden l3
      have hobl := obL_len (l := S.l) (by rw [HOk.out.inv.len]; omega)
      have hidl : ids.length ≤ 256 := by rw [← hIDe, idsOf_len]; exact accs_few HOk.out
      have hobl2 : OB.length ≤ 512 := by rw [← hOBe, List.length_map]; exact hobl
      have HOb : Hid (∀ p ∈ OB, p.kind = 8 ∨ 1 ≤ p.kind ∧ p.kind ≤ 5) := fun p hp => by
        rw [← hOBe] at hp
        obtain ⟨x, hx, rfl⟩ := List.mem_map.1 hp
        obtain ⟨q, h1, h2, h3, _⟩ := ob_at (by rw [HOk.out.inv.len]; omega) hx
        rw [h3]
        exact HOk.out.inv.mem.kind q (List.mem_of_getElem? h1) h2
      have HOBe := hidden hOBe
      have HIDe := hidden hIDe
      clear hcs HZ2 l3 hobl hLVe hOBe hIDe
      generalize hlvl : LV.length = lvl at *
      generalize hoblx : OB.length = obl at *
      generalize hidlx : ids.length = idl at *
      have HLvl := hidden hlvl
      have HObl := hidden hoblx
      have HIdl := hidden hidlx
      have b1 : (lvl : Int) ≤ 256 := by omega
      have b2 : (obl : Int) ≤ 512 := by omega
      have b3 : (idl : Int) ≤ 256 := by omega
      clear hlvl hoblx hidlx hlvlen hidl hobl2
      go_wp2_with fail
      obtain ⟨gko, hgo⟩ : ∃ g, g = gk := ⟨_, rfl⟩
      subst hgo
      obtain ⟨wo, hwo⟩ : ∃ wo, wo = wr := ⟨_, rfl⟩
      subst hwo
      go_loopg [13] lvl (fun gi kv wi => ∃ k : Nat, kv = .int .i64 (k : Int) ∧ k + gi = lvl ∧ ChS S LV va OB oa ids ia w wi)
      case atStart => exact ⟨0, rfl, Nat.zero_add _, HCs.out⟩
      case round =>
        clear HCs
        obtain ⟨k, rfl, hkg, hcs⟩ := hrel
        have HKg := hidden hkg
        clear hkg
        by_cases hkl : k < lvl
        · have hm : k < LV.length := by have := HLvl.out; omega
          have hx : LV[k]? = some LV[k] := List.getElem?_eq_getElem hm
          generalize LV[k] = x at hx
          obtain ⟨hx32, q, hq⟩ := HLv.out x (List.mem_of_getElem? hx)
          obtain ⟨gv, rfl, _, _, hcx⟩ := hcs.va k x hx
          have how := ch_own HOk.out hcs hx32 hq
          rw [HSc.out] at how
          have HOw := hidden how
          have HQ := hidden hq
          have hki : (k : Int) < (lvl : Int) := by omega
          clear how hcs hm hx hx32 hq
          go_wp2_with fail
          refine HOw.out.mono ?_
          rintro r w7 ⟨rfl, hcs7⟩
          have HCs7 := hidden hcs7
          clear hcs7 HOw hcx
          by_cases hqk : q.kind = 1
          · have hko : kindOwn q = .tuple #[.int .i64 (q.own : Int), .int .i64 0] := by unfold kindOwn; rw [if_pos hqk]
            rw [hko]
            obtain ⟨e, he, hch, hgv, e0, e1, e2, e3⟩ := ch_acc HOk.out HQ.out hqk
            rw [HIDe.out] at hgv
            have hch2 : e.q.charged = (OB.map (costP q.own)).sum := by rw [hch, ← HOBe.out, List.map_map]; rfl
            have HHe := hidden he
            have HCh := hidden hch2
            have HGv := hidden hgv
            clear hko hqk he hch hgv hch2
            generalize hown : q.own = own at *
            generalize hcc : e.q.charged = cc at *
            generalize hgg : e.q.given = gg at *
            generalize hlim : e.q.limit = lim at *
            have HCc := hidden hcc
            have HGg := hidden hgg
            have HLim := hidden hlim
            clear hown hcc hgg hlim
            go_wp2_with fail
            go_loopg [16, 17] obl (fun gi sv mv wi => ∃ m : Nat, mv = .int .i64 (m : Int) ∧ m + gi = obl ∧ sv = .int .i64 ((OB.map (costP (own : Int))).take m).sum ∧ ChS S LV (some ⟨gv, 0, none⟩) OB oa ids ia w wi)
            case atStart => exact ⟨0, rfl, Nat.zero_add _, by simp, HCs7.out⟩
            case round =>
              clear HCs7
              obtain ⟨m, rfl, hmg, rfl, hcs⟩ := hrel
              have HMg := hidden hmg
              clear hmg
              by_cases hml : m < obl
              · have hm : m < OB.length := by have := HObl.out; omega
                have hx : OB[m]? = some OB[m] := List.getElem?_eq_getElem hm
                generalize OB[m] = p at hx
                obtain ⟨go, rfl, o0, o1, o2⟩ := hcs.ob hx
                have hpk := HOb.out p (List.mem_of_getElem? hx)
                have hcost := fun wx => cost16_all wx hpk
                have hcb := costK_some hpk
                have hsum := sum_take_succ (l := OB.map (costP (own : Int))) (k := m) (x := costP (own : Int) p) (by rw [List.getElem?_map, hx]; rfl)
                have hpi : p.is = true := by
                  have hpm : p ∈ (obL S.l).map (obP S.l) := by rw [HOBe.out]; exact List.mem_of_getElem? hx
                  obtain ⟨y, hy, rfl⟩ := List.mem_map.1 hpm
                  obtain ⟨q', _, h2, h3, _⟩ := ob_at (by rw [HOk.out.inv.len]; omega) hy
                  rw [h3]; exact h2
                have hbd := sum_take_le (l := OB.map (costP (own : Int))) (fun y hy => by obtain ⟨z, _, rfl⟩ := List.mem_map.1 hy; exact costP_pos _ _) m
                have hbd2 := sum_take_le (l := OB.map (costP (own : Int))) (fun y hy => by obtain ⟨z, _, rfl⟩ := List.mem_map.1 hy; exact costP_pos _ _) (m + 1)
                rw [← HCh.out] at hbd hbd2
                have HSum := hidden hsum
                have HCost := hidden hcost
                have HCs8 := hidden hcs
                have hmi : (m : Int) < (obl : Int) := by omega
                by_cases hpo : p.fac = own
                · have hcp : costP (own : Int) p = ((costK p.kind : Nat) : Int) := by
                    unfold costP
                    rw [if_pos (by simp [hpi, hpo])]
                  have hbe : (((p.fac : Nat) : Int) == ((own : Nat) : Int)) = true := by simp; omega
                  rw [hcp] at HSum
                  clear hcs hm hx hpk hcost hpi hcp hpo hsum
                  generalize hs0 : ((OB.map (costP (own : Int))).take m).sum = s0 at *
                  generalize hs1 : ((OB.map (costP (own : Int))).take (m + 1)).sum = s1 at *
                  have HS1 := hidden hs1
                  generalize costK p.kind = ck at *
                  have hck : (ck : Int) ≤ 1024 := by omega
                  have hs01 : (0 : Int) ≤ s0 := hbd.1
                  have hs02 : s0 ≤ 1073741824 := by omega
                  clear hbd hbd2 hs0 hs1 hcb
                  go_wp2_with fail
                  refine (HCost.out _).mono ?_
                  rintro r w' ⟨rfl, rfl⟩
                  go_wp2_with fail
                  go_roundg (obl - (m + 1))
                  case measure => have := HMg.out; omega
                  case rel => exact ⟨m + 1, by go_num, by have := HMg.out; omega, by rw [HS1.out, HSum.out], HCs8.out⟩
                · have hcp : costP (own : Int) p = 0 := by
                    unfold costP
                    rw [if_neg (by simp; omega)]
                  have hbe : (((p.fac : Nat) : Int) == ((own : Nat) : Int)) = false := by simp; omega
                  rw [hcp] at HSum
                  clear hcs hm hx hpk hcost hpi hcp hpo hsum hbd hbd2 hcb
                  generalize hs0 : ((OB.map (costP (own : Int))).take m).sum = s0 at *
                  have HS0 := hidden hs0
                  clear hs0
                  go_wp2_with fail
                  go_roundg (obl - (m + 1))
                  case measure => have := HMg.out; omega
                  case rel => exact ⟨m + 1, by go_num, by have := HMg.out; omega, by rw [HSum.out, Int.add_zero], HCs8.out⟩
              · obtain rfl : m = obl := by have := HMg.out; omega
                rw [List.take_of_length_le (by rw [List.length_map, HObl.out]; exact Nat.le_refl _), ← HCh.out]
                have HCs9 := hidden hcs
                clear hcs
                go_wp2_with fail
                go_loopg [16, 18] idl (fun gi sv mv wi => ∃ j : Nat, mv = .int .i64 (j : Int) ∧ j + gi = idl ∧ sv = .int .i64 (cc + ((ids.map (givI S.P.q.E (own : Int))).take j).sum) ∧ ChS S LV (some ⟨gv, 0, none⟩) OB oa ids ia w wi)
                case atStart => exact ⟨0, rfl, Nat.zero_add _, by simp, HCs9.out⟩
                case round =>
                  clear HCs9
                  obtain ⟨j, rfl, hjg, rfl, hcs⟩ := hrel
                  have HJg := hidden hjg
                  clear hjg
                  by_cases hjl : j < idl
                  · have hx : ids[j]? = some (ids[j]'(by rw [HIdl.out]; exact hjl)) := List.getElem?_eq_getElem _
                    generalize ids[j]'(by rw [HIdl.out]; exact hjl) = id at hx
                    obtain ⟨gi, rfl, hcx, hl0, hl1, hpar, hli⟩ := ch_id HOk.out hcs HIDe.out.symm hx
                    rw [HSq.out] at hpar hli
                    have hsum := sum_take_succ (l := ids.map (givI S.P.q.E (own : Int))) (k := j) (x := givI S.P.q.E (own : Int) id) (by rw [List.getElem?_map, hx]; rfl)
                    have hbd := sum_take_le (l := ids.map (givI S.P.q.E (own : Int))) (fun y hy => by obtain ⟨z, _, rfl⟩ := List.mem_map.1 hy; exact lim_pos HOk.out _ _) j
                    have hbd2 := sum_take_le (l := ids.map (givI S.P.q.E (own : Int))) (fun y hy => by obtain ⟨z, _, rfl⟩ := List.mem_map.1 hy; exact lim_pos HOk.out _ _) (j + 1)
                    rw [← HGv.out] at hbd hbd2
                    have HSum := hidden hsum
                    have HPar := hidden hpar
                    have HLi := hidden hli
                    have HCs8 := hidden hcs
                    have hji : (j : Int) < (idl : Int) := by omega
                    clear hcs hx hpar hli hsum
                    by_cases hpo : parOf S.P.q.E id = (own : Int)
                    · have hgi : givI S.P.q.E (own : Int) id = limOf S.P.q.E id := by unfold givI; rw [if_pos hpo]
                      rw [hgi] at HSum
                      have hbe : (parOf S.P.q.E id == ((own : Nat) : Int)) = true := by simpa using hpo
                      clear hpo hgi
                      generalize parOf S.P.q.E id = pv at *
                      generalize limOf S.P.q.E id = lv at *
                      generalize hs0 : ((ids.map (givI S.P.q.E (own : Int))).take j).sum = s0 at *
                      generalize hs1 : ((ids.map (givI S.P.q.E (own : Int))).take (j + 1)).sum = s1 at *
                      have HS1 := hidden hs1
                      generalize hct : cc + s0 = ct at *
                      have hct0 : (0 : Int) ≤ ct := by omega
                      have hct1 : ct ≤ 1073741824 := by omega
                      have HCt : Hid (cc + s1 = ct + lv) := by have := HSum.out; show _ = _; omega
                      clear hbd hbd2 hs0 hs1 hct
                      go_wp2_with fail
                      refine HPar.out.mono ?_
                      rintro r w' ⟨rfl, rfl⟩
                      go_wp2_with fail
                      refine HLi.out.mono ?_
                      rintro r w' ⟨rfl, rfl⟩
                      go_wp2_with fail
                      go_roundg (idl - (j + 1))
                      case measure => have := HJg.out; omega
                      case rel => exact ⟨j + 1, by go_num, by have := HJg.out; omega, by rw [HS1.out, HCt.out], HCs8.out⟩
                    · have hgi : givI S.P.q.E (own : Int) id = 0 := by unfold givI; rw [if_neg hpo]
                      rw [hgi] at HSum
                      have hbe : (parOf S.P.q.E id == ((own : Nat) : Int)) = false := by simpa using hpo
                      clear hpo hgi hbd hbd2
                      generalize parOf S.P.q.E id = pv at *
                      generalize hct : cc + ((ids.map (givI S.P.q.E (own : Int))).take j).sum = ct at *
                      have HCt : Hid (cc + ((ids.map (givI S.P.q.E (own : Int))).take (j + 1)).sum = ct) := by have := HSum.out; show _ = _; omega
                      clear hct
                      go_wp2_with fail
                      refine HPar.out.mono ?_
                      rintro r w' ⟨rfl, rfl⟩
                      go_wp2_with fail
                      go_roundg (idl - (j + 1))
                      case measure => have := HJg.out; omega
                      case rel => exact ⟨j + 1, by go_num, by have := HJg.out; omega, by rw [HCt.out], HCs8.out⟩
                  · obtain rfl : j = idl := by have := HJg.out; omega
                    rw [List.take_of_length_le (by rw [List.length_map, HIdl.out]; exact Nat.le_refl _), ← HGv.out]
                    have hen := ch_end HOk.out hcs HHe.out
                    rw [HSq.out, HCc.out, HGg.out, HLim.out] at hen
                    have HEn := hidden hen
                    have hne : ((cc + gg : Int) != (cc + gg : Int)) = false := by simp
                    have hgt : decide (lim < cc + gg) = false := by rw [decide_eq_false_iff_not]; omega
                    clear hen hcs
                    generalize cc + gg = tot at *
                    go_wp2_with fail
                    refine HEn.out.mono ?_
                    rintro r w8 ⟨rfl, hli, hcs8⟩
                    have HLi := hidden hli
                    have HCs8 := hidden hcs8
                    clear hli hcs8 HEn
                    go_wp2_with fail
                    refine HLi.out.mono ?_
                    rintro r w' ⟨rfl, rfl⟩
                    go_wp2_with fail
                    go_roundg (lvl - (k + 1))
                    case measure => have := HKg.out; omega
                    case rel => exact ⟨k + 1, by go_num, by have := HKg.out; omega, HCs8.out⟩
          · have hko : kindOwn q = .tuple #[.int .i64 0, .int .i64 10] := by unfold kindOwn; rw [if_neg hqk]
            rw [hko]
            clear hko hqk
            go_wp2_with fail
            go_roundg (lvl - (k + 1))
            case measure => have := HKg.out; omega
            case rel => exact ⟨k + 1, by go_num, by have := HKg.out; omega, HCs7.out⟩
        · obtain rfl : k = lvl := by have := HKg.out; omega
          have HNx2 := hidden (HNx.out _ _ _ _ _ _ _ hcs)
          clear hcs
          go_wp2_with fail
          go_roundg (len - (i + 1))
          case measure => have := HIg.out; omega
          case rel => exact ⟨i + 1, by go_num, by have := HIg.out; omega, by rw [show 1 + (i + 1) = 1 + i + 1 by omega, show 20 * (i + 1) = 20 * i + 20 by omega]; exact HNx2.out⟩
    · have HR : Hid (Told w (.bool true) (.returned (.bool true)) wr) := ⟨rfl, hst.fresh⟩
      obtain rfl : i = len := by omega
      clear hst hig HIg
      go_wp2_with fail
      first | exact HR.out | (go_ret; exact HR.out)
end Go.Proofs.YtcnbbenmlffgpaaGreatDoor

/- What the row's listed variables say of memory: the tables lie. No condition. -/
namespace Go.Proofs.YtcnbbenmlffgpaaGreatDoor
open Go.RowKit

def laids : List (String × DataW Unit) := [("math/bits.deBruijn32tab", Rows.laid_math_bits_deBruijn32tab), ("math/bits.deBruijn64tab", Rows.laid_math_bits_deBruijn64tab), ("quartermaster/pool.costs", Rows.laid_quartermaster_pool_costs)]
def dbt32 : List Int := [0, 1, 28, 2, 29, 14, 24, 3, 30, 22, 20, 15, 25, 17, 4, 8, 31, 27, 13, 23, 21, 19, 16, 7, 26, 12, 18, 6, 11, 5, 10, 9]
theorem g32 : Tryz.prog.globalNamed "math/bits.deBruijn32tab" = some 2 := by kernel_rfl
theorem t32 : (Tryz.prog.globals[2]?).map (·.type) = some 264 := by kernel_rfl
theorem g64 : Tryz.prog.globalNamed "math/bits.deBruijn64tab" = some 1 := by kernel_rfl
theorem gCost : Tryz.prog.globalNamed "quartermaster/pool.costs" = some 0 := by kernel_rfl
theorem t64 : (Tryz.prog.globals[1]?).map (·.type) = some 239 := by kernel_rfl
theorem tCost : (Tryz.prog.globals[0]?).map (·.type) = some 176 := by kernel_rfl
theorem env_of_laid {W : World} (h : laidMetH Tryz.prog laids W) : Env W := by
  rw [MakeChecks.laidMetH_plain _ _ _ (by kernel_rfl)] at h
  have h1 : laidMet Tryz.prog (("math/bits.deBruijn32tab", Lib.tabData .u8 dbt32) :: [("math/bits.deBruijn64tab", Rows.laid_math_bits_deBruijn64tab), ("quartermaster/pool.costs", Rows.laid_quartermaster_pool_costs)]) W := h
  have hA := Lib.tabIs_of_head g32 t32 Tryz.underlying264 Tryz.underlying5 (by kernel_rfl) (by kernel_rfl) h1
  have h2 : laidMet Tryz.prog (("math/bits.deBruijn64tab", Lib.tabData .u8 (dbt.map fun (n : Nat) => (n : Int))) :: [("quartermaster/pool.costs", Rows.laid_quartermaster_pool_costs)]) W := laidMet.tail h1
  have h3 : laidMet Tryz.prog (("quartermaster/pool.costs", Lib.tabData .i64 costL) :: []) W := laidMet.tail h2
  have hB := Lib.tabIs_of_head g64 t64 Tryz.underlying239 Tryz.underlying5 (by kernel_rfl) (by kernel_rfl) h2
  have hC := Lib.tabIs_of_head gCost tCost Tryz.underlying176 Tryz.underlying3 (by kernel_rfl) (by kernel_rfl) h3
  have cB : TabB W := by
    intro j v hv
    have hj := (List.getElem?_eq_some_iff.1 hv).1
    have := hB.cell g64 j (by simpa using hj)
    rw [this]
    congr 2
    simp [List.getD, hv]
  have cC : TabC W := by
    intro j v hv
    have hj := (List.getElem?_eq_some_iff.1 hv).1
    have := hC.cell gCost j (by simpa using hj)
    rw [this]
    congr 2
    simp [List.getD, hv]
  refine ⟨?_, cB, cC⟩
  have c0 := World.block_lt_of_cell? W ⟨1, 0, none⟩ (cB 0 0 rfl)
  have c1 := World.block_lt_of_cell? W ⟨0, 0, none⟩ (cC 0 0 rfl)
  have c2 := World.block_lt_of_cell? W ⟨2, 0, none⟩ (hA.cell g32 0 (by decide))
  have c0' : 1 < W.heap.size := c0
  have c1' : 0 < W.heap.size := c1
  have c2' : 2 < W.heap.size := c2
  unfold GB
  omega
end Go.Proofs.YtcnbbenmlffgpaaGreatDoor

/-
  CoreCharge returns true at every input, whatever lies in memory, where the listed variables lie as laid.
  By hand, after the frame of the guide's worked examples. Not trusted: Lean checks it.
-/
namespace Go.Proofs.YtcnbbenmlffgpaaGreatDoor.coreCharge
open Go.ChangeShapes Go.WideShapes Go.ChangeAt Go.RowKit
set_option linter.unusedVariables false

theorem own : ownKnob Tryz.prog.godebug = none := by kernel_rfl
theorem laidOut : laidOutB Tryz.prog = true := by kernel_rfl
/-- The door's own heap meets the condition: closed facts. -/
theorem door_met (os : Os) (args : Array Value) : laidMetH Tryz.prog laids ((World.doorLaid Tryz.prog 400 os).forCall (fun _ _ => 0) ⟨#[], args, []⟩).memory :=
  laidMetH_of_parts3 (fuel := 8) (laidMet_of_run' 8 (by kernel_rfl) (by kernel_rfl)) (by kernel_rfl) (by kernel_rfl)

set_option maxRecDepth 100000 in
theorem lifted (os : Os) (started : os.Started) (H : Type) (enc : TypeId × Value → H) :
    ReturnsInHanded {} Tryz.checked os 9 .any (fun w args => (Rows.coreChargeSpec.pre enc Tryz.prog Tryz.f9 [] false w args ∧ laidMetH Tryz.prog laids w) ∧ sizedMet enc Tryz.prog Tryz.f9 (OpenSpec.ofChange Rows.coreChargeSpec) false w args)
      (Rows.coreChargeSpec.post enc Tryz.prog Tryz.f9 false true false false) := by
  refine returnsInHanded_of_change_and (C := Tryz.checked) (X := fun w _ => laidMetH Tryz.prog laids w) (fun _ _ _ hh h => h.of_heap hh) own started (by kernel_rfl) Tryz.func9
    (ChangeSpec.witness_shaped (enc := enc) (C := Tryz.checked) (os := os) (X := fun w _ => laidMetH Tryz.prog laids w) false (World.doorLaid Tryz.prog 400 os) #[.int .u16 0, .int .u8 0, .slice none 0 0] 8 rfl (World.shaped_of_RefB (by kernel_rfl) (by kernel_rfl)) (by kernel_rfl) (by kernel_rfl) (by kernel_rfl) (door_met os _)) ?_
  intro W base args ds gs before hval0 hW _ _ hL _
  have hval : ∀ (j : Nat) t v, Tryz.f9.params[j]? = some t → args[j]? = some v → Value.okWide Tryz.prog W .any base t v := hval0
  have hW' := hW
  obtain ⟨p, q, hA0, hV, rfl, hfz, hnd⟩ := hW
  have hA : DataW.TrodAll enc Tryz.prog W 0 (fun _ => true) true Tryz.f9.params.toList args.toList ds p := hA0
  rw [Tryz.params9] at hA hval
  obtain ⟨v0, v1, v2, d0, d1, d2, p0, p1, p2, rfl, rfl, rfl, h0, h1, h2⟩ := trodAll_three hA
  obtain ⟨rfl, rfl⟩ := trodVars_none hV
  obtain ⟨n0, rfl, rfl, rfl, wf0⟩ := open_int Tryz.underlying49 (hval 0 49 v0 rfl rfl) h0
  have hb0 : 0 ≤ n0 ∧ n0 < 65536 := by
    have := bounds_u16 wf0
    omega
  obtain ⟨m0, rfl⟩ := Int.eq_ofNat_of_zero_le hb0.1
  obtain ⟨n1, rfl, rfl, rfl, wf1⟩ := open_int Tryz.underlying5 (hval 1 5 v1 rfl rfl) h1
  have hb1 : 0 ≤ n1 ∧ n1 < 256 := by
    have := bounds_u8 wf1
    omega
  obtain ⟨m1, rfl⟩ := Int.eq_ofNat_of_zero_le hb1.1
  obtain ⟨a2, len2, cap2, rfl⟩ := okWide_slice Tryz.underlying22 (hval 2 22 v2 rfl rfl)
  have k2 := h2
  have lt2 : ∀ x ∈ p2, x.block < W.heap.size := by obtain ⟨m, hm⟩ := k2; exact DataW.trod_lt m _ _ _ hm
  obtain ⟨A2, hAct2⟩ : ∃ A, IsA5 W a2 len2 A := by
    obtain ⟨fuel, hf⟩ := h2
    exact open_acts5 (by simpa [Value.cells] using hf)
  clear hA0 hval0
  refine (charge_any (env_of_laid hL) m0 (by omega) m1 (by omega) a2 len2 cap2 A2 hAct2).mono fun e W' ⟨he, bel⟩ => ?_
  subst he
  exact ⟨_, rfl, _, _, _, [], _, [], hW', trodAll_mk1 (shut_bool Tryz.underlying4 _), trodAll_mk3 (shut_int Tryz.underlying49 wf0) (shut_int Tryz.underlying5 wf1) (Below.trod laidOut (by kernel_rfl) (of_decide_eq_true (by kernel_rfl)) k2 bel lt2), rfl, bel.frame _, fun h => by cases h⟩

theorem over : Rows.coreChargeRow.holds Tryz.pinned (OpenSpec.ofChange Rows.coreChargeSpec) :=
  OpenClaim.holds_of_wide 9 Tryz.f9 rfl rfl rfl rfl rfl rfl rfl ⟨rfl, rfl, rfl, rfl, rfl⟩ rfl rfl rfl rfl rfl (by kernel_rfl) Tryz.func9 (by kernel_rfl)
    (of_decide_eq_true (by kernel_rfl)) (by unfold Func.isWrapper; first | (rw [if_pos (by decide +kernel)]; kernel_rfl) | (rw [if_neg (by decide +kernel)]; exact ⟨rfl, rfl⟩))
    (fun os started H enc _ => lifted os started H enc)

/-- THE ROW. -/
theorem proved : Rows.CoreChargeSaid := over
end Go.Proofs.YtcnbbenmlffgpaaGreatDoor.coreCharge
