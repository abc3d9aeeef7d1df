/- CoreApart returns true at every input. No condition. Part of its proof. -/
import Derived.Test.YtcnbbenmlffgpaaGreatDoorCa21
import Derived.Test.YtcnbbenmlffgpaaGreatDoorCa17
import Derived.Test.YtcnbbenmlffgpaaGreatDoorCa20
set_option linter.unusedVariables false
/- Walk of the law's 'all': all objects, in a new row. Conditions: the blocks hold what CO.hl says. -/
namespace Go.Proofs.YtcnbbenmlffgpaaGreatDoor
open Go.RowKit Go.Shelf

def ocells (L : List Pl) : List Value := L.flatMap fun p => [.int .i64 (p.kind : Int), .int .i64 (p.at_ : Int), .int .i64 (p.fac : Int)]
theorem ocells_len : ∀ L : List Pl, (ocells L).length = L.length * 3
  | [] => rfl
  | p :: L => by
    have := ocells_len L
    unfold ocells at *
    rw [List.flatMap_cons, List.length_append, this, List.length_cons]
    simp; omega
theorem ocells_app (L M : List Pl) : ocells (L ++ M) = ocells L ++ ocells M := by unfold ocells; rw [List.flatMap_append]
theorem infoObj : (Tryz.prog.info? 39).map (fun i => (i.zero, i.size, i.bytes)) = some (some (.agg #[.int .i64 0, .int .i64 0, .int .i64 0]), 3, 24) := by kernel_rfl
/-- A new row of objects. -/
def NewObs (w : World) (L : List Pl) (r : Ending) (w' : World) : Prop := ∃ v, r = .returned v ∧ w'.ownsRow w.heap.size 39 3 v L.length (ocells L) ∧ Below w.heap.size w w'
/-- A row of objects under way. -/
def OutO (w wr : World) (v : Value) (L : List Pl) : Prop := wr.ownsRow w.heap.size 39 3 v L.length (ocells L) ∧ Below w.heap.size w wr
theorem OutO.nil (w : World) : OutO w w (.slice none 0 0) [] := ⟨World.ownsRow_nil _ _ _ _, Below.refl _ _⟩
theorem OutO.below {w wr w1 : World} {v : Value} {L : List Pl} (h : OutO w wr v L) (hb : Below wr.heap.size wr w1) : OutO w w1 v L :=
  ⟨h.1.kept (row := none) ⟨hb.os, hb.tape, hb.output, hb.size, fun k hk _ => hb.block k hk⟩ (by cases hv : v.ownBlock with | none => exact .inl rfl | some b => exact .inr (by simp)), h.2.trans (hb.mono h.2.size)⟩
theorem OutO.alloc {w wr : World} {v : Value} {L : List Pl} (h : OutO w wr v L) (o : Obj) : OutO w (wr.alloc o) v L := h.below ((Below.refl _ _).alloc (Nat.le_refl _) o)
def obj3 (p : Pl) : List Value := [.int .i64 (p.kind : Int), .int .i64 (p.at_ : Int), .int .i64 (p.fac : Int)]
theorem OutO.app {w wr : World} {v : Value} {L : List Pl} (h : OutO w wr v L) (hl : L.length ≤ 1000) (p : Pl) (o : Obj) : ∃ v' w', (Builtin.append_ #[101, 101] 101 #[v, .slice (some ⟨wr.heap.size + 1, 0, none⟩) 1 1]).run Tryz.prog ((wr.alloc o).alloc (.cells #[.int .i64 (p.kind : Int), .int .i64 (p.at_ : Int), .int .i64 (p.fac : Int)] 39)) = .ok v' w' ∧ OutO w w' v' (L ++ [p]) := by
  obtain ⟨i0, hi, hz0, hz1, hz2⟩ := info_parts infoObj
  have h2 := (h.alloc o).alloc (.cells #[.int .i64 (p.kind : Int), .int .i64 (p.at_ : Int), .int .i64 (p.fac : Int)] 39)
  have hsz : (wr.alloc o).heap.size = wr.heap.size + 1 := by simp
  obtain ⟨v', w', hr, q1, q2, _, q4⟩ := run_append_own_at (P := Tryz.prog) ((wr.alloc o).alloc (.cells #[.int .i64 (p.kind : Int), .int .i64 (p.at_ : Int), .int .i64 (p.fac : Int)] 39)) w.heap.size 101 101 39 i0 (.agg #[.int .i64 0, .int .i64 0, .int .i64 0]) 3 24 Tryz.underlying101 hi hz0 hz1 hz2 rfl (by decide) v L.length (ocells L) h2.1 ⟨wr.heap.size + 1, 0, none⟩ 1 1 (obj3 p) rfl (by
    intro j u hj
    have := (Cells.new (wr.alloc o) 39 (obj3 p)).cell j u hj
    rw [hsz] at this
    have e : (⟨wr.heap.size + 1, 0, none⟩ : Addr).add j = ⟨wr.heap.size + 1, j, none⟩ := by unfold Addr.add; split <;> simp_all
    rw [e]; exact this) (fun u hu => by
      unfold obj3 at hu
      simp only [List.mem_cons, List.not_mem_nil, or_false] at hu
      rcases hu with rfl | rfl | rfl <;> rfl) (by unfold maxLen; omega) (by omega) h2.2.size
  refine ⟨v', w', hr, ?_, ?_⟩
  · rw [List.length_append, ocells_app]
    exact q1
  · exact h2.2.trans ((Below.refl _ _).mono h2.2.size |>.grown q2 h2.2.size (fun b hb => (h2.1.lt b hb).1))
set_option maxHeartbeats 2000000 in
theorem all_any {w : World} {S : CO} {fr : List Nat} {N K : Nat} (h : Sep w S.hl) (ok : S.Ok fr N K) : Calls Tryz.prog 49 #[.pointer (some ⟨S.c, 0, none⟩)] w (NewObs w ((obL S.l).map (obP S.l))) := by
  have hll : S.l.length ≤ 256 := by rw [ok.inv.len]; omega
  have hlv := clive_any h ok.inv.lok
  have HZm : Hid (∀ w1 v1, Below w.heap.size w w1 → OutH w w1 v1 (allL S.l 1) → Calls Tryz.prog 32 #[.pointer (some ⟨S.c, 0, none⟩)] w1 fun r w2 => ∃ v2, r = .returned v2 ∧ ∃ v3 w3, (Builtin.append_ #[30, 30] 30 #[v1, v2]).run Tryz.prog w2 = .ok v3 w3 ∧ Below w.heap.size w w3 ∧ w3.ownsRow w.heap.size 32 1 v3 (obL S.l).length (hands (obL S.l))) := fun w1 v1 hb ho => by
    refine (czombies_any (h.grown hb).sep ok.inv.lok).mono ?_
    intro r w2 hr
    obtain ⟨a, cap, rfl, hb2, his, hc⟩ := hr.shape0
    have ho2 := ho.below hb2
    have hl1 := allTo_len S.l 1 S.l.length
    have hl2 := allTo_len S.l 2 S.l.length
    obtain ⟨v3, w3, e1, e2, e3, e4⟩ := app_hs0 (ty := 30) (cap := cap) ho2.1 his hc (by unfold allL; omega) ho2.2.size
    refine ⟨_, rfl, v3, w3, e1, ?_, ?_⟩
    · exact ho2.2.trans ((Below.refl _ _).mono ho2.2.size |>.grown e3 ho2.2.size (fun b hb => (ho2.1.lt b hb).1))
    · unfold obL
      rw [List.length_append, hands_app]; exact e2
  have HAny : Hid (∀ w1 x, Below w.heap.size w w1 → x ∈ obL S.l → Calls Tryz.prog 22 #[.pointer (some ⟨S.c, 0, none⟩), .int .u32 (x : Int)] w1 fun r w2 => r = .returned (.tuple #[.agg #[.int .i64 ((obP S.l x).kind : Int), .int .i64 ((obP S.l x).at_ : Int), .int .i64 ((obP S.l x).fac : Int)], .bool true]) ∧ Below w1.heap.size w1 w2) := fun w1 x hb hx => by
    obtain ⟨p, h1, h2, h3, h4⟩ := ob_at hll hx
    have hx32 : x < 4294967296 := by
      have hn : nm (x % 256) p = x := by rcases h4 with h4 | h4 <;> exact (pget_some.1 h4).2.1
      have := (ok.inv.lok.2 p (List.mem_of_getElem? h1)).2
      unfold nm at hn; omega
    have := cany_any (h.grown hb).sep ok.inv.lok hx32
    rw [h3]
    unfold anyV at this
    rcases h4 with h4 | h4
    · have hz : pget S.l 2 x = none := by
        cases hc : pget S.l 2 x with
        | none => rfl
        | some q =>
          obtain ⟨a1, _, a3⟩ := pget_some.1 h4
          obtain ⟨b1, _, b3⟩ := pget_some.1 hc
          rw [a1] at b1; cases b1; omega
      rw [hz, h4] at this
      exact this
    · rw [h4] at this
      exact this
  have hol := obL_len hll
  clear h ok hll
  generalize obL S.l = L at *
  generalize obP S.l = ob at *
  generalize S.c = c at *
  have HR : Hid (∀ w3 w4 v, Below w.heap.size w w3 → OutO w3 w4 v (L.map ob) → NewObs w (L.map ob) (.returned v) w4) := fun w3 w4 v hb ho => ⟨v, rfl, ownsRow_base ho.1 hb.size, hb.trans (ho.2.mono hb.size)⟩
  generalize hQ : NewObs w (L.map ob) = Q at *
  clear hQ
  go_enter Tryz.func49, Tryz.ntmps49
  go_wp2_with fail
  refine hlv.mono ?_
  rintro r w1 ⟨v1, rfl, hr1, hb1⟩
  have hz := HZm.out w1 v1 hb1 ⟨hr1, hb1⟩
  have HZ := hidden hz
  clear hz hr1 hb1 hlv HZm
  go_wp2_with fail
  refine HZ.out.mono ?_
  rintro r w2 ⟨v2, rfl, v3, w3, happ, hb3, hrow⟩
  have HB3 := hidden hb3
  obtain ⟨la, lcap, rfl, hih, _⟩ := row_isHs hrow
  have HIh := hidden hih
  clear hb3 hrow hih HZ
  go_wp2_with (at_builtin; refine Lib.wpList_append_run _ rfl _ _ _ _ rfl _ _ rfl rfl _ _ happ ?_)
  generalize hll : L.length = ll at *
  have HLl := hidden hll
  have hol2 : (ll : Int) ≤ 512 := by omega
  clear hll happ hol
  go_loopg [3, 5] ll (fun gk ov iv wr => ∃ k : Nat, iv = .int .i64 (k : Int) ∧ k + gk = ll ∧ OutO w3 wr ov ((L.take k).map ob))
  case atStart => exact ⟨0, rfl, Nat.zero_add _, by simpa using OutO.nil w3⟩
  case round =>
    obtain ⟨k, rfl, hkg, hout⟩ := hrel
    have HO := hidden hout
    have HKg := hidden hkg
    clear hout hkg
    by_cases hlt : k < ll
    · have hx : L[k]? = some (L[k]'(by rw [HLl.out]; exact hlt)) := List.getElem?_eq_getElem _
      generalize L[k]'(by rw [HLl.out]; exact hlt) = x at hx
      obtain ⟨g0, rfl, hg0, hgl, hcell⟩ := (HIh.out.below HO.out.2).at' k x hx
      have hany := HAny.out wr x (HB3.out.trans (HO.out.2.mono HB3.out.size)) (List.mem_of_getElem? hx)
      have HAn := hidden hany
      have HX := hidden hx
      have hki : (k : Int) < (ll : Int) := by omega
      clear hx hany hg0 hgl
      go_wp2_with fail
      refine HAn.out.mono ?_
      rintro r w4 ⟨rfl, hb4⟩
      obtain ⟨v', w5, happ, hout5⟩ := (HO.out.below hb4).app (by rw [List.length_map, List.length_take]; have := HLl.out; omega) (ob x) (.cells #[.int .i64 ((ob x).kind : Int), .int .i64 ((ob x).at_ : Int), .int .i64 ((ob x).fac : Int)] 39)
      have hO5 : OutO w3 w5 v' ((L.take (k + 1)).map ob) := by
        rw [List.take_add_one, HX.out, List.map_append]; exact hout5
      have HO5 := hidden hO5
      clear hb4 HAn HO hcell hout5 hO5
      generalize (ob x).kind = qk at *
      generalize (ob x).at_ = qa at *
      generalize (ob x).fac = qf at *
      go_wp2_with (at_builtin; refine Lib.wpList_append_run _ rfl _ _ _ _ rfl _ _ rfl rfl _ _ happ ?_)
      go_roundg (ll - (k + 1))
      case measure => have := HKg.out; omega
      case rel => exact ⟨k + 1, by go_num, by have := HKg.out; omega, HO5.out⟩
    · obtain rfl : k = ll := by have := HKg.out; omega
      have ho := HO.out
      rw [List.take_of_length_le (by rw [HLl.out]; exact Nat.le_refl _)] at ho
      have HQ := hidden (HR.out _ _ _ HB3.out ho)
      clear ho HO
      go_wp2_with fail
      first | exact HQ.out | (go_ret; exact HQ.out)
end Go.Proofs.YtcnbbenmlffgpaaGreatDoor

/- CoreExact, one call behind the other. Conditions: the blocks hold what CO.hl says. -/
namespace Go.Proofs.YtcnbbenmlffgpaaGreatDoor
open Go.RowKit

def kindE (m : Nat) : Nat := [2, 3, 4, 5, 8][m]?.getD 2
theorem kindE_may (m : Nat) : (kindE m = 8 ∨ 2 ≤ kindE m ∧ kindE m ≤ 5) := by
  unfold kindE
  match m with
  | 0 => decide
  | 1 => decide
  | 2 => decide
  | 3 => decide
  | 4 => decide
  | n + 5 => simp
/-- What the round keeps to: the factory 1, its account, how much of all is left. -/
structure ExS (S : CO) (c qt aa n K : Nat) (f : Pl) : Prop where
  c : S.c = c
  ok : ∃ fr, S.Ok fr (n + 1) K
  qt : S.P.q.t = qt
  aa : S.P.a.a = aa
  get : pget S.l 1 1 = some f
  kind : f.kind = 1
  own : f.own = 1
  per : S.period = 1
  top : S.P.d.top = 8
  ps : S.P.d.ps.length ≤ n
  live : (allL S.l 1).length ≤ n
def ExAt (c qt aa i : Nat) (w wr : World) : Prop := ∃ (S : CO) (f : Pl), ExS S c qt aa (2 + i) i f ∧ S.ts = [] ∧ Step [] S.hl w wr
theorem ExAt.fresh {c qt aa i : Nat} {w wr : World} (h : ExAt c qt aa i w wr) : Below w.heap.size w wr := by
  obtain ⟨S, f, _, _, st⟩ := h
  exact st.fresh
theorem costK_pos {k : Nat} (h : k = 8 ∨ 2 ≤ k ∧ k ≤ 5) : 32 ≤ costK k ∧ costK k ≤ 1024 := by
  have : k = 2 ∨ k = 3 ∨ k = 4 ∨ k = 5 ∨ k = 8 := by omega
  rcases this with rfl | rfl | rfl | rfl | rfl <;> decide
set_option maxHeartbeats 1000000 in
theorem cost16_any (w : World) {k : Nat} (hk : k = 8 ∨ 2 ≤ k ∧ k ≤ 5) : Calls Tryz.prog 29 #[.int .i64 (k : Int)] w fun r w' => r = .returned (.int .i64 ((costK k : Nat) : Int)) ∧ w = w' := by
  have : k = 2 ∨ k = 3 ∨ k = 4 ∨ k = 5 ∨ k = 8 := by omega
  rcases this with rfl | rfl | rfl | rfl | rfl
  all_goals
    go_enter Tryz.func29, Tryz.ntmps29
    try push_cast
    go_wp2_with fail
    go_ret
    exact ⟨rfl, rfl⟩
/-- The start of a round: limit and use, then a Make. -/
theorem ex_start {c qt aa i : Nat} {w wr : World} (h : ExAt c qt aa i w wr) (hi : i ≤ 60) : ∃ lim use : Int, 0 ≤ use ∧ use ≤ lim ∧ lim ≤ 1073741824 ∧ ∀ w1, Below wr.heap.size wr w1 →
    Calls Tryz.prog 27 #[.pointer (some ⟨qt, 0, none⟩), .int .i64 1] w1 fun r w2 => r = .returned (.int .i64 lim) ∧ w1 = w2 ∧
    Calls Tryz.prog 28 #[.pointer (some ⟨qt, 0, none⟩), .int .i64 1] w1 fun r w3 => r = .returned (.int .i64 use) ∧ ∀ k : Nat, (k = 8 ∨ 2 ≤ k ∧ k ≤ 5) →
    Calls Tryz.prog 21 #[.pointer (some ⟨c, 0, none⟩), .int .u32 1, .int .i64 (k : Int), .int .i64 0] w3 fun r w4 =>
      (lim - use < ((costK k : Nat) : Int) ∧ r = .returned (.tuple #[.int .u32 0, .int .i64 5]) ∧ ExAt c qt aa (i + 1) w w4) ∨
      (((costK k : Nat) : Int) ≤ lim - use ∧ ∃ (x : Nat) (S : CO) (f q : Pl) (e : En Fa), r = .returned (.tuple #[.int .u32 (x : Int), .int .i64 0]) ∧ ExS S c qt aa (2 + (i + 1)) i f ∧ S.ts = [] ∧ pget S.l 1 x = some q ∧ q.kind = k ∧ x ≠ 0 ∧ x ≠ 1 ∧ find S.P.q.E 1 = some e ∧ e.q.limit = lim ∧ e.q.charged + e.q.given = use + ((costK k : Nat) : Int) ∧
        (∀ j, q.at_ ≤ j → j < q.at_ + costK k → S.P.a.mem[j]? = some 0) ∧ Step [] S.hl w w4) := by
  obtain ⟨S, f, ⟨ec, ⟨fr, ok⟩, eq, ea, hf, hk1, ho1, hper, htop, hps, hlv⟩, hts, st⟩ := h
  have hfm := pget_mem hf
  have hfi : f.is = true := Pl.is_iff.2 (.inl (pget_some.1 hf).2.2)
  obtain ⟨e, he⟩ := ok.inv.tre.acc hfm hfi hk1
  have he1 : find S.P.q.E 1 = some e := by rw [ho1] at he; exact he
  obtain ⟨b1, b2, b3, b4, b5, _⟩ := ok.inv.mem.pool.q.fa _ e he
  refine ⟨e.q.limit, e.q.charged + e.q.given, by omega, by omega, by omega, fun w1 hb => ?_⟩
  have st1 := st.trans (st.sep.grown hb)
  have hl := qlimit_some (PL.sQ (CO.sP st1.sep)) he1
  rw [eq] at hl
  unfold ptr at hl
  refine hl.mono ?_
  rintro r w2 ⟨rfl, rfl⟩
  refine ⟨rfl, rfl, ?_⟩
  have hu := quse_some (PL.sQ (CO.sP st1.sep)) ok.inv.mem.pool.q he1
  rw [eq] at hu
  unfold ptr at hu
  refine hu.mono ?_
  rintro r w3 ⟨rfl, hb3⟩
  refine ⟨rfl, fun k hk => ?_⟩
  have st3 := st1.trans (st1.sep.grown hb3)
  have hm := cmake_any st3.sep ok (by omega) (x := 1) (by omega) (k : Int) 0
  rw [ec] at hm
  refine hm.mono ?_
  intro r w4 hr
  have hlf : leftOf e = e.q.limit - (e.q.charged + e.q.given) := rfl
  by_cases hq : leftOf e < ((costK k : Nat) : Int)
  · obtain ⟨rfl, st4⟩ := hr.low hf hk1 (by omega) (fun h => by omega) he hq
    exact .inl ⟨by omega, rfl, S, f, ⟨ec, ⟨fr, ok.mono (by omega) (by omega)⟩, eq, ea, hf, hk1, ho1, hper, htop, by omega, by omega⟩, hts, st3.trans st4⟩
  · obtain ⟨i0, p0, hfst⟩ := room_some ok hts (by omega)
    obtain ⟨a, x, P', fr', rfl, hm, st4⟩ := hr.able hf (e := e) (i := i0) (p := p0) ⟨hk1, by omega, he, by omega, by rw [htop]; omega, hfst, fun h => by omega⟩
    have hi256 : i0 < 256 := by have := (List.getElem?_eq_some_iff.1 hfst.1).1; rw [ok.inv.len] at this; exact this
    have hne1 : i0 ≠ 1 := fun e1 => by
      obtain ⟨a1, _, a3⟩ := pget_some.1 hf
      have h1 := hfst.1
      rw [e1] at h1
      rw [show (1 : Nat) % 256 = 1 from rfl, h1] at a1
      cases a1
      have := hfst.2.1; omega
    have hne0 : i0 ≠ 0 := root_ne ok.inv.que hfst.1 (by have := hfst.2.1; omega)
    have hfac := hm.fac (by omega)
    refine .inr ⟨by omega, nm i0 p0, S.made f k a x i0 p0 P', f, ⟨k, a, f.own, 1, p0.age, x⟩, { e with q := { e.q with charged := e.q.charged + ((costK k : Nat) : Int) } }, rfl, ⟨ec, ⟨fr', ?_⟩, ?_, ?_, ?_, hk1, ho1, hper, ?_, ?_, ?_⟩, hts, ?_, rfl, ?_, ?_, ?_, rfl, ?_, ?_, st3.trans st4⟩
    · exact (hm.ok ok hfst.1).mono (by omega) (Nat.le_refl _)
    · show P'.q.t = qt; rw [hm.same.qt, eq]
    · show P'.a.a = aa; rw [hm.same.aa, ea]
    · show pget (S.l.set i0 _) 1 1 = some f
      rw [pget_set _ hfst.1, if_neg (by omega)]; exact hf
    · show P'.d.top = 8; rw [hm.same.top, htop]
    · have := hm.few; show P'.d.ps.length ≤ _; omega
    · show (allL (S.l.set i0 _) 1).length ≤ _
      have := allL_add (q := (⟨k, a, f.own, 1, p0.age, x⟩ : Pl)) hfst.1 1
      omega
    · show pget (S.l.set i0 _) 1 (nm i0 p0) = _
      rw [pget_set _ hfst.1, if_pos (nm_mod hi256 p0), if_pos ⟨rfl, rfl⟩]
    · unfold nm; omega
    · unfold nm; omega
    · show find P'.q.E 1 = _
      rw [hfac]
      rw [ho1] at he ⊢
      exact find_upd_same he _
    · show e.q.charged + _ + e.q.given = _; omega
    · exact hm.zero (by omega)
/-- The object lies in a block beside the core. -/
def Box (S : CO) (bx : Nat) (k a f : Nat) (w : World) : Prop := bx ∉ keys S.hl ∧ bx < w.heap.size ∧ w.cell? ⟨bx, 0, none⟩ = some (.int .i64 (k : Int)) ∧ w.cell? ⟨bx, 1, none⟩ = some (.int .i64 (a : Int)) ∧ w.cell? ⟨bx, 2, none⟩ = some (.int .i64 (f : Int))
theorem Box.new {S : CO} {w : World} (h : Sep w S.hl) (k a f : Nat) : Box S w.heap.size k a f (w.alloc (.cells #[.int .i64 (k : Int), .int .i64 (a : Int), .int .i64 (f : Int)] 39)) := by
  have hc := Cells.new w 39 [.int .i64 (k : Int), .int .i64 (a : Int), .int .i64 (f : Int)]
  exact ⟨fun hk => by have := h.lt hk; omega, by simp, hc.cell 0 _ rfl, hc.cell 1 _ rfl, hc.cell 2 _ rfl⟩
theorem Box.step {S S' : CO} {bx k a f : Nat} {w w' : World} (h : Box S bx k a f w) (st : Step S.hl S'.hl w w') : Box S' bx k a f w' := by
  obtain ⟨h1, h2, h3, h4, h5⟩ := h
  have hbk := st.chg.block bx h2 h1
  refine ⟨fun hk => ?_, Nat.lt_of_lt_of_le h2 st.chg.size, (World.cell?_of_block (w := w) hbk).trans h3, (World.cell?_of_block (w := w) hbk).trans h4, (World.cell?_of_block (w := w) hbk).trans h5⟩
  rcases st.new bx hk with h' | h'
  · exact h1 h'
  · omega
theorem Box.grown {S : CO} {bx k a f : Nat} {w w' : World} (h : Box S bx k a f w) (hb : Below w.heap.size w w') : Box S bx k a f w' := by
  obtain ⟨h1, h2, h3, h4, h5⟩ := h
  have hbk := hb.block bx h2
  exact ⟨h1, Nat.lt_of_lt_of_le h2 hb.size, (World.cell?_of_block (w := w) hbk).trans h3, (World.cell?_of_block (w := w) hbk).trans h4, (World.cell?_of_block (w := w) hbk).trans h5⟩
end Go.Proofs.YtcnbbenmlffgpaaGreatDoor

/- CoreCharge, one call behind the other. Conditions: the blocks hold what CO.hl says. -/
namespace Go.Proofs.YtcnbbenmlffgpaaGreatDoor
open Go.RowKit Go.Shelf

theorem ocells_at : ∀ {L : List Pl} {j : Nat} {p : Pl}, L[j]? = some p → (ocells L)[j * 3]? = some (.int .i64 (p.kind : Int)) ∧ (ocells L)[j * 3 + 1]? = some (.int .i64 (p.at_ : Int)) ∧ (ocells L)[j * 3 + 2]? = some (.int .i64 (p.fac : Int))
  | [], j, p, h => by simp at h
  | q :: L, 0, p, h => by
    simp at h; subst h
    exact ⟨rfl, rfl, rfl⟩
  | q :: L, j + 1, p, h => by
    rw [List.getElem?_cons_succ] at h
    obtain ⟨h1, h2, h3⟩ := ocells_at (L := L) h
    have e : ocells (q :: L) = [.int .i64 (q.kind : Int), .int .i64 (q.at_ : Int), .int .i64 (q.fac : Int)] ++ ocells L := rfl
    have el : [Value.int .i64 (q.kind : Int), .int .i64 (q.at_ : Int), .int .i64 (q.fac : Int)].length = 3 := rfl
    rw [e, List.getElem?_append_right (by rw [el]; omega), List.getElem?_append_right (by rw [el]; omega), List.getElem?_append_right (by rw [el]; omega), el]
    rw [show (j + 1) * 3 - 3 = j * 3 by omega, show (j + 1) * 3 + 1 - 3 = j * 3 + 1 by omega, show (j + 1) * 3 + 2 - 3 = j * 3 + 2 by omega]
    exact ⟨h1, h2, h3⟩
set_option maxHeartbeats 1000000 in
theorem cost16_all (w : World) {k : Nat} (hk : k = 8 ∨ 1 ≤ k ∧ k ≤ 5) : Calls Tryz.prog 29 #[.int .i64 (k : Int)] w fun r w' => r = .returned (.int .i64 ((costK k : Nat) : Int)) ∧ w = w' := by
  have : k = 1 ∨ k = 2 ∨ k = 3 ∨ k = 4 ∨ k = 5 ∨ k = 8 := by omega
  rcases this with rfl | rfl | rfl | rfl | rfl | rfl
  all_goals
    go_enter Tryz.func29, Tryz.ntmps29
    try push_cast
    go_wp2_with fail
    go_ret
    exact ⟨rfl, rfl⟩
theorem costK_some {k : Nat} (h : k = 8 ∨ 1 ≤ k ∧ k ≤ 5) : 32 ≤ costK k ∧ costK k ≤ 1024 := by
  have : k = 1 ∨ k = 2 ∨ k = 3 ∨ k = 4 ∨ k = 5 ∨ k = 8 := by omega
  rcases this with rfl | rfl | rfl | rfl | rfl | rfl <;> decide
/-- A core at c, its accounts at qt, new since w. -/
def ChAt (c qt N K : Nat) (w wr : World) : Prop := ∃ (S : CO) (fr : List Nat), S.c = c ∧ S.P.q.t = qt ∧ S.Ok fr N K ∧ Step [] S.hl w wr
theorem ChAt.fresh {c qt N K : Nat} {w wr : World} (h : ChAt c qt N K w wr) : Below w.heap.size w wr := by
  obtain ⟨S, fr, ec, eq, ok, st⟩ := h
  exact st.fresh
theorem ch_play {c qt N K : Nat} {w wr : World} (h : ChAt c qt N K w wr) (hN : N + 1 < 1048576) (hK : K + 20 < 1048575) (x : A5) (hx : x.Wf) : Calls Tryz.prog 14 #[.pointer (some ⟨c, 0, none⟩), .agg #[.int .i64 x.kind, .int .i64 x.n, .int .i64 x.k, .int .i64 x.m, .int .u32 x.h]] wr fun r w' => r = .returned (.tuple #[]) ∧ ChAt c qt (N + 1) (K + 20) w w' := by
  obtain ⟨S, fr, ec, eq, ok, st⟩ := h
  have := play_any st.sep ok hN hK x hx
  rw [ec] at this
  refine this.mono ?_
  rintro r w' ⟨rfl, ⟨S', fr', ok', wt, st'⟩, _⟩
  exact ⟨rfl, S', fr', wt.c.trans ec, wt.same.qt.trans eq, ok', st.trans st'⟩
/-- The core, and three rows that were read: what is live, all objects, the ids. -/
structure ChS (S : CO) (LV : List Nat) (va : Option Addr) (OB : List Pl) (oa : Option Addr) (ids : List Int) (ia : Option Addr) (w wr : World) : Prop where
  st : Step [] S.hl w wr
  va : Aside S.hl LV va wr
  oa : AsideV S.hl (ocells OB) oa wr
  ia : AsideV S.hl (ids.map encZ) ia wr
section
variable {S : CO} {fr : List Nat} {N K : Nat} {LV : List Nat} {va : Option Addr} {OB : List Pl} {oa : Option Addr} {ids : List Int} {ia : Option Addr} {w wr w' : World}
theorem ChS.grown (h : ChS S LV va OB oa ids ia w wr) (hb : Below wr.heap.size wr w') : ChS S LV va OB oa ids ia w w' :=
  have st := h.st.sep.grown hb
  ⟨h.st.trans st, h.va.step st, h.oa.step st, h.ia.step st⟩
theorem ChS.ob (h : ChS S LV va OB oa ids ia w wr) {j : Nat} {p : Pl} (hj : OB[j]? = some p) : ∃ g, oa = some ⟨g, 0, none⟩ ∧ wr.cell? ⟨g, j * 3, none⟩ = some (.int .i64 (p.kind : Int)) ∧ wr.cell? ⟨g, j * 3 + 1, none⟩ = some (.int .i64 (p.at_ : Int)) ∧ wr.cell? ⟨g, j * 3 + 2, none⟩ = some (.int .i64 (p.fac : Int)) := by
  obtain ⟨c0, c1, c2⟩ := ocells_at hj
  obtain ⟨g, h1, _, _, h2⟩ := h.oa _ _ c0
  obtain ⟨g', h1', _, _, h3⟩ := h.oa _ _ c1
  obtain ⟨g'', h1'', _, _, h4⟩ := h.oa _ _ c2
  rw [h1] at h1' h1''
  cases h1'; cases h1''
  exact ⟨g, h1, h2, h3, h4⟩
theorem ch_begin (ok : S.Ok fr N K) (st : Step [] S.hl w wr) : Calls Tryz.prog 15 #[.pointer (some ⟨S.c, 0, none⟩)] wr fun r w1 => ∃ (LV : List Nat) (va : Option Addr) (vc : Nat), allL S.l 1 = LV ∧ r = .returned (.slice va LV.length vc) ∧
    (Calls Tryz.prog 49 #[.pointer (some ⟨S.c, 0, none⟩)] w1 fun r w2 => ∃ (OB : List Pl) (oa : Option Addr) (oc : Nat), (obL S.l).map (obP S.l) = OB ∧ r = .returned (.slice oa OB.length oc) ∧
      (Calls Tryz.prog 50 #[.pointer (some ⟨S.P.q.t, 0, none⟩)] w2 fun r w3 => ∃ (ids : List Int) (ia : Option Addr) (ic : Nat), idsOf S.P.q.E = ids ∧ r = .returned (.slice ia ids.length ic) ∧ ChS S LV va OB oa ids ia w w3)) := by
  refine (clive_any st.sep ok.inv.lok).mono ?_
  intro r w1 hr
  obtain ⟨va, vc, rfl, hb1, hva⟩ := hr.aside st.sep
  have st1 := st.trans (st.sep.grown hb1)
  refine ⟨_, va, vc, rfl, rfl, (all_any st1.sep ok).mono ?_⟩
  rintro r w2 ⟨v, rfl, hrow, hb2⟩
  obtain ⟨oa, oc, rfl, hoa⟩ := row_asideV st1.sep hrow
  have st2 := st1.trans (st1.sep.grown hb2)
  refine ⟨_, oa, oc, rfl, rfl, (fl_ids st2.sep st2.sep ok).mono ?_⟩
  rintro r w3 ⟨ia, ic, rfl, hb3, hia⟩
  exact ⟨_, ia, ic, rfl, rfl, st2.trans (st2.sep.grown hb3), (hva.grown hb2).grown hb3, hoa.step (st2.sep.grown hb3), hia⟩
theorem ch_own (ok : S.Ok fr N K) (h : ChS S LV va OB oa ids ia w wr) {x : Nat} (hx : x < 4294967296) {q : Pl} (hq : pget S.l 1 x = some q) : Calls Tryz.prog 16 #[.pointer (some ⟨S.c, 0, none⟩), .int .u32 (x : Int)] wr fun r w' => r = .returned (kindOwn q) ∧ ChS S LV va OB oa ids ia w w' := by
  refine (own_any h.st.sep ok hx hq).mono ?_
  rintro r w' ⟨rfl, hb⟩
  exact ⟨rfl, h.grown hb⟩
/-- What an account is charged, has given, may use at most. -/
theorem ch_acc (ok : S.Ok fr N K) {x : Nat} {q : Pl} (hq : pget S.l 1 x = some q) (hk : q.kind = 1) : ∃ e, find S.P.q.E q.own = some e ∧ e.q.charged = ((obL S.l).map fun x => costP q.own (obP S.l x)).sum ∧ e.q.given = ((idsOf S.P.q.E).map (givI S.P.q.E q.own)).sum ∧
    0 ≤ e.q.charged ∧ 0 ≤ e.q.given ∧ e.q.charged + e.q.given ≤ e.q.limit ∧ e.q.limit ≤ 1073741824 := by
  have hq' := ok.inv.mem.pool.q
  obtain ⟨e, he⟩ := ok.inv.tre.acc (pget_mem hq) (Pl.is_iff.2 (.inl (pget_some.1 hq).2.2)) hk
  have h1 := ok.inv.tre.charged _ e he
  have h2 := (ok.inv.tre.given _ e he).1
  obtain ⟨a1, a2, a3, a4, _⟩ := hq'.fa _ e he
  refine ⟨e, he, ?_, ?_, a1, a2, a3, a4⟩
  · rw [ob_sum (by rw [ok.inv.len]; omega), h1]
    show costSum S.l q.own + x0 q.own = _
    unfold x0; omega
  · rw [ids_sum hq'.ids, h2]
theorem costP_pos (a : Int) (p : Pl) : 0 ≤ costP a p := by unfold costP; split <;> omega
theorem lim_pos (ok : S.Ok fr N K) (a id : Int) : 0 ≤ givI S.P.q.E a id := by
  unfold givI limOf
  split
  · cases hf : find S.P.q.E id with
    | none => exact Int.le_refl _
    | some e =>
      obtain ⟨a1, a2, a3, a4, _⟩ := ok.inv.mem.pool.q.fa _ e hf
      simp only; omega
  · exact Int.le_refl _
/-- An id's parent and limit. -/
theorem ch_id (ok : S.Ok fr N K) (h : ChS S LV va OB oa ids ia w wr) (hids : ids = idsOf S.P.q.E) {n : Nat} {id : Int} (hn : ids[n]? = some id) : ∃ g, ia = some ⟨g, 0, none⟩ ∧ wr.cell? ⟨g, n, none⟩ = some (.int .i64 id) ∧ 0 ≤ limOf S.P.q.E id ∧ limOf S.P.q.E id ≤ 1073741824 ∧
    (Calls Tryz.prog 51 #[.pointer (some ⟨S.P.q.t, 0, none⟩), .int .i64 id] wr fun r w' => r = .returned (.int .i64 (parOf S.P.q.E id)) ∧ wr = w') ∧
    (Calls Tryz.prog 27 #[.pointer (some ⟨S.P.q.t, 0, none⟩), .int .i64 id] wr fun r w' => r = .returned (.int .i64 (limOf S.P.q.E id)) ∧ wr = w') := by
  obtain ⟨g, h1, _, _, h2⟩ := h.ia n (encZ id) (by rw [List.getElem?_map, hn]; rfl)
  have hq := ok.inv.mem.pool.q
  obtain ⟨e, he⟩ := ids_mem hq.ids (hids ▸ List.mem_of_getElem? hn)
  obtain ⟨a1, a2, a3, a4, _⟩ := hq.fa _ e he
  have s := PL.sQ (CO.sP h.st.sep)
  refine ⟨g, h1, h2, ?_, ?_, ?_, ?_⟩
  · unfold limOf; rw [he]; simp only; omega
  · unfold limOf; rw [he]; exact a4
  · unfold parOf; rw [he]; exact qparent_some s he
  · unfold limOf; rw [he]; exact qlimit_some s he
/-- The account's own use and limit. -/
theorem ch_end (ok : S.Ok fr N K) (h : ChS S LV va OB oa ids ia w wr) {id : Int} {e : En Fa} (he : find S.P.q.E id = some e) : Calls Tryz.prog 28 #[.pointer (some ⟨S.P.q.t, 0, none⟩), .int .i64 id] wr fun r w1 => r = .returned (.int .i64 (e.q.charged + e.q.given)) ∧
    (Calls Tryz.prog 27 #[.pointer (some ⟨S.P.q.t, 0, none⟩), .int .i64 id] w1 fun r w' => r = .returned (.int .i64 e.q.limit) ∧ w1 = w') ∧ ChS S LV va OB oa ids ia w w1 := by
  refine (quse_some (PL.sQ (CO.sP h.st.sep)) ok.inv.mem.pool.q he).mono ?_
  rintro r w1 ⟨rfl, hb⟩
  have h1 := h.grown hb
  exact ⟨rfl, qlimit_some (PL.sQ (CO.sP h1.st.sep)) he, h1⟩
theorem ChS.at (h : ChS S LV va OB oa ids ia w wr) (ok : S.Ok fr N K) : ChAt S.c S.P.q.t N K w wr := ⟨S, fr, rfl, rfl, ok, h.st⟩
end
end Go.Proofs.YtcnbbenmlffgpaaGreatDoor

/- CoreApart: intervals that lie apart; an array of Booleans that tells what came. Conditions: the blocks hold what CO.hl says. -/
namespace Go.Proofs.YtcnbbenmlffgpaaGreatDoor
open Go.RowKit Go.Shelf

/-! Intervals: where each begins, how long it is. -/
def Off (a b : Nat × Nat) : Prop := a.1 + a.2 ≤ b.1 ∨ b.1 + b.2 ≤ a.1
theorem Off.symm {a b : Nat × Nat} (h : Off a b) : Off b a := h.elim .inr .inl
def covI (L : List (Nat × Nat)) (x : Nat) : Bool := L.any fun p => decide (p.1 ≤ x) && decide (x < p.1 + p.2)
theorem covI_app (L M : List (Nat × Nat)) (x : Nat) : covI (L ++ M) x = (covI L x || covI M x) := by unfold covI; rw [List.any_append]
theorem covI_off {L : List (Nat × Nat)} {a : Nat × Nat} (h : ∀ p ∈ L, Off p a) {x : Nat} (h1 : a.1 ≤ x) (h2 : x < a.1 + a.2) : covI L x = false := by
  unfold covI
  rw [List.any_eq_false]
  intro p hp
  rcases h p hp with h' | h'
  · simp; omega
  · simp; omega
/-- Those of L, and of one more the first places. -/
def partI (L : List (Nat × Nat)) (s k : Nat) : Nat → Bool := fun x => covI L x || (decide (s ≤ x) && decide (x < k))
theorem partI_start (L : List (Nat × Nat)) (s : Nat) : partI L s s = covI L := by
  funext x
  unfold partI
  by_cases h : s ≤ x
  · simp [show ¬ x < s by omega]
  · simp [h]
theorem partI_next (L : List (Nat × Nat)) {s k : Nat} (h : s ≤ k) : (fun j => if j = k then true else partI L s k j) = partI L s (k + 1) := by
  funext x
  unfold partI
  by_cases e : x = k
  · subst e
    simp [h]
  · rw [if_neg e]
    congr 2
    by_cases h1 : x < k
    · simp [h1, show x < k + 1 by omega]
    · simp [h1, show ¬ x < k + 1 by omega]
theorem partI_end (L : List (Nat × Nat)) (s n : Nat) : partI L s (s + n) = covI (L ++ [(s, n)]) := by
  funext x
  rw [covI_app]
  unfold partI covI
  simp
theorem partI_off {L : List (Nat × Nat)} {s n k : Nat} (h : ∀ p ∈ L, Off p (s, n)) (h1 : s ≤ k) (h2 : k < s + n) : partI L s k k = false := by
  unfold partI
  rw [covI_off h h1 h2]
  simp
/-! The array. -/
def boolsM (n : Nat) (f : Nat → Bool) : List Value := (List.range n).map fun i => .bool (f i)
theorem boolsM_get {n : Nat} (f : Nat → Bool) {i : Nat} (h : i < n) : (boolsM n f)[i]? = some (.bool (f i)) := by simp [boolsM, h]
theorem boolsM_set (n : Nat) (f : Nat → Bool) (i : Nat) (b : Bool) : (boolsM n f).set i (.bool b) = boolsM n fun j => if j = i then b else f j := by
  unfold boolsM
  apply List.ext_getElem?
  intro j
  by_cases h : j < n
  · rw [List.getElem?_set]
    by_cases e : i = j
    · subst e; simp [h]
    · have : ¬ j = i := fun h => e h.symm
      simp [h, e, this]
  · rw [List.getElem?_eq_none (by simp; omega), List.getElem?_eq_none (by simp; omega)]
set_option maxRecDepth 100000 in
theorem zero_came0 : ((Tryz.prog.info? 100).bind (·.zero)).map Value.cells = some (Array.replicate 65536 (.bool false)) := by kernel_rfl
theorem boolsM_zero (n : Nat) : (boolsM n fun _ => false).toArray = Array.replicate n (.bool false) := by
  apply Array.ext'
  simp [boolsM, List.eq_replicate_iff]
theorem zero_came : ((Tryz.prog.info? 100).bind (·.zero)).map Value.cells = some (boolsM 65536 fun _ => false).toArray := by
  rw [zero_came0, boolsM_zero]
/-! Objects and free blocks lie apart. -/
def obIv (p : Pl) : Nat × Nat := (p.at_, costK p.kind)
def blIv (b : Nat × Nat) : Nat × Nat := (b.1, 1024 * 2 ^ b.2)
section
variable {S : CO} {fr : List Nat} {N K : Nat}
theorem ob_ivs (ok : S.Ok fr N K) : (((obL S.l).map (obP S.l)).map obIv).Pairwise Off := by
  have hl : S.l.length ≤ 256 := by rw [ok.inv.len]; omega
  rw [List.pairwise_map, List.pairwise_map]
  refine (ob_pair hl).imp_of_mem ?_
  intro a b ha hb hab
  obtain ⟨p, p1, p2, p3, _⟩ := ob_at hl ha
  obtain ⟨q, q1, q2, q3, _⟩ := ob_at hl hb
  rw [p3, q3]
  exact objects_apart ok.inv.mem hab p1 q1 p2 q2
/-- The page of an object is used. -/
theorem ob_page (ok : S.Ok fr N K) {p : Pl} (hp : p ∈ (obL S.l).map (obP S.l)) : (p.kind = 8 ∨ 1 ≤ p.kind ∧ p.kind ≤ 5) ∧ ∃ g, g ∈ S.P.d.ps ∧ g < 2 ^ S.P.d.top ∧ 1024 * g ≤ p.at_ ∧ p.at_ + costK p.kind ≤ 1024 * g + 1024 ∧ (p.kind ≠ 8 → 1024 * g + 64 ≤ p.at_) ∧ (p.kind = 8 → p.at_ = 1024 * g) := by
  have hl : S.l.length ≤ 256 := by rw [ok.inv.len]; omega
  obtain ⟨x, hx, rfl⟩ := List.mem_map.1 hp
  obtain ⟨q, q1, q2, q3, _⟩ := ob_at hl hx
  rw [q3]
  have m := ok.inv.mem
  have hqm := List.mem_of_getElem? q1
  refine ⟨m.kind q hqm q2, ?_⟩
  by_cases h8 : q.kind = 8
  · obtain ⟨g, hg, e⟩ := m.frame hqm q2 h8
    have hps : g ∈ S.P.d.ps := m.pool.pages.mem_iff.1 (List.mem_append_left _ hg)
    refine ⟨g, hps, m.pool.d.lt g hps, by omega, ?_, fun h => absurd h8 h, fun _ => e⟩
    rw [h8, costK_8]; omega
  · obtain ⟨g, hg, h1, h2⟩ := used_in_page m.pool (m.used hqm q2 h8)
    have hps : g ∈ S.P.d.ps := m.pool.pages.mem_iff.1 (List.mem_append_right _ hg)
    refine ⟨g, hps, m.pool.d.lt g hps, by omega, ?_, fun _ => h1, fun h => absurd h h8⟩
    rw [costK_ne h8]; omega
end
theorem clr_page {u : Nat → Bool} {k i g : Nat} (h : clr u k i = true) (h1 : i * 2 ^ k ≤ g) (h2 : g < (i + 1) * 2 ^ k) : u g = false := by
  refine (clr_iff u k i).1 h g ?_
  have hk := Nat.two_pow_pos k
  refine Nat.div_eq_of_lt_le ?_ ?_
  · exact h1
  · exact h2
theorem fre_clr {u : Nat → Bool} {top k i : Nat} (h : fre u top k i = true) : clr u k i = true := by
  unfold fre at h
  rw [Bool.and_eq_true] at h
  exact h.1
theorem blk_iv (k i : Nat) : blIv (blk k i) = (1024 * (i * 2 ^ k), 1024 * 2 ^ k) := by
  unfold blIv blk
  simp only [Nat.mul_assoc]
/-- A page that is used lies beside a free block. -/
theorem page_off {u : Nat → Bool} {k i g : Nat} (h : clr u k i = true) (hg : u g = true) : g < i * 2 ^ k ∨ (i + 1) * 2 ^ k ≤ g := by
  rcases Nat.lt_or_ge g (i * 2 ^ k) with h1 | h1
  · exact .inl h1
  · rcases Nat.lt_or_ge g ((i + 1) * 2 ^ k) with h2 | h2
    · rw [clr_page h h1 h2] at hg; cases hg
    · exact .inr h2
theorem up_clr {u : Nat → Bool} {a b x y : Nat} (hab : a ≤ b) (h : clr u b y = true) (hx : x / 2 ^ (b - a) = y) : clr u a x = true := by
  rw [clr_iff]
  intro p hp
  refine (clr_iff u b y).1 h p ?_
  have e : b = a + (b - a) := by omega
  rw [e, Nat.pow_add, ← Nat.div_div_eq_div_mul, hp, hx]
/-- Two free blocks that are not the same lie apart. -/
theorem free_off {u : Nat → Bool} {top k i k' i' : Nat} (hk : k ≤ k') (hk' : k' ≤ top) (h : fre u top k i = true) (h' : fre u top k' i' = true) (hne : ¬ (k = k' ∧ i = i')) : (i + 1) * 2 ^ k ≤ i' * 2 ^ k' ∨ (i' + 1) * 2 ^ k' ≤ i * 2 ^ k := by
  have e2 : 2 ^ k' = 2 ^ (k' - k) * 2 ^ k := by rw [← Nat.pow_add]; congr 1; omega
  have hp := Nat.two_pow_pos (k' - k)
  rcases Nat.lt_trichotomy (i / 2 ^ (k' - k)) i' with hlt | heq | hgt
  · left
    have h1 : i + 1 ≤ i' * 2 ^ (k' - k) := (Nat.div_lt_iff_lt_mul hp).1 hlt
    rw [e2, ← Nat.mul_assoc]
    exact Nat.mul_le_mul_right _ h1
  · exfalso
    rcases Nat.lt_or_ge k k' with hlt | hge
    · have hc : clr u (k + 1) (i / 2) = true := by
        refine up_clr (by omega) (fre_clr h') ?_
        rw [Nat.div_div_eq_div_mul, ← heq]
        congr 1
        rw [← Nat.pow_succ']; congr 1; omega
      unfold fre at h
      simp only [Bool.and_eq_true, Bool.or_eq_true, beq_iff_eq, Bool.not_eq_true'] at h
      rcases h.2 with e | e
      · omega
      · rw [hc] at e; cases e
    · have : k = k' := by omega
      subst this
      simp at heq
      exact hne ⟨rfl, heq⟩
  · right
    have h1 : (i' + 1) * 2 ^ (k' - k) ≤ i := (Nat.le_div_iff_mul_le hp).1 hgt
    rw [e2, ← Nat.mul_assoc]
    exact Nat.mul_le_mul_right _ h1
theorem blk_off {u : Nat → Bool} {top k i k' i' : Nat} (hk : k ≤ top) (hk' : k' ≤ top) (h : fre u top k i = true) (h' : fre u top k' i' = true) (hne : ¬ (k = k' ∧ i = i')) : Off (blIv (blk k i)) (blIv (blk k' i')) := by
  have key : ∀ {a b x y : Nat}, (x + 1) * 2 ^ a ≤ y * 2 ^ b → 1024 * (x * 2 ^ a) + 1024 * 2 ^ a ≤ 1024 * (y * 2 ^ b) := fun {a b x y} h => by
    rw [← Nat.mul_add, ← Nat.succ_mul]
    exact Nat.mul_le_mul_left _ h
  rw [blk_iv, blk_iv]
  unfold Off
  simp only
  rcases Nat.le_total k k' with hkk | hkk
  · exact (free_off hkk hk' h h' hne).imp key key
  · exact (free_off hkk hk h' h (fun e => hne ⟨e.1.symm, e.2.symm⟩)).symm.imp key key
theorem free_pair (u : Nat → Bool) (top : Nat) : (freeTo (fre u top) top (top + 1)).Pairwise fun a b => Off (blIv a) (blIv b) := by
  unfold freeTo
  rw [List.pairwise_flatMap]
  refine ⟨fun k hk => ?_, List.pairwise_lt_range.imp_of_mem fun {k k'} hk hk' hlt a ha b hb => ?_⟩
  · rw [List.pairwise_map]
    have hk' := List.mem_range.1 hk
    have hp : (onAll (fre u top) top k).Pairwise (· < ·) := by
      unfold onAll
      exact List.pairwise_lt_range.filter _
    refine hp.imp_of_mem ?_
    intro i j hi hj hij
    exact blk_off (by omega) (by omega) (mem_on.1 hi).2 (mem_on.1 hj).2 (fun e => by omega)
  · have h1 := List.mem_range.1 hk
    have h2 := List.mem_range.1 hk'
    obtain ⟨i, hi, rfl⟩ := List.mem_map.1 ha
    obtain ⟨j, hj, rfl⟩ := List.mem_map.1 hb
    exact blk_off (by omega) (by omega) (mem_on.1 hi).2 (mem_on.1 hj).2 (fun e => by omega)
section
variable {S : CO} {fr : List Nat} {N K : Nat} {F : List (Nat × Nat)}
/-- A free block: its order, that it lies in the arena, beside all objects. -/
theorem bl_fact (ok : S.Ok fr N K) (hF : FreeIs S F) {b : Nat × Nat} (hb : b ∈ F) : b.2 ≤ S.P.d.top ∧ b.1 + 1024 * 2 ^ b.2 ≤ 1024 * 2 ^ S.P.d.top ∧ ∀ p ∈ (obL S.l).map (obP S.l), Off (obIv p) (blIv b) := by
  obtain ⟨k, i, k1, k2, k3, rfl⟩ := mem_freeTo.1 (hF.perm.mem_iff.1 hb)
  have e2 : 2 ^ S.P.d.top = 2 ^ (S.P.d.top - k) * 2 ^ k := by rw [← Nat.pow_add]; congr 1; omega
  have h1 : (i + 1) * 2 ^ k ≤ 2 ^ S.P.d.top := by rw [e2]; exact Nat.mul_le_mul_right _ k2
  refine ⟨by show k ≤ _; omega, ?_, fun p hp => ?_⟩
  · show 1024 * i * 2 ^ k + 1024 * 2 ^ k ≤ _
    rw [Nat.mul_assoc, ← Nat.mul_add, ← Nat.succ_mul]
    exact Nat.mul_le_mul_left _ h1
  · obtain ⟨_, g, g1, g2, g3, g4, _, _⟩ := ob_page ok hp
    rw [blk_iv]
    unfold Off obIv
    simp only
    have hu : uOf S.P.d.ps g = true := by unfold uOf; simpa using g1
    rcases page_off (fre_clr k3) hu with h | h
    · left
      have := Nat.mul_le_mul_left 1024 h
      rw [Nat.mul_succ] at this
      omega
    · right
      have := Nat.mul_le_mul_left 1024 h
      rw [Nat.add_mul, Nat.one_mul, Nat.mul_add] at this
      omega
theorem bl_ivs (hF : FreeIs S F) : (F.map blIv).Pairwise Off := by
  rw [List.pairwise_map]
  exact (hF.perm.pairwise_iff (fun h => h.symm)).2 (free_pair _ _)
/-- All intervals. -/
theorem all_ivs (ok : S.Ok fr N K) (hF : FreeIs S F) : (((obL S.l).map (obP S.l)).map obIv ++ F.map blIv).Pairwise Off := by
  rw [List.pairwise_append]
  refine ⟨ob_ivs ok, bl_ivs hF, fun a ha b hb => ?_⟩
  obtain ⟨p, hp, rfl⟩ := List.mem_map.1 ha
  obtain ⟨c, hc, rfl⟩ := List.mem_map.1 hb
  exact (bl_fact ok hF hc).2.2 p hp
end
theorem pair_take {L : List (Nat × Nat)} (h : L.Pairwise Off) {i : Nat} {a : Nat × Nat} (hi : L[i]? = some a) : ∀ p ∈ L.take i, Off p a := by
  intro p hp
  obtain ⟨j, hj⟩ := List.mem_iff_getElem?.1 hp
  rw [List.getElem?_take] at hj
  split at hj
  · obtain ⟨j1, j2⟩ := List.getElem?_eq_some_iff.1 hj
    obtain ⟨i1, i2⟩ := List.getElem?_eq_some_iff.1 hi
    have := List.pairwise_iff_getElem.1 h j i j1 i1 (by assumption)
    rw [j2, i2] at this
    exact this
  · cases hj
end Go.Proofs.YtcnbbenmlffgpaaGreatDoor

/- CoreApart, one call behind the other. Conditions: the blocks hold what CO.hl says. -/
namespace Go.Proofs.YtcnbbenmlffgpaaGreatDoor
open Go.RowKit Go.Shelf

/-- A core at c of 65536 bytes, new since w. -/
def ApAt (c N K : Nat) (w wr : World) : Prop := ∃ (S : CO) (fr : List Nat), S.c = c ∧ S.P.d.top = 6 ∧ S.Ok fr N K ∧ Step [] S.hl w wr
theorem ApAt.fresh {c N K : Nat} {w wr : World} (h : ApAt c N K w wr) : Below w.heap.size w wr := by
  obtain ⟨S, fr, ec, eq, ok, st⟩ := h
  exact st.fresh
theorem ap_play {c N K : Nat} {w wr : World} (h : ApAt c N K w wr) (hN : N + 1 < 1048576) (hK : K + 20 < 1048575) (x : A5) (hx : x.Wf) : Calls Tryz.prog 14 #[.pointer (some ⟨c, 0, none⟩), .agg #[.int .i64 x.kind, .int .i64 x.n, .int .i64 x.k, .int .i64 x.m, .int .u32 x.h]] wr fun r w' => r = .returned (.tuple #[]) ∧ ApAt c (N + 1) (K + 20) w w' := by
  obtain ⟨S, fr, ec, eq, ok, st⟩ := h
  have := play_any st.sep ok hN hK x hx
  rw [ec] at this
  refine this.mono ?_
  rintro r w' ⟨rfl, ⟨S', fr', ok', wt, st'⟩, _⟩
  exact ⟨rfl, S', fr', wt.c.trans ec, wt.same.top.trans eq, ok', st.trans st'⟩
def CaH (b : Nat) (f : Nat → Bool) : HL := [(b, isC 100 (boolsM 65536 f))]
/-- The core, the array, the objects' row, the free blocks' row. -/
structure ApS (S : CO) (b : Nat) (f : Nat → Bool) (OB : List Pl) (oa : Option Addr) (F : List (Nat × Nat)) (fa : Option Addr) (w wr : World) : Prop where
  st : Step [] (S.hl ++ CaH b f) w wr
  oa : AsideV (S.hl ++ CaH b f) (ocells OB) oa wr
  fa : AsideB (S.hl ++ CaH b f) F fa wr
section
variable {S : CO} {fr : List Nat} {N K : Nat} {b : Nat} {f : Nat → Bool} {OB : List Pl} {oa : Option Addr} {F : List (Nat × Nat)} {fa : Option Addr} {w wr w' : World}
theorem ApS.sep (h : ApS S b f OB oa F fa w wr) : Sep wr S.hl := h.st.sep.left
theorem ApS.fresh (h : ApS S b f OB oa F fa w wr) : Below w.heap.size w wr := h.st.fresh
theorem ApS.grown (h : ApS S b f OB oa F fa w wr) (hb : Below wr.heap.size wr w') : ApS S b f OB oa F fa w w' :=
  have st := h.st.sep.grown hb
  ⟨h.st.trans st, h.oa.step st, h.fa.step st⟩
theorem ApS.cells (h : ApS S b f OB oa F fa w wr) : Cells wr b 100 (boolsM 65536 f) := h.st.sep.cells (by simp [CaH])
theorem ApS.cell (h : ApS S b f OB oa F fa w wr) {k : Nat} (hk : k < 65536) : wr.cell? ⟨b, k, none⟩ = some (.bool (f k)) := h.cells.cell k _ (boolsM_get f hk)
theorem ApS.free (h : ApS S b f OB oa F fa w wr) (k : Nat) : wr.frozen? ⟨b, k, none⟩ = false := h.cells.free k
theorem ApS.set (h : ApS S b f OB oa F fa w wr) (k : Nat) : ApS S b (fun j => if j = k then true else f j) OB oa F fa w (wr.setCell ⟨b, k, none⟩ (.bool true)) := by
  have := Sep.set (A := S.hl) (b := b) (T := 100) (cs := boolsM 65536 f) (B := []) h.st.sep k (.bool true)
  rw [boolsM_set] at this
  exact ⟨h.st.trans this, h.oa.step this, h.fa.step this⟩
theorem ApS.ob (h : ApS S b f OB oa F fa w wr) {j : Nat} {p : Pl} (hj : OB[j]? = some p) : ∃ g, oa = some ⟨g, 0, none⟩ ∧ wr.cell? ⟨g, j * 3, none⟩ = some (.int .i64 (p.kind : Int)) ∧ wr.cell? ⟨g, j * 3 + 1, none⟩ = some (.int .i64 (p.at_ : Int)) ∧ wr.cell? ⟨g, j * 3 + 2, none⟩ = some (.int .i64 (p.fac : Int)) := by
  obtain ⟨c0, c1, c2⟩ := ocells_at hj
  obtain ⟨g, h1, _, _, h2⟩ := h.oa _ _ c0
  obtain ⟨g', h1', _, _, h3⟩ := h.oa _ _ c1
  obtain ⟨g'', h1'', _, _, h4⟩ := h.oa _ _ c2
  rw [h1] at h1' h1''
  cases h1'; cases h1''
  exact ⟨g, h1, h2, h3, h4⟩
/-- The array is new. -/
theorem ap_array (st : Step [] S.hl w wr) : Step [] (S.hl ++ CaH wr.heap.size fun _ => false) w (wr.alloc (.cells (boolsM 65536 fun _ => false).toArray 100)) := by
  have := st.sep.new 100 (boolsM 65536 fun _ => false)
  exact st.trans (this.perm (List.Perm.refl _) (by unfold CaH; exact (List.perm_append_comm (l₁ := [_]) (l₂ := S.hl))))
theorem ap_all (ok : S.Ok fr N K) (st : Step [] (S.hl ++ CaH b f) w wr) : Calls Tryz.prog 49 #[.pointer (some ⟨S.c, 0, none⟩)] wr fun r w' => ∃ (OB : List Pl) (oa : Option Addr) (oc : Nat), (obL S.l).map (obP S.l) = OB ∧ r = .returned (.slice oa OB.length oc) ∧ ApS S b f OB oa [] none w w' := by
  refine (all_any st.sep.left ok).mono ?_
  rintro r w' ⟨v, rfl, hrow, hb⟩
  obtain ⟨oa, oc, rfl, hoa⟩ := row_asideV st.sep hrow
  have st' := st.sep.grown hb
  exact ⟨_, oa, oc, rfl, rfl, st.trans st', hoa, fun j x hj => by simp at hj⟩
theorem ap_free (ok : S.Ok fr N K) (h : ApS S b f OB oa [] none w wr) : ∃ pp bb : Nat, (Calls Tryz.prog 24 #[.pointer (some ⟨S.c, 0, none⟩)] wr fun r w' => r = .returned (.pointer (some ⟨pp, 0, none⟩)) ∧ wr = w') ∧
    (Calls Tryz.prog 41 #[.pointer (some ⟨pp, 0, none⟩)] wr fun r w' => r = .returned (.pointer (some ⟨bb, 0, none⟩)) ∧ wr = w') ∧
    (Calls Tryz.prog 42 #[.pointer (some ⟨bb, 0, none⟩)] wr fun r w' => ∃ (F : List (Nat × Nat)) (fa : Option Addr) (fc : Nat), r = .returned (.slice fa F.length fc) ∧ FreeIs S F ∧ ApS S b f OB oa F fa w w') := by
  refine ⟨S.P.p, S.P.d.b, cmemory_any h.sep, pblocks_any (CO.sP h.sep), (fl_free h.st.sep h.sep ok).mono ?_⟩
  rintro r w' ⟨fa, fc, F, rfl, hF, hb, hfa⟩
  have st := h.st.sep.grown hb
  exact ⟨F, fa, fc, rfl, hF, h.st.trans st, h.oa.step st, hfa⟩
/-- What is known of an object. -/
theorem ap_ob (ok : S.Ok fr N K) (ht : S.P.d.top = 6) (hOB : (obL S.l).map (obP S.l) = OB) {i : Nat} {p : Pl} (hx : OB[i]? = some p) : (p.kind = 8 ∨ 1 ≤ p.kind ∧ p.kind ≤ 5) ∧ p.at_ + costK p.kind ≤ 65536 ∧ (p.kind ≠ 8 → 64 ≤ p.at_ % 1024 ∧ p.at_ % 1024 + costK p.kind ≤ 1024) ∧ (p.kind = 8 → p.at_ % 1024 = 0) ∧
    (∀ q ∈ (OB.map obIv).take i, Off q (p.at_, costK p.kind)) ∧ (OB.map obIv).take (i + 1) = (OB.map obIv).take i ++ [(p.at_, costK p.kind)] := by
  obtain ⟨h1, g, _, g2, g3, g4, g5, g6⟩ := ob_page ok (p := p) (by rw [hOB]; exact List.mem_of_getElem? hx)
  have hi : (OB.map obIv)[i]? = some (obIv p) := by rw [List.getElem?_map, hx]; rfl
  rw [ht] at g2
  have hc := costK_some h1
  refine ⟨h1, by omega, fun h => ?_, fun h => ?_, ?_, ?_⟩
  · have := g5 h; omega
  · have := g6 h; omega
  · have := ob_ivs ok
    rw [hOB] at this
    exact pair_take this hi
  · rw [List.take_add_one, hi]; rfl
/-- What is known of a free block. -/
theorem ap_bl (ok : S.Ok fr N K) (ht : S.P.d.top = 6) (hOB : (obL S.l).map (obP S.l) = OB) (hF : FreeIs S F) {j : Nat} {x : Nat × Nat} (hx : F[j]? = some x) : x.2 ≤ 6 ∧ x.1 + 1024 * 2 ^ x.2 ≤ 65536 ∧ (∀ q ∈ OB.map obIv ++ (F.map blIv).take j, Off q (x.1, 1024 * 2 ^ x.2)) ∧ OB.map obIv ++ (F.map blIv).take (j + 1) = (OB.map obIv ++ (F.map blIv).take j) ++ [(x.1, 1024 * 2 ^ x.2)] := by
  obtain ⟨h1, h2, _⟩ := bl_fact ok hF (List.mem_of_getElem? hx)
  rw [ht] at h1 h2
  have hi : (F.map blIv)[j]? = some (blIv x) := by rw [List.getElem?_map, hx]; rfl
  have hall := all_ivs ok hF
  rw [hOB] at hall
  refine ⟨h1, h2, fun q hq => ?_, ?_⟩
  · have hi2 : (OB.map obIv ++ F.map blIv)[(OB.map obIv).length + j]? = some (blIv x) := by rw [List.getElem?_append_right (by omega), show (OB.map obIv).length + j - (OB.map obIv).length = j by omega]; exact hi
    refine pair_take hall hi2 q ?_
    rw [List.take_length_add_append]
    exact hq
  · rw [List.take_add_one, hi, List.append_assoc]; rfl
theorem ApS.bl (h : ApS S b f OB oa F fa w wr) {j : Nat} {x : Nat × Nat} (hj : F[j]? = some x) : ∃ g, fa = some ⟨g, 0, none⟩ ∧ wr.cell? ⟨g, j * 2, none⟩ = some (.int .i64 (x.1 : Int)) ∧ wr.cell? ⟨g, j * 2 + 1, none⟩ = some (.int .i64 (x.2 : Int)) := by
  obtain ⟨g, h1, _, _, h2, h3⟩ := h.fa j x hj
  exact ⟨g, h1, h2, h3⟩
theorem obL_pos (ok : S.Ok fr N K) : 0 < (obL S.l).length := by
  have := (live_some ok).1
  unfold obL
  rw [List.length_append]; omega
end
end Go.Proofs.YtcnbbenmlffgpaaGreatDoor
