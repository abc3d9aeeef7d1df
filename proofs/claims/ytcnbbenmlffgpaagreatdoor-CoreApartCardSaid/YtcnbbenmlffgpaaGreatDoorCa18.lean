/- CoreApart returns true at every input. No condition. Part of its proof. -/
import Derived.Test.YtcnbbenmlffgpaaGreatDoorCa17
import Derived.Test.YtcnbbenmlffgpaaGreatDoorCa14
import Derived.Test.YtcnbbenmlffgpaaGreatDoorCa12
import Derived.Great.Ranges
import Derived.Test.YtcnbbenmlffgpaaGreatDoorCa02
import Derived.ProofKit
import Derived.Deep.Slices
import Derived.OpenShut
set_option linter.unusedVariables false
/- The walk of the core's Tick. Conditions: the blocks hold what CO.hl says. -/
namespace Go.Proofs.YtcnbbenmlffgpaaGreatDoor
open Go.RowKit

set_option maxHeartbeats 8000000 in
set_option maxRecDepth 100000 in
theorem ctick_any {w : World} {S : CO} {fr : List Nat} {N K : Nat} (h : Sep w S.hl) (ok : S.Ok fr N K) (hK : K < 1048575) :
    Calls Tryz.prog 20 #[.pointer (some ⟨S.c, 0, none⟩)] w (TickR S fr N K w) := by
  have hgb := h.env.gb
  have c2 := CO.c2 h
  have hnow := ok.now
  have hgt := gtick_any (CO.sG h) ok.ov ok.few (by omega) ok.ord
  have HSt : Hid (∀ r w1, GTickP S.g S.period (S.now + 1) S.rv S.ts w r w1 → ∃ (rv : OV) (gi : Nat) (ad : Option Addr) (cap : Nat), r = .returned (.slice ad (dueN S).length cap) ∧ ((dueN S).length ≠ 0 → ad = some ⟨gi, 0, none⟩) ∧ ovOk rv (dueT S).length ∧ TRel S N K rv w gi 0 (dueN S).length (.slice none 0 0) w1) := fun r w1 hg => tick_start h ok hg
  have hl := dueN_len ok
  have HFin : Hid (∀ rv gi k gk ov wr, ovOk rv (dueT S).length → ¬ k < (dueN S).length → TRel S N K rv w gi k gk ov wr → TickR S fr N K w (.returned ov) wr) := fun rv gi k gk ov wr hov hk ⟨S1, fr1, hkg, hmid, htk, hst, hti⟩ => by
    have e : k = (dueN S).length := by omega
    subst e
    rw [List.drop_length] at hmid
    rw [List.take_length] at htk hti
    exact ⟨rv, S1, fr1, ov, rfl, hti.row, hov, htk, hmid.ok, hst, hti.off⟩
  have HRound : Hid (∀ rv gi k gk ov wr, k < (dueN S).length → TRel S N K rv w gi k gk ov wr → ∃ (y : Nat) (p : Pl) (tt pp qt : Nat), y < 4294967296 ∧ wr.cell? ⟨gi, k, none⟩ = some (.int .i64 (y : Int)) ∧ wr.cell? ⟨S.c, 1, none⟩ = some (.pointer (some ⟨tt, 0, none⟩)) ∧
      Calls Tryz.prog 66 #[.pointer (some ⟨tt, 0, none⟩), .int .u32 (y : Int)] wr fun r w1 => r = .returned (.tuple #[.agg #[.int .i64 (p.kind : Int), .int .i64 (p.at_ : Int), .int .i64 (p.fac : Int)], .int .i64 0]) ∧
        (p.kind ≠ 1 → Calls Tryz.prog 68 #[.pointer (some ⟨S.c, 0, none⟩), .agg #[.int .i64 (p.kind : Int), .int .i64 (p.at_ : Int), .int .i64 (p.fac : Int)]] (w1.alloc (.cells #[.int .i64 (p.kind : Int), .int .i64 (p.at_ : Int), .int .i64 (p.fac : Int)] 39)) fun r w5 => r = .returned (.tuple #[]) ∧
          ∃ v' w6, (Builtin.append_ #[30, 30] 30 #[ov, .slice (some ⟨w5.heap.size, 0, none⟩) 1 1]).run Tryz.prog (w5.alloc (.cells #[.int .u32 (y : Int)] 32)) = .ok v' w6 ∧ TRel S N K rv w gi (k + 1) ((dueN S).length - (k + 1)) v' w6) ∧
        (p.kind = 1 → (w1.alloc (.cells #[.int .i64 (p.kind : Int), .int .i64 (p.at_ : Int), .int .i64 (p.fac : Int)] 39)).cell? ⟨S.c, 0, none⟩ = some (.pointer (some ⟨pp, 0, none⟩)) ∧ (w1.alloc (.cells #[.int .i64 (p.kind : Int), .int .i64 (p.at_ : Int), .int .i64 (p.fac : Int)] 39)).cell? ⟨pp, 0, none⟩ = some (.pointer (some ⟨qt, 0, none⟩)) ∧
          Calls Tryz.prog 59 #[.pointer (some ⟨S.c, 0, none⟩), .agg #[.int .i64 (p.kind : Int), .int .i64 (p.at_ : Int), .int .i64 (p.fac : Int)]] (w1.alloc (.cells #[.int .i64 (p.kind : Int), .int .i64 (p.at_ : Int), .int .i64 (p.fac : Int)] 39)).drew fun r w3 => r = .returned (.int .i64 (p.own : Int)) ∧
            (w3.cell? ⟨S.c, 0, none⟩ = some (.pointer (some ⟨pp, 0, none⟩)) ∧ w3.cell? ⟨pp, 0, none⟩ = some (.pointer (some ⟨qt, 0, none⟩)) ∧ w3.cell? ⟨w1.heap.size, 0, none⟩ = some (.int .i64 (p.kind : Int)) ∧ w3.cell? ⟨w1.heap.size, 1, none⟩ = some (.int .i64 (p.at_ : Int)) ∧ w3.cell? ⟨w1.heap.size, 2, none⟩ = some (.int .i64 (p.fac : Int))) ∧
            Calls Tryz.prog 67 #[.pointer (some ⟨qt, 0, none⟩), .int .i64 (p.own : Int)] w3 fun r w4 => r = .returned (.int .i64 0) ∧
              (w4.cell? ⟨S.c, 0, none⟩ = some (.pointer (some ⟨pp, 0, none⟩)) ∧ w4.cell? ⟨pp, 0, none⟩ = some (.pointer (some ⟨qt, 0, none⟩)) ∧ w4.cell? ⟨w1.heap.size, 0, none⟩ = some (.int .i64 (p.kind : Int)) ∧ w4.cell? ⟨w1.heap.size, 1, none⟩ = some (.int .i64 (p.at_ : Int)) ∧ w4.cell? ⟨w1.heap.size, 2, none⟩ = some (.int .i64 (p.fac : Int))) ∧
              Calls Tryz.prog 68 #[.pointer (some ⟨S.c, 0, none⟩), .agg #[.int .i64 (p.kind : Int), .int .i64 (p.at_ : Int), .int .i64 (p.fac : Int)]] w4 fun r w5 => r = .returned (.tuple #[]) ∧
                ∃ v' w6, (Builtin.append_ #[30, 30] 30 #[ov, .slice (some ⟨w5.heap.size, 0, none⟩) 1 1]).run Tryz.prog (w5.alloc (.cells #[.int .u32 (y : Int)] 32)) = .ok v' w6 ∧ TRel S N K rv w gi (k + 1) ((dueN S).length - (k + 1)) v' w6)) := fun rv gi k gk ov wr hk ⟨S1, fr1, hkg, hmid, htk, hst, hti⟩ => by
    obtain ⟨y, hy⟩ : ∃ y, (dueN S)[k]? = some y := ⟨_, List.getElem?_eq_getElem hk⟩
    have hdrop : (dueN S).drop k = y :: (dueN S).drop (k + 1) := by
      rw [List.drop_eq_getElem_cons hk]
      rw [List.getElem?_eq_getElem hk] at hy
      cases hy; rfl
    rw [hdrop] at hmid
    have ec : S1.c = S.c := htk.c
    obtain ⟨p, hp, hy32, hfree⟩ := tick_round hst.sep hmid (by omega)
    have c1 := CO.c1 hst.sep
    obtain ⟨_, _, _, hcell⟩ := hti.cell k y hy
    have hend : ∀ w5, RoundP S1 N (K + 1) y ((dueN S).drop (k + 1)) wr w5 → ∃ v' w6, (Builtin.append_ #[30, 30] 30 #[ov, .slice (some ⟨w5.heap.size, 0, none⟩) 1 1]).run Tryz.prog (w5.alloc (.cells #[.int .u32 (y : Int)] 32)) = .ok v' w6 ∧ TRel S N K rv w gi (k + 1) ((dueN S).length - (k + 1)) v' w6 := fun w5 ⟨S2, fr2, m2, t2, s2⟩ => tick_app hgb hy (by omega) hl htk hst hti m2 t2 s2
    unfold TF at hfree
    rw [ec] at c1 hfree
    refine ⟨y, p, S1.t, S1.P.p, S1.P.q.t, hy32, hcell, c1, hfree.mono ?_⟩
    rintro r w1 ⟨rfl, _, _, h1, h2⟩
    refine ⟨rfl, fun hk1 => (h1 hk1).mono ?_, fun hk1 => ?_⟩
    · rintro r w5 ⟨rfl, hr⟩
      exact ⟨rfl, hend w5 hr⟩
    · obtain ⟨⟨f0, f1, _⟩, hw⟩ := h2 hk1
      refine ⟨f0, f1, hw.mono ?_⟩
      rintro r w3 ⟨rfl, f3, hcl⟩
      refine ⟨rfl, f3, hcl.mono ?_⟩
      rintro r w4 ⟨rfl, f4, hpt⟩
      refine ⟨rfl, f4, hpt.mono ?_⟩
      rintro r w5 ⟨rfl, hr⟩
      exact ⟨rfl, hend w5 hr⟩
  generalize TickR S fr N K w = Q at *
  generalize (dueN S).length = n at *
  clear h ok hnow hgb
  go_enter Tryz.func20, Tryz.ntmps20
  go_wp2_with fail
  refine hgt.mono ?_
  intro r w1 hg
  obtain ⟨rv, gi, ad, cap, rfl, had, hov, hrel0⟩ := HSt.out r w1 hg
  have HRel0 := hidden hrel0
  have HAd := hidden had
  have HOv := hidden hov
  have HL := hidden hl
  clear hg hrel0 had hov HSt hgt hl
  go_wp2_with fail
  go_loopg [3, 17] n (fun gk ov kv wr => ∃ k : Nat, kv = .int .i64 (k : Int) ∧ k + gk = n ∧ TRel S N K rv w gi k gk ov wr)
  case atStart => exact ⟨0, rfl, by omega, HRel0.out⟩
  case round =>
    obtain ⟨k, rfl, hkg, hrel⟩ := hrel
    have HKG := hidden hkg
    clear hkg
    by_cases hlt : k < n
    · obtain ⟨y, p, tt, pp, qt, hy32, hcell, c1, hfree⟩ := HRound.out _ _ _ _ _ _ hlt hrel
      have hadv := HAd.out (by omega)
      subst hadv
      have hw : IntKind.u32.wrap (y : Int) = (y : Int) := Go.IntWalk.u32_in _ (by omega)
      have HN : Hid (k ≤ 256) := by have := HL.out; show k ≤ 256; omega
      clear hrel hy32 HRound HFin c2
      by_cases hk1 : p.kind = 1
      · have hkz : ((p.kind : Nat) : Int) = 1 := by omega
        have HK1 := hidden hk1
        go_wp2_with fail
        refine hfree.mono ?_
        rintro r w2 ⟨rfl, -, hx⟩
        obtain ⟨f0, f1, hwd⟩ := hx HK1.out
        have HWd := hidden hwd
        clear hx hwd hfree hcell c1
        rw [hkz] at *
        have b0 := (Cells.new w2 39 [.int .i64 1, .int .i64 (p.at_ : Int), .int .i64 (p.fac : Int)]).cell 0 _ rfl
        have b1 := (Cells.new w2 39 [.int .i64 1, .int .i64 (p.at_ : Int), .int .i64 (p.fac : Int)]).cell 1 _ rfl
        have b2 := (Cells.new w2 39 [.int .i64 1, .int .i64 (p.at_ : Int), .int .i64 (p.fac : Int)]).cell 2 _ rfl
        have HDr : Hid (∀ (v : World) b i x, v.cell? ⟨b, i, none⟩ = some x → v.drew.cell? ⟨b, i, none⟩ = some x) := fun v b i x hv => hv
        have d0 := HDr.out _ _ _ _ f0
        have d1 := HDr.out _ _ _ _ f1
        have e0 := HDr.out _ _ _ _ b0
        have e1 := HDr.out _ _ _ _ b1
        have e2 := HDr.out _ _ _ _ b2
        clear hk1 hkz HDr
        go_wp2_with fail
        go_region_held3 (fun w' => w'.cell? ⟨S.c, 0, none⟩ = some (.pointer (some ⟨pp, 0, none⟩)) ∧ w'.cell? ⟨pp, 0, none⟩ = some (.pointer (some ⟨qt, 0, none⟩)) ∧ w'.cell? ⟨w2.heap.size, 0, none⟩ = some (.int .i64 1) ∧ w'.cell? ⟨w2.heap.size, 1, none⟩ = some (.int .i64 (p.at_ : Int)) ∧ w'.cell? ⟨w2.heap.size, 2, none⟩ = some (.int .i64 (p.fac : Int))) (first | exact ⟨f0, f1, b0, b1, b2⟩ | exact ⟨d0, d1, e0, e1, e2⟩ | exact F3 | exact F4)
          (first | (go_at_call 59; refine HWd.out.mono ?_; rintro r w3 ⟨rfl, F3, hx⟩; have HY := hidden hx; clear hx) | (go_at_call 67; refine HY.out.mono ?_; rintro r w4 ⟨rfl, F4, hx⟩; have HZ := hidden hx; clear hx))
        all_goals
          obtain ⟨g0, g1, g2, g3, g4⟩ := F4
          clear d0 d1 e0 e1 e2 f0 f1 b0 b1 b2
          go_wp2_with fail
          refine HZ.out.mono ?_
          rintro r w5 ⟨rfl, v', w6, r1, r2⟩
          have HR2 := hidden r2
          clear r2 g0 g1 g2 g3 g4
          go_wp2_with (at_builtin; refine Lib.wpList_append_run _ rfl _ _ _ _ rfl _ _ rfl rfl _ _ r1 ?_)
          go_roundg (n - (k + 1))
          case measure => have := HKG.out; omega
          case rel =>
            have hk2 : (k : Int) ≤ 256 := by have := HN.out; omega
            exact ⟨k + 1, by rw [Go.IntWalk.wrap64_in _ (by omega)]; rfl, by omega, HR2.out⟩
      · have hb1 : (((p.kind : Nat) : Int) == 1) = false := by simp; omega
        have HK1 := hidden hk1
        go_wp2_with fail
        refine hfree.mono ?_
        rintro r w2 ⟨rfl, hx, -⟩
        have HX := hidden (hx HK1.out)
        clear hx hfree hcell c1 hk1
        go_wp2_with fail
        refine HX.out.mono ?_
        rintro r w5 ⟨rfl, v', w6, r1, r2⟩
        have HR2 := hidden r2
        clear r2
        go_wp2_with (at_builtin; refine Lib.wpList_append_run _ rfl _ _ _ _ rfl _ _ rfl rfl _ _ r1 ?_)
        go_roundg (n - (k + 1))
        case measure => have := HKG.out; omega
        case rel =>
          have hk2 : (k : Int) ≤ 256 := by have := HN.out; omega
          exact ⟨k + 1, by rw [Go.IntWalk.wrap64_in _ (by omega)]; rfl, by omega, HR2.out⟩
    · have HR := hidden (HFin.out _ _ _ _ _ _ HOv.out hlt hrel)
      clear hrel HRound HFin
      go_wp2_with fail
      first | exact HR.out | (go_ret; exact HR.out)
end Go.Proofs.YtcnbbenmlffgpaaGreatDoor

/- The walk of the core's Doom. Conditions: the blocks hold what CO.hl says. -/
namespace Go.Proofs.YtcnbbenmlffgpaaGreatDoor
open Go.RowKit

set_option maxHeartbeats 2000000 in
theorem cdoom_none {w : World} {S : CO} {x : Nat} (hO : Calls Tryz.prog 18 #[.pointer (some ⟨S.c, 0, none⟩), .int .u32 (x : Int), .int .i64 0] w (Told w (.tuple #[.agg #[.int .i64 0, .int .i64 0, .int .i64 0], .int .i64 8]))) :
    Calls Tryz.prog 19 #[.pointer (some ⟨S.c, 0, none⟩), .int .u32 (x : Int)] w (Told w (.int .i64 8)) := by
  go_enter Tryz.func19, Tryz.ntmps19
  go_wp2_with fail
  refine hO.mono ?_
  rintro r w1 ⟨rfl, hb⟩
  have HB : Hid (∀ o, Told w (.int .i64 8) (.returned (.int .i64 8)) (w1.alloc o)) := fun o => ⟨rfl, hb.alloc hb.size o⟩
  clear hb
  go_wp2_with fail
  first | exact HB.out _ | (go_ret; exact HB.out _)
set_option maxHeartbeats 2000000 in
theorem cdoom_root {w : World} {S : CO} {a b c : Int} (hO : Calls Tryz.prog 18 #[.pointer (some ⟨S.c, 0, none⟩), .int .u32 0, .int .i64 0] w (Told w (.tuple #[.agg #[.int .i64 a, .int .i64 b, .int .i64 c], .int .i64 0]))) :
    Calls Tryz.prog 19 #[.pointer (some ⟨S.c, 0, none⟩), .int .u32 0] w (Told w (.int .i64 1)) := by
  go_enter Tryz.func19, Tryz.ntmps19
  go_wp2_with fail
  refine hO.mono ?_
  rintro r w1 ⟨rfl, hb⟩
  have HB : Hid (∀ o, Told w (.int .i64 1) (.returned (.int .i64 1)) (w1.alloc o)) := fun o => ⟨rfl, hb.alloc hb.size o⟩
  clear hb
  go_wp2_with fail
  first | exact HB.out _ | (go_ret; exact HB.out _)
set_option maxHeartbeats 4000000 in
theorem cdoom_kids {w : World} {S : CO} {x : Nat} (h0 : x ≠ 0) {a b c : Int} (hO : Calls Tryz.prog 18 #[.pointer (some ⟨S.c, 0, none⟩), .int .u32 (x : Int), .int .i64 0] w (Told w (.tuple #[.agg #[.int .i64 a, .int .i64 b, .int .i64 c], .int .i64 0]))) (hk : kids S.l x ≠ [])
    (hM : ∀ w1, Below w.heap.size w w1 → Calls Tryz.prog 60 #[.pointer (some ⟨S.c, 0, none⟩), .int .u32 (x : Int)] w1 (NewHs w1 (kids S.l x))) :
    Calls Tryz.prog 19 #[.pointer (some ⟨S.c, 0, none⟩), .int .u32 (x : Int)] w (Told w (.int .i64 12)) := by
  have HM := hidden hM
  have hpos : 0 < (kids S.l x).length := List.length_pos_iff.2 hk
  have hb1 : (((x : Nat) : Int) == 0) = false := by simp; omega
  generalize kids S.l x = L at *
  clear hM hk h0
  go_enter Tryz.func19, Tryz.ntmps19
  go_wp2_with fail
  refine hO.mono ?_
  rintro r w1 ⟨rfl, hb⟩
  have hm := HM.out _ (hb.alloc hb.size (.cells #[.int .i64 a, .int .i64 b, .int .i64 c] 39))
  have HB := hidden hb
  clear hb hO HM
  go_wp2_with fail
  refine hm.mono ?_
  intro r w2 hn
  obtain ⟨am, cm, rfl, hbm, hism⟩ := hn.shape
  have HR : Hid (Told w (.int .i64 12) (.returned (.int .i64 12)) w2) := ⟨rfl, (HB.out.alloc HB.out.size _).trans (hbm.mono (by rw [World.size_alloc]; have := HB.out.size; omega))⟩
  have hlt : (0 : Int) < (L.length : Int) := by omega
  clear hn hbm hism hm HB
  generalize L.length = n at *
  go_wp2_with fail
  first | exact HR.out | (go_ret; exact HR.out)
theorem doom_chain {w w2 : World} {S : CO} {fr : List Nat} {N K : Nat} (h : Sep w S.hl) (ok : S.Ok fr N K) (hK : K ≤ 1048576) {x : Nat} (hx : x < 4294967296) {p : Pl} (hp : pget S.l 1 x = some p) (h0 : x ≠ 0) (hk : kids S.l x = []) (hb : Below w.heap.size w w2) :
    w2.cell? ⟨S.c, 1, none⟩ = some (.pointer (some ⟨S.t, 0, none⟩)) ∧ Calls Tryz.prog 63 #[.pointer (some ⟨S.t, 0, none⟩), .int .u32 (x : Int)] w2 fun r w3 => r = .returned (.int .i64 0) ∧ w3.cell? ⟨S.c, 2, none⟩ = some (.pointer (some ⟨S.g, 0, none⟩)) ∧ S.c < w3.heap.size ∧
      Calls Tryz.prog 64 #[.pointer (some ⟨S.g, 0, none⟩), .slice (some ⟨w3.heap.size, 0, none⟩) 1 1] (w3.alloc (.cells #[.int .i64 (x : Int)] 3)) fun r w4 => ∃ z : Int, r = .returned (.int .i64 z) ∧ DoomR S x w (.returned (.int .i64 0)) w4 := by
  have s2 := h.grown hb
  have hnow := ok.now
  refine ⟨CO.c1 s2.sep, ?_⟩
  refine Calls.mono (hkill_some (h := S.ht) (CO.sT s2.sep) ok.inv.lok hx hp) ?_
  rintro r w3 ⟨rfl, st⟩
  have s3 := s2.trans (CO.stepL s2.sep _ st)
  refine ⟨rfl, CO.c2 (S := S.setL (S.l.set (x % 256) { p with st := 2 })) s3.sep, (CO.cells s3.sep).lt, ?_⟩
  have s4 := s3.trans (s3.sep.grown ((Below.refl _ w3).alloc (Nat.le_refl _) (.cells #[.int .i64 (x : Int)] 3)))
  refine Calls.mono (gadd_any (CO.sG s4.sep) ok.ov ok.few ok.per.2 (by show S.now ≤ _; omega) ((Cells.new w3 3 [.int .i64 (x : Int)]).cell 0 _ rfl)) ?_
  rintro r w4 ⟨rv, rfl, hov, st4⟩
  have s5 := s4.trans (CO.stepG s4.sep S.now rv (S.ts ++ [(x, S.now + S.period)]) st4)
  exact ⟨_, rfl, .inr (.inr (.inr ⟨p, rv, hp, h0, hk, hov, rfl, s5⟩))⟩
set_option maxHeartbeats 4000000 in
theorem cdoom_ok {w : World} {S : CO} {fr : List Nat} {N K : Nat} (h : Sep w S.hl) (ok : S.Ok fr N K) (hK : K ≤ 1048576) {x : Nat} (hx : x < 4294967296) {p : Pl} (hp : pget S.l 1 x = some p) (h0 : x ≠ 0) (hk : kids S.l x = []) :
    Calls Tryz.prog 19 #[.pointer (some ⟨S.c, 0, none⟩), .int .u32 (x : Int)] w (DoomR S x w) := by
  have hO : Calls Tryz.prog 18 #[.pointer (some ⟨S.c, 0, none⟩), .int .u32 (x : Int), .int .i64 0] w (Told w (.tuple #[.agg #[.int .i64 (p.kind : Int), .int .i64 (p.at_ : Int), .int .i64 (p.fac : Int)], .int .i64 0])) := cof_some h ok.inv.lok hx 0 hp (.inl rfl)
  have HM : Hid (∀ w1, Below w.heap.size w w1 → Calls Tryz.prog 60 #[.pointer (some ⟨S.c, 0, none⟩), .int .u32 (x : Int)] w1 (NewHs w1 (kids S.l x))) := fun w1 hb => cmade_any (h.grown hb).sep ok hx
  rw [hk] at HM
  have HC : Hid (∀ w2, Below w.heap.size w w2 → _) := fun w2 hb => doom_chain (w2 := w2) h ok hK hx hp h0 hk hb
  have hb1 : (((x : Nat) : Int) == 0) = false := by simp; omega
  have hw : IntKind.i64.wrap (x : Int) = (x : Int) := Go.IntWalk.i64_in _ (by omega)
  generalize DoomR S x w = Q at *
  clear h ok hK hx hp h0 hk
  go_enter Tryz.func19, Tryz.ntmps19
  go_wp2_with fail
  refine hO.mono ?_
  rintro r w1 ⟨rfl, hb⟩
  have hba := hb.alloc hb.size (.cells #[.int .i64 (p.kind : Int), .int .i64 (p.at_ : Int), .int .i64 (p.fac : Int)] 39)
  have hm := HM.out _ hba
  have HB := hidden hba
  clear hb hba hO HM
  go_wp2_with fail
  refine hm.mono ?_
  intro r w2 hn
  obtain ⟨am, cm, rfl, hbm, hism⟩ := hn.shape
  obtain ⟨c1, hkill⟩ := HC.out w2 (HB.out.trans (hbm.mono (by have := HB.out.size; omega)))
  clear hn hbm hism hm HB HC
  go_wp2_with fail
  refine hkill.mono ?_
  rintro r w3 ⟨rfl, c2, hlt, hadd⟩
  have HA := hidden hadd
  clear hadd hkill c1
  go_wp2_with fail
  refine HA.out.mono ?_
  rintro r w4 ⟨z, rfl, hx⟩
  have HX := hidden hx
  clear hx HA
  go_wp2_with fail
  first | exact HX.out | (go_ret; exact HX.out)
theorem cdoom_any {w : World} {S : CO} {fr : List Nat} {N K : Nat} (h : Sep w S.hl) (ok : S.Ok fr N K) (hK : K ≤ 1048576) {x : Nat} (hx : x < 4294967296) :
    Calls Tryz.prog 19 #[.pointer (some ⟨S.c, 0, none⟩), .int .u32 (x : Int)] w (DoomR S x w) := by
  cases hp : pget S.l 1 x with
  | none =>
    refine (cdoom_none (cof_none h ok.inv.lok hx 0 hp)).mono ?_
    rintro r w' ⟨rfl, hb⟩
    exact .inl ⟨hp, rfl, h.grown hb⟩
  | some p =>
    have hO := cof_some h ok.inv.lok hx 0 hp (.inl rfl)
    have hne : pget S.l 1 x ≠ none := by rw [hp]; simp
    by_cases h0 : x = 0
    · subst h0
      refine (cdoom_root hO).mono ?_
      rintro r w' ⟨rfl, hb⟩
      exact .inr (.inl ⟨hne, rfl, rfl, h.grown hb⟩)
    · by_cases hk : kids S.l x = []
      · exact cdoom_ok h ok hK hx hp h0 hk
      · refine (cdoom_kids h0 hO hk (fun w1 hb => cmade_any (h.grown hb).sep ok hx)).mono ?_
        rintro r w' ⟨rfl, hb⟩
        exact .inr (.inr (.inl ⟨hne, h0, hk, rfl, h.grown hb⟩))
end Go.Proofs.YtcnbbenmlffgpaaGreatDoor

/- The walks of handle.New and core.New. Conditions: the package-level variables lie. -/
namespace Go.Proofs.YtcnbbenmlffgpaaGreatDoor
open Go.RowKit

theorem wpList_build0 {P : Program} {ops : Array Oper} {rest : List Oper} {o : Oper} {a : Act} {w : World} {Q : Exit → Act → World → Prop} (hg : o.guard = none) (t : TypeId) (ho : o.op = .build t #[]) (dst : Option Tmp) (hdst : o.dst = dst) (cells : Array Value)
    (hb : P.built t [] = some cells)
    (h : wpList P ops Q rest (a.put dst (.agg cells)) w) : wpList P ops Q (o :: rest) a w := by
  subst hdst
  have e : (Array.map (fun (x : Nat × Operand) => match x with | (i, x) => (i, a.eval x)) #[]).toList = [] := by simp
  refine wpList_build hg t #[] ho (by rw [e, hb]; rfl) ?_
  rw [e, hb]; exact h
/-- The cells of an empty table. -/
def tabZ : List Value := (List.replicate 256 (noPl 0)).flatMap Pl.cells
theorem tabZ_built : Tryz.prog.built 182 (([] : List (Nat × Value))) = some tabZ.toArray := by kernel_rfl
theorem tabZ_cells : (Value.agg tabZ.toArray).cells = tabZ.toArray := by kernel_rfl
def NewHT (H : HL) (w : World) (r : Ending) (w' : World) : Prop := ∃ t, r = .returned (.pointer (some ⟨t, 0, none⟩)) ∧ Step H ((⟨t, List.replicate 256 (noPl 0)⟩ : HT).hl ++ H) w w'
set_option maxHeartbeats 1000000 in
theorem hnew_any {w : World} {H : HL} (h : Sep w H) : Calls Tryz.prog 53 #[] w (NewHT H w) := by
  have HR : Hid (NewHT H w (.returned (.pointer (some ⟨w.heap.size, 0, none⟩))) (w.alloc (.cells tabZ.toArray 182))) := ⟨_, rfl, h.new 182 tabZ⟩
  clear h
  have hz := tabZ_built
  have hc := tabZ_cells
  generalize tabZ.toArray = Z at *
  go_enter Tryz.func53, Tryz.ntmps53
  repeat (first | refine wpList_build0 rfl 182 rfl _ rfl Z hz ?_ | refine Go.Great.wpList_boxTo rfl 182 _ rfl _ rfl _ rfl Z hc ?_ | go_step)
  first | exact HR.out | (go_ret; exact HR.out)
theorem fre_new (top k i : Nat) : fre (uOf []) top k i = (k == top) := by
  have hc : ∀ k i, clr (uOf []) k i = true := fun k i => (clr_iff _ _ _).2 fun p _ => by simp [uOf]
  unfold fre
  rw [hc, hc]; simp
theorem fst_newT (top : Nat) : (∀ k, k < top → fstG (fre (uOf []) top) top k 0 = none) ∧ fstG (fre (uOf []) top) top top 0 = some 0 := by
  refine ⟨fun k hk => firstI_none fun i _ hi => ?_, firstI_some ?_ (Nat.le_refl _) ?_ fun i h0 h1 => by omega⟩
  · rw [List.getElem?_map]
    have : i < 2 ^ (top - k) := by simpa using hi
    rw [List.getElem?_range this]
    show (fre (uOf []) top k i) ≠ true
    rw [fre_new]; simp; omega
  · simp
  · rw [Nat.sub_self]
    show ((List.map _ [0])[0]?).getD false = true
    show fre (uOf []) top top 0 = true
    rw [fre_new]; simp
theorem take_newT {c : CA} {d : BD} {a : Nat} {ps' : List Nat} (hpg : c.pg = []) (hps : d.ps = []) (h : TakeW c d a ps') : a = 64 ∧ ps' = [0] := by
  rcases h with ⟨k, x, i, hx, _⟩ | ⟨_, k0, i0, hk, hf, hp, ha, hq⟩
  · rw [hpg] at hx; simp at hx
  · rw [hps] at hf hp
    obtain ⟨f1, f2⟩ := fst_newT d.top
    have hk6 : k0 = d.top := by
      rcases Nat.lt_or_ge k0 d.top with e | e
      · rw [f1 k0 e] at hf; cases hf
      · omega
    subst hk6
    rw [f2] at hf
    cases hf
    rw [hps] at hq
    exact ⟨by rw [ha]; unfold addr; omega, by rw [hq]; simp⟩
theorem noroom_newT {P : PL} {n : Nat} (hps : P.d.ps = []) : ¬ NoRoom P n := by
  rintro ⟨c, hc, _, hn⟩
  rw [hps] at hn
  have := hn P.d.top (Nat.le_refl _)
  rw [(fst_newT P.d.top).2] at this
  cases this
/-- What a get of the first factory's bytes comes to, of a new pool. -/
theorem pget_new {w : World} {P : PL} (h : Sep w P.hl) {top : Nat} {limit : Int} (hf : FreshP P top limit) (hl : P.cs.length = 7) (h1 : 6 ≤ top) (h0 : 64 ≤ limit) (hm : limit ≤ 1073741824) :
    Calls Tryz.prog 55 #[.pointer (some ⟨P.p, 0, none⟩), .int .i64 0, .int .i64 1] w fun r w' => r = .returned (.tuple #[.int .i64 64, .int .i64 0]) ∧ ∃ P', GotM P [] 0 1 64 P' [] ∧ P'.d.ps = [0] ∧ (∃ b, P'.q.E = [⟨0, b, ⟨limit, 64, 0, -1, 0⟩⟩]) ∧ P'.q.next = 1 ∧ Step P.hl P'.hl w w' := by
  have ok := hf.ok hl h1 (by omega) hm
  have hpg := empty_pg ok fun j => fresh_used hf j
  obtain ⟨t, m, b, hq⟩ := hf.q
  have hfe : find P.q.E 0 = some ⟨0, b, ⟨limit, 0, 0, -1, 0⟩⟩ := by rw [hq]; rfl
  refine (pget_any h ok 0 1).mono ?_
  rintro r w' (⟨h0, _⟩ | ⟨_, h0, _⟩ | ⟨_, ⟨e', h2, h3⟩, _⟩ | ⟨n, e', hn, _, _, h2, _, hr⟩)
  · exact absurd h0 (by decide)
  · rw [hfe] at h0; cases h0
  · rw [hfe] at h2; cases h2
    have : ((costI 1 : Nat) : Int) = 64 := rfl
    rw [this] at h3
    simp at h3; omega
  · have hn1 : n = 1 := by omega
    subst hn1
    rcases hr with ⟨a, P', rfl, g, hst⟩ | ⟨hno, _⟩
    · obtain ⟨c, _, hc, _, ht⟩ := g.which
      obtain ⟨rfl, hps'⟩ := take_newT (hpg _ c hc.2) hf.ps ht.which
      have gm := g.gotM ok
      obtain ⟨hacc, hE, hnx, _⟩ := gm.acc (own := 0) hfe
      refine ⟨rfl, P', gm, hps', ⟨b, ?_⟩, ?_, hst⟩
      · rw [hE, hq]
        simp [newQT, upd, costK, costN]
      · rw [hnx, hq]; rfl
    · exact absurd hno (noroom_newT hf.ps)
theorem pget_low {w : World} {P : PL} (h : Sep w P.hl) {top : Nat} {limit : Int} (hf : FreshP P top limit) (hl : P.cs.length = 7) (h1 : 6 ≤ top) (h0 : 0 ≤ limit) (hm : limit < 64) :
    Calls Tryz.prog 55 #[.pointer (some ⟨P.p, 0, none⟩), .int .i64 0, .int .i64 1] w fun r w' => r = .returned (.tuple #[.int .i64 0, .int .i64 5]) ∧ Step P.hl P.hl w w' := by
  have ok := hf.ok hl h1 (by omega) (by omega)
  obtain ⟨t, m, b, hq⟩ := hf.q
  have hfe : find P.q.E 0 = some ⟨0, b, ⟨limit, 0, 0, -1, 0⟩⟩ := by rw [hq]; rfl
  refine (pget_any h ok 0 1).mono ?_
  rintro r w' (⟨h0, _⟩ | ⟨_, h0, _⟩ | ⟨_, ⟨e', h2, h3⟩, rfl, st⟩ | ⟨n, e', hn, _, _, h2, h3, hr⟩)
  · exact absurd h0 (by decide)
  · rw [hfe] at h0; cases h0
  · exact ⟨rfl, st⟩
  · have hn1 : n = 1 := by omega
    subst hn1
    rw [hfe] at h2; cases h2
    have : ((costN 1 : Nat) : Int) = 64 := rfl
    rw [this] at h3
    simp at h3; omega
/-- A new core. -/
structure FreshO (S : CO) (top : Nat) (limit : Int) (period : Nat) : Prop where
  ok : S.Ok [] 1 0
  l : S.l = newL 64
  ts : S.ts = []
  now : S.now = 0
  period : S.period = period
  top : S.P.d.top = top
  next : S.P.q.next = 1
  ps : S.P.d.ps = [0]
  q : ∃ b, S.P.q.E = [⟨0, b, ⟨limit, 64, 0, -1, 0⟩⟩]
def NewCO (top : Nat) (limit : Int) (period : Nat) (H : HL) (w : World) (r : Ending) (w' : World) : Prop := ∃ S : CO, r = .returned (.pointer (some ⟨S.c, 0, none⟩)) ∧ FreshO S top limit period ∧ Step H (S.hl ++ H) w w'
theorem lok_new : LOk (List.replicate 256 (noPl 0)) := ⟨List.length_replicate, fun p hp => by rw [List.eq_of_mem_replicate hp]; exact ⟨Nat.zero_le _, Nat.zero_le _⟩⟩
theorem newL_fst : Fst (List.replicate 256 (noPl 0)) 0 (noPl 0) := ⟨rfl, rfl, fun j q h _ => by omega⟩
/-- The parts of a new core, and the first factory. -/
theorem new_chain {w w1 w2 w3 : World} {H : HL} {P : PL} {top period : Nat} {limit : Int} {t g : Nat} (hf : FreshP P top limit) (hl : P.cs.length = 7) (h1 : 6 ≤ top) (h0 : 64 ≤ limit) (hm : limit ≤ 1073741824) (hp1 : 1 ≤ period) (hp2 : period ≤ 16)
    (s1 : Step H (P.hl ++ H) w w1) (s2 : Step (P.hl ++ H) ((⟨t, List.replicate 256 (noPl 0)⟩ : HT).hl ++ (P.hl ++ H)) w1 w2) (s3 : Step ((⟨t, List.replicate 256 (noPl 0)⟩ : HT).hl ++ (P.hl ++ H)) (qhl g period 0 none [] ++ ((⟨t, List.replicate 256 (noPl 0)⟩ : HT).hl ++ (P.hl ++ H))) w2 w3) :
    (w3.alloc (.cells #[.pointer (some ⟨P.p, 0, none⟩), .pointer (some ⟨t, 0, none⟩), .pointer (some ⟨g, 0, none⟩)] 115)).cell? ⟨w3.heap.size, 0, none⟩ = some (.pointer (some ⟨P.p, 0, none⟩)) ∧
    (w3.alloc (.cells #[.pointer (some ⟨P.p, 0, none⟩), .pointer (some ⟨t, 0, none⟩), .pointer (some ⟨g, 0, none⟩)] 115)).cell? ⟨w3.heap.size, 2, none⟩ = some (.pointer (some ⟨g, 0, none⟩)) ∧
    Calls Tryz.prog 55 #[.pointer (some ⟨P.p, 0, none⟩), .int .i64 0, .int .i64 1] (w3.alloc (.cells #[.pointer (some ⟨P.p, 0, none⟩), .pointer (some ⟨t, 0, none⟩), .pointer (some ⟨g, 0, none⟩)] 115)) fun r w4 => r = .returned (.tuple #[.int .i64 64, .int .i64 0]) ∧ w4.cell? ⟨w3.heap.size, 1, none⟩ = some (.pointer (some ⟨t, 0, none⟩)) ∧
      Calls Tryz.prog 56 #[.pointer (some ⟨t, 0, none⟩), .agg #[.int .i64 1, .int .i64 64, .int .i64 0]] w4 fun r w5 => (∃ x y : Value, r = .returned (.tuple #[x, y])) ∧ NewCO top limit period H w (.returned (.pointer (some ⟨w3.heap.size, 0, none⟩))) w5 := by
  have s123 := (s1.trans s2).trans s3
  have s4 := s123.trans (s123.sep.new 115 [.pointer (some ⟨P.p, 0, none⟩), .pointer (some ⟨t, 0, none⟩), .pointer (some ⟨g, 0, none⟩)])
  have hc := Cells.new w3 115 [.pointer (some ⟨P.p, 0, none⟩), .pointer (some ⟨t, 0, none⟩), .pointer (some ⟨g, 0, none⟩)]
  obtain ⟨S, hS⟩ : ∃ S : CO, S = ⟨w3.heap.size, P, t, List.replicate 256 (noPl 0), g, period, 0, none, []⟩ := ⟨_, rfl⟩
  have hperm : ((w3.heap.size, isC 115 [.pointer (some ⟨P.p, 0, none⟩), .pointer (some ⟨t, 0, none⟩), .pointer (some ⟨g, 0, none⟩)]) :: (qhl g period 0 none [] ++ ((⟨t, List.replicate 256 (noPl 0)⟩ : HT).hl ++ (P.hl ++ H)))).Perm (S.hl ++ H) := by
    refine perm_count fun a => ?_
    rw [hS]
    simp only [CO.hl, CO.head, CO.ht, CO.qh, hc_append, hc_cons, ptr]; omega
  have s5 := s4.perm (List.Perm.refl _) hperm
  have sS : Sep (w3.alloc (.cells #[.pointer (some ⟨P.p, 0, none⟩), .pointer (some ⟨t, 0, none⟩), .pointer (some ⟨g, 0, none⟩)] 115)) S.hl := s5.sep.left
  refine ⟨hc.cell 0 _ rfl, hc.cell 2 _ rfl, ?_⟩
  have sP := CO.sP sS
  have eP : S.P = P := by rw [hS]
  rw [eP] at sP
  refine (pget_new sP hf hl h1 h0 hm).mono ?_
  rintro r w4 ⟨rfl, P', gm, hps, hq, hnx, st⟩
  have st' : Step S.hl (S.setP P').hl _ w4 := CO.stepP sS P' (by rw [gm.same.p, hS]) (by rw [hS]; exact st)
  have c1 := CO.c1 st'.sep
  have hput := hput_ok (h := (S.setP P').ht) (CO.sT st'.sep) (by rw [hS]; exact lok_new) (i := 0) (p := noPl 0) (by rw [hS]; exact newL_fst) 1 64 0 0
  have ect : S.t = t := by rw [hS]
  have ecc : S.c = w3.heap.size := by rw [hS]
  have c1' : w4.cell? ⟨w3.heap.size, 1, none⟩ = some (.pointer (some ⟨t, 0, none⟩)) := by
    rw [← ect, ← ecc]; exact c1
  refine ⟨rfl, c1', ?_⟩
  have hput' : Calls Tryz.prog 56 #[.pointer (some ⟨t, 0, none⟩), .agg #[.int .i64 1, .int .i64 64, .int .i64 0]] w4 (PutT (S.setP P').ht ⟨1, 64, 0, 1, (noPl 0).age, 0⟩ 0 w4) := by
    rw [← ect]; exact hput
  refine hput'.mono ?_
  rintro r w5 ⟨rfl, st5⟩
  refine ⟨⟨_, _, rfl⟩, (S.setP P').setL (newL 64), by show _ = Ending.returned (.pointer (some ⟨S.c, 0, none⟩)); rw [ecc], ?_, ?_⟩
  · have hinv := new_inv hf hl h1 (by omega) hm gm
    refine ⟨⟨?_, ?_, ?_, ?_, ?_, ?_, ?_, ?_⟩, rfl, ?_, ?_, ?_, ?_, hnx, hps, hq⟩
    · show Inv P' (newL 64) [] x0 (S.ts.map Prod.fst)
      rw [hS]; exact hinv
    · show 1 ≤ S.period ∧ _; rw [hS]; exact ⟨hp1, hp2⟩
    · show ∀ x ∈ S.ts, _; rw [hS]; exact fun x hx => by cases hx
    · show S.ts.Pairwise _; rw [hS]; exact .nil
    · show ovOk S.rv S.ts.length; rw [hS]; exact rfl
    · show P'.q.next ≤ _; rw [hnx]; decide
    · show S.now ≤ 0; rw [hS]; exact Nat.le_refl _
    · intro p hp
      rcases newL_rest hp with rfl | rfl <;> exact Nat.zero_le _
    · show S.ts = []; rw [hS]
    · show S.now = 0; rw [hS]
    · show S.period = period; rw [hS]
    · show P'.d.top = top; rw [gm.same.top, hf.etop]
  · have e1 : (S.setP P').ht.l.set 0 ⟨1, 64, 0, 1, (noPl 0).age, 0⟩ = newL 64 := by rw [hS]; rfl
    have st6 : Step (S.setP P').hl ((S.setP P').setL (newL 64)).hl w4 w5 := by
      have := CO.stepL (S := S.setP P') st'.sep _ st5
      rw [e1] at this; exact this
    have f1 := Step.frame [] H (by simpa using s5.sep) (st'.trans st6)
    simp only [List.nil_append] at f1
    exact s5.trans f1
end Go.Proofs.YtcnbbenmlffgpaaGreatDoor

/- The walk of core.New. Conditions: the package-level variables lie. -/
namespace Go.Proofs.YtcnbbenmlffgpaaGreatDoor
open Go.RowKit

set_option maxHeartbeats 4000000 in
theorem cnew_any {w : World} {H : HL} (h : Sep w H) (top : Nat) (h1 : 6 ≤ top) (h2 : top ≤ 20) (limit : Int) (h0 : 64 ≤ limit) (hl : limit ≤ ((2 ^ (top + 10) : Nat) : Int)) (period : Nat) (hp1 : 1 ≤ period) (hp2 : period ≤ 16) :
    Calls Tryz.prog 13 #[.int .i64 ((2 ^ (top + 10) : Nat) : Int), .int .i64 limit, .int .i64 (period : Int)] w (NewCO top limit period H w) := by
  have b2 : 2 ^ (top + 10) ≤ 1073741824 := Nat.le_trans (Nat.pow_le_pow_right (by omega) (by omega)) (by decide : 2 ^ 30 ≤ 1073741824)
  have k1 := pnew_any h top h1 h2 limit (by omega) hl
  have HQ : Hid (∀ r w1, NewPL top limit H w r w1 → ∃ pp, r = .returned (.pointer (some ⟨pp, 0, none⟩)) ∧ Calls Tryz.prog 53 #[] w1 fun r w2 => ∃ t, r = .returned (.pointer (some ⟨t, 0, none⟩)) ∧
      Calls Tryz.prog 54 #[.int .i64 (period : Int)] w2 fun r w3 => ∃ g, r = .returned (.pointer (some ⟨g, 0, none⟩)) ∧
        (w3.alloc (.cells #[.pointer (some ⟨pp, 0, none⟩), .pointer (some ⟨t, 0, none⟩), .pointer (some ⟨g, 0, none⟩)] 115)).cell? ⟨w3.heap.size, 0, none⟩ = some (.pointer (some ⟨pp, 0, none⟩)) ∧
        (w3.alloc (.cells #[.pointer (some ⟨pp, 0, none⟩), .pointer (some ⟨t, 0, none⟩), .pointer (some ⟨g, 0, none⟩)] 115)).cell? ⟨w3.heap.size, 2, none⟩ = some (.pointer (some ⟨g, 0, none⟩)) ∧
        Calls Tryz.prog 55 #[.pointer (some ⟨pp, 0, none⟩), .int .i64 0, .int .i64 1] (w3.alloc (.cells #[.pointer (some ⟨pp, 0, none⟩), .pointer (some ⟨t, 0, none⟩), .pointer (some ⟨g, 0, none⟩)] 115)) fun r w4 => r = .returned (.tuple #[.int .i64 64, .int .i64 0]) ∧ w4.cell? ⟨w3.heap.size, 1, none⟩ = some (.pointer (some ⟨t, 0, none⟩)) ∧
          Calls Tryz.prog 56 #[.pointer (some ⟨t, 0, none⟩), .agg #[.int .i64 1, .int .i64 64, .int .i64 0]] w4 fun r w5 => (∃ x y : Value, r = .returned (.tuple #[x, y])) ∧ NewCO top limit period H w (.returned (.pointer (some ⟨w3.heap.size, 0, none⟩))) w5) := by
    rintro r w1 ⟨P, rfl, hlen, hf, s1⟩
    refine ⟨P.p, rfl, (hnew_any s1.sep).mono ?_⟩
    rintro r w2 ⟨t, rfl, s2⟩
    refine ⟨t, rfl, (gnew_any s2.sep period hp1 hp2).mono ?_⟩
    rintro r w3 ⟨g, rfl, s3⟩
    exact ⟨g, rfl, new_chain hf hlen h1 h0 (by omega) hp1 hp2 s1 s2 s3⟩
  generalize NewCO top limit period H w = Q at *
  clear h
  go_enter Tryz.func13, Tryz.ntmps13
  go_wp2_with fail
  refine k1.mono ?_
  intro r w1 hx
  obtain ⟨pp, rfl, ht⟩ := HQ.out _ _ hx
  have HT := hidden ht
  clear hx ht HQ k1
  go_wp2_with fail
  refine HT.out.mono ?_
  rintro r w2 ⟨t, rfl, hg⟩
  have HG := hidden hg
  clear hg HT
  go_wp2_with fail
  refine HG.out.mono ?_
  rintro r w3 ⟨g, rfl, c0, c2, hget⟩
  have HGet := hidden hget
  clear hget HG
  go_wp2_with fail
  refine HGet.out.mono ?_
  rintro r w4 ⟨rfl, c1, hput⟩
  have HPut := hidden hput
  clear hput HGet c0 c2
  go_wp2_with fail
  refine HPut.out.mono ?_
  rintro r w5 ⟨⟨x, y, rfl⟩, hq⟩
  have HX := hidden hq
  clear hq HPut c1
  go_wp2_with fail
  first | exact HX.out | (go_ret; exact HX.out)
theorem new_chain_low {w w1 w2 w3 : World} {H : HL} {P : PL} {top : Nat} {limit : Int} {t g : Nat} (hf : FreshP P top limit) (hl : P.cs.length = 7) (h1 : 6 ≤ top) (h0 : 0 ≤ limit) (hm : limit < 64)
    (s1 : Step H (P.hl ++ H) w w1) (s2 : Step (P.hl ++ H) ((⟨t, List.replicate 256 (noPl 0)⟩ : HT).hl ++ (P.hl ++ H)) w1 w2) {period : Nat} (s3 : Step ((⟨t, List.replicate 256 (noPl 0)⟩ : HT).hl ++ (P.hl ++ H)) (qhl g period 0 none [] ++ ((⟨t, List.replicate 256 (noPl 0)⟩ : HT).hl ++ (P.hl ++ H))) w2 w3) :
    (w3.alloc (.cells #[.pointer (some ⟨P.p, 0, none⟩), .pointer (some ⟨t, 0, none⟩), .pointer (some ⟨g, 0, none⟩)] 115)).cell? ⟨w3.heap.size, 0, none⟩ = some (.pointer (some ⟨P.p, 0, none⟩)) ∧
    (w3.alloc (.cells #[.pointer (some ⟨P.p, 0, none⟩), .pointer (some ⟨t, 0, none⟩), .pointer (some ⟨g, 0, none⟩)] 115)).cell? ⟨w3.heap.size, 2, none⟩ = some (.pointer (some ⟨g, 0, none⟩)) ∧
    Calls Tryz.prog 55 #[.pointer (some ⟨P.p, 0, none⟩), .int .i64 0, .int .i64 1] (w3.alloc (.cells #[.pointer (some ⟨P.p, 0, none⟩), .pointer (some ⟨t, 0, none⟩), .pointer (some ⟨g, 0, none⟩)] 115)) fun r w4 => r = .returned (.tuple #[.int .i64 0, .int .i64 5]) ∧ Step H H w w4 := by
  have s123 := (s1.trans s2).trans s3
  have s4 := s123.trans (s123.sep.new 115 [.pointer (some ⟨P.p, 0, none⟩), .pointer (some ⟨t, 0, none⟩), .pointer (some ⟨g, 0, none⟩)])
  have hc := Cells.new w3 115 [.pointer (some ⟨P.p, 0, none⟩), .pointer (some ⟨t, 0, none⟩), .pointer (some ⟨g, 0, none⟩)]
  refine ⟨hc.cell 0 _ rfl, hc.cell 2 _ rfl, ?_⟩
  have hperm : ((w3.heap.size, isC 115 [.pointer (some ⟨P.p, 0, none⟩), .pointer (some ⟨t, 0, none⟩), .pointer (some ⟨g, 0, none⟩)]) :: (qhl g period 0 none [] ++ ((⟨t, List.replicate 256 (noPl 0)⟩ : HT).hl ++ (P.hl ++ H)))).Perm (P.hl ++ (H ++ ((w3.heap.size, isC 115 [.pointer (some ⟨P.p, 0, none⟩), .pointer (some ⟨t, 0, none⟩), .pointer (some ⟨g, 0, none⟩)]) :: (qhl g period 0 none [] ++ (⟨t, List.replicate 256 (noPl 0)⟩ : HT).hl)))) := by
    refine perm_count fun a => ?_
    simp only [hc_append, hc_cons]; omega
  have s5 := s4.perm (List.Perm.refl _) hperm
  refine (pget_low s5.sep.left hf hl h1 h0 hm).mono ?_
  rintro r w4 ⟨rfl, st⟩
  have f1 : Step (P.hl ++ _) (P.hl ++ _) _ w4 := Step.frame [] _ s5.sep st
  exact ⟨rfl, (s5.trans f1).drop ((List.sublist_append_left _ _).trans (List.sublist_append_right _ _))⟩
set_option maxHeartbeats 4000000 in
theorem cnew_low {w : World} {H : HL} (h : Sep w H) (top : Nat) (h1 : 6 ≤ top) (h2 : top ≤ 20) (limit : Int) (h0 : 0 ≤ limit) (hl : limit < 64) (period : Nat) (hp1 : 1 ≤ period) (hp2 : period ≤ 16) :
    Calls Tryz.prog 13 #[.int .i64 ((2 ^ (top + 10) : Nat) : Int), .int .i64 limit, .int .i64 (period : Int)] w fun r w' => r = .returned (.pointer none) ∧ Step H H w w' := by
  have b3 : 65536 ≤ 2 ^ (top + 10) := Nat.le_trans (by decide : 65536 ≤ 2 ^ 16) (Nat.pow_le_pow_right (by omega) (by omega))
  have b2 : 2 ^ (top + 10) ≤ 1073741824 := Nat.le_trans (Nat.pow_le_pow_right (by omega) (by omega)) (by decide : 2 ^ 30 ≤ 1073741824)
  have k1 := pnew_any h top h1 h2 limit (by omega) (by omega)
  have HQ : Hid (∀ r w1, NewPL top limit H w r w1 → ∃ pp, r = .returned (.pointer (some ⟨pp, 0, none⟩)) ∧ Calls Tryz.prog 53 #[] w1 fun r w2 => ∃ t, r = .returned (.pointer (some ⟨t, 0, none⟩)) ∧
      Calls Tryz.prog 54 #[.int .i64 (period : Int)] w2 fun r w3 => ∃ g, r = .returned (.pointer (some ⟨g, 0, none⟩)) ∧
        (w3.alloc (.cells #[.pointer (some ⟨pp, 0, none⟩), .pointer (some ⟨t, 0, none⟩), .pointer (some ⟨g, 0, none⟩)] 115)).cell? ⟨w3.heap.size, 0, none⟩ = some (.pointer (some ⟨pp, 0, none⟩)) ∧
        (w3.alloc (.cells #[.pointer (some ⟨pp, 0, none⟩), .pointer (some ⟨t, 0, none⟩), .pointer (some ⟨g, 0, none⟩)] 115)).cell? ⟨w3.heap.size, 2, none⟩ = some (.pointer (some ⟨g, 0, none⟩)) ∧
        Calls Tryz.prog 55 #[.pointer (some ⟨pp, 0, none⟩), .int .i64 0, .int .i64 1] (w3.alloc (.cells #[.pointer (some ⟨pp, 0, none⟩), .pointer (some ⟨t, 0, none⟩), .pointer (some ⟨g, 0, none⟩)] 115)) fun r w4 => r = .returned (.tuple #[.int .i64 0, .int .i64 5]) ∧ Step H H w w4) := by
    rintro r w1 ⟨P, rfl, hlen, hf, s1⟩
    refine ⟨P.p, rfl, (hnew_any s1.sep).mono ?_⟩
    rintro r w2 ⟨t, rfl, s2⟩
    refine ⟨t, rfl, (gnew_any s2.sep period hp1 hp2).mono ?_⟩
    rintro r w3 ⟨g, rfl, s3⟩
    exact ⟨g, rfl, new_chain_low hf hlen h1 h0 hl s1 s2 s3⟩
  clear h
  go_enter Tryz.func13, Tryz.ntmps13
  go_wp2_with fail
  refine k1.mono ?_
  intro r w1 hx
  obtain ⟨pp, rfl, ht⟩ := HQ.out _ _ hx
  have HT := hidden ht
  clear hx ht HQ k1
  go_wp2_with fail
  refine HT.out.mono ?_
  rintro r w2 ⟨t, rfl, hg⟩
  have HG := hidden hg
  clear hg HT
  go_wp2_with fail
  refine HG.out.mono ?_
  rintro r w3 ⟨g, rfl, c0, c2, hget⟩
  have HGet := hidden hget
  clear hget HG
  go_wp2_with fail
  refine HGet.out.mono ?_
  rintro r w4 ⟨rfl, hs⟩
  have HX := hidden hs
  clear hs HGet c0 c2
  go_wp2_with fail
  first | exact ⟨rfl, HX.out⟩ | (go_ret; exact ⟨rfl, HX.out⟩)
end Go.Proofs.YtcnbbenmlffgpaaGreatDoor

/- What is read of a slice of acts on a core that came in: four numbers and a handle each. No condition. -/
namespace Go.Proofs.YtcnbbenmlffgpaaGreatDoor
open Go.ChangeShapes Go.WideShapes Go.ChangeAt Go.RowKit Go.Deep

/-- An act: its kind, a number, an object's kind, a limit, a handle. -/
structure A5 where
  kind : Int
  n : Int
  k : Int
  m : Int
  h : Int
def A5.cells (x : A5) : List Value := [.int .i64 x.kind, .int .i64 x.n, .int .i64 x.k, .int .i64 x.m, .int .u32 x.h]
structure A5.Wf (x : A5) : Prop where
  n : -9223372036854775808 ≤ x.n ∧ x.n ≤ 9223372036854775807
  m : -9223372036854775808 ≤ x.m ∧ x.m ≤ 9223372036854775807
  h : 0 ≤ x.h ∧ x.h < 4294967296
/-- A slice that came in holds these acts. -/
def IsA5 (w : World) (a0 : Option Addr) (len : Nat) (A : Nat → A5) : Prop := ∀ j, j < len → ∃ g off, a0 = some ⟨g, off, none⟩ ∧ g < w.heap.size ∧ (∀ (i : Nat) (v : Value), (A j).cells[i]? = some v → w.cell? ⟨g, off + j * 5 + i, none⟩ = some v) ∧ (A j).Wf
theorem IsA5.below {w w' : World} {a0 : Option Addr} {len : Nat} {A : Nat → A5} (h : IsA5 w a0 len A) (hb : Below w.heap.size w w') : IsA5 w' a0 len A := by
  intro j hj
  obtain ⟨g, off, h1, h2, h3, h4⟩ := h j hj
  have e := hb.block g h2
  exact ⟨g, off, h1, Nat.lt_of_lt_of_le h2 hb.size, fun i v hv => (World.cell?_of_block (w := w) e).trans (h3 i v hv), h4⟩
theorem addr_plain5 {w : World} {x : Addr} {v : Value} (h : w.cell? x = some v) : x = ⟨x.block, x.off, none⟩ := by
  obtain ⟨b, o, s⟩ := x
  cases s with
  | none => rfl
  | some s =>
    exfalso
    unfold World.cell? at h
    split at h <;> simp at h
theorem add_plain5 (b o j : Nat) : (⟨b, o, none⟩ : Addr).add j = ⟨b, o + j, none⟩ := by
  unfold Addr.add
  split
  · rename_i h; simp [h]
  · rfl
theorem cellsAct5 : Tryz.prog.cellsOf 29 = 5 := by kernel_rfl
theorem cellsInt5 : Tryz.prog.cellsOf 3 = 1 := by kernel_rfl
theorem cellsU5 : Tryz.prog.cellsOf 27 = 1 := by kernel_rfl
set_option maxRecDepth 100000 in
theorem open_act5 {H : Type} {enc : TypeId × Value → H} {w : World} {n : Nat} {cs : List Value} {y : DataW H × List MemPlace}
    (h : DataW.trod enc Tryz.prog w 0 (fun _ => true) true n 29 cs = some y) : ∃ x : A5, cs = x.cells ∧ x.Wf := by
  obtain ⟨xs, n', _, _, hlen, hxl, hf⟩ := DataW.trod_struct Tryz.underlying29 h
  rw [cellsAct5] at hlen
  match cs, hlen with
  | [v0, v1, v2, v3, v4], _ =>
    match xs, hxl with
    | [y0, y1, y2, y3, y4], _ =>
      have g0 : DataW.trod enc Tryz.prog w 0 (fun _ => true) true n' 3 (List.take (Tryz.prog.cellsOf 3) (List.drop 0 [v0, v1, v2, v3, v4])) = some y0 := hf 0 _ rfl
      have g1 : DataW.trod enc Tryz.prog w 0 (fun _ => true) true n' 3 (List.take (Tryz.prog.cellsOf 3) (List.drop 1 [v0, v1, v2, v3, v4])) = some y1 := hf 1 _ rfl
      have g2 : DataW.trod enc Tryz.prog w 0 (fun _ => true) true n' 3 (List.take (Tryz.prog.cellsOf 3) (List.drop 2 [v0, v1, v2, v3, v4])) = some y2 := hf 2 _ rfl
      have g3 : DataW.trod enc Tryz.prog w 0 (fun _ => true) true n' 3 (List.take (Tryz.prog.cellsOf 3) (List.drop 3 [v0, v1, v2, v3, v4])) = some y3 := hf 3 _ rfl
      have g4 : DataW.trod enc Tryz.prog w 0 (fun _ => true) true n' 27 (List.take (Tryz.prog.cellsOf 27) (List.drop 4 [v0, v1, v2, v3, v4])) = some y4 := hf 4 _ rfl
      rw [cellsInt5] at g0 g1 g2 g3
      rw [cellsU5] at g4
      simp only [List.drop_zero, List.take_succ_cons, List.take_zero, List.drop_succ_cons] at g0 g1 g2 g3 g4
      obtain ⟨a, e0, _, _⟩ := DataW.trod_int Tryz.underlying3 g0
      obtain ⟨b, e1, _, hw1⟩ := DataW.trod_int Tryz.underlying3 g1
      obtain ⟨c, e2, _, _⟩ := DataW.trod_int Tryz.underlying3 g2
      obtain ⟨d, e3, _, hw3⟩ := DataW.trod_int Tryz.underlying3 g3
      obtain ⟨f, e4, _, hw4⟩ := DataW.trod_int Tryz.underlying27 g4
      have hb1 := bounds_i64 (n := b) (by simp_all)
      have hb3 := bounds_i64 (n := d) (by simp_all)
      have hb4 := bounds_u32 (n := f) (by simp_all)
      simp only [List.cons.injEq, and_true] at e0 e1 e2 e3 e4
      subst e0; subst e1; subst e2; subst e3; subst e4
      exact ⟨⟨a, b, c, d, f⟩, rfl, ⟨by simpa using hb1, by simpa using hb3, by show 0 ≤ f ∧ f < 4294967296; omega⟩⟩
theorem open_acts5 {H : Type} {enc : TypeId × Value → H} {w : World} {fuel : Nat} {a0 : Option Addr} {len cap : Nat} {x : DataW H × List MemPlace}
    (h : DataW.trod enc Tryz.prog w 0 (fun _ => true) true fuel 22 [.slice a0 len cap] = some x) : ∃ A, IsA5 w a0 len A := by
  rcases open_slice Tryz.underlying22 h with ⟨hcs, _⟩ | ⟨a, len', cap', m, n, D, Pl, hcs, _, hl, _, hmm, _, hi⟩
  · simp only [List.cons.injEq, Value.slice.injEq, and_true] at hcs
    obtain ⟨rfl, rfl, rfl⟩ := hcs
    exact ⟨fun _ => ⟨0, 0, 0, 0, 0⟩, fun j hj => absurd hj (Nat.not_lt_zero _)⟩
  · simp only [List.cons.injEq, Value.slice.injEq, and_true] at hcs
    obtain ⟨rfl, rfl, rfl⟩ := hcs
    have hm : len ≤ m := by rw [hmm]; simp; exact hl
    have each : ∀ j, j < len → ∃ x : A5, (∀ (i : Nat) (v : Value), x.cells[i]? = some v → w.cell? ((a.add (j * 5)).add i) = some v) ∧ x.Wf := by
      intro j hj
      obtain ⟨cs', hc, ht⟩ := hi j (by omega)
      rw [cellsAct5] at hc
      obtain ⟨x, rfl, hx⟩ := open_act5 ht
      obtain ⟨_, _, hat⟩ := World.cells?_some hc
      refine ⟨x, fun i v hv => ?_, hx⟩
      have hi5 : i < 5 := by simpa [A5.cells] using (List.getElem?_eq_some_iff.1 hv).1
      exact (hat i hi5).trans hv
    by_cases h0 : len = 0
    · exact ⟨fun _ => ⟨0, 0, 0, 0, 0⟩, fun j hj => by omega⟩
    · obtain ⟨x0, c0, _⟩ := each 0 (by omega)
      have hp := addr_plain5 (x := a) (by simpa [Addr.add] using c0 0 _ rfl)
      refine ⟨fun j => if hj : j < len then (each j hj).choose else ⟨0, 0, 0, 0, 0⟩, fun j hj => ?_⟩
      obtain ⟨h1, h2⟩ := (each j hj).choose_spec
      simp only [hj, dif_pos]
      generalize (each j hj).choose = y at h1 h2
      have h3 : ∀ (i : Nat) (v : Value), y.cells[i]? = some v → w.cell? ⟨a.block, a.off + j * 5 + i, none⟩ = some v := fun i v hv => by
        have := h1 i v hv
        rw [hp, add_plain5, add_plain5] at this
        exact this
      exact ⟨a.block, a.off, congrArg some hp, World.block_lt_of_cell? w ⟨a.block, a.off + j * 5 + 0, none⟩ (h3 0 _ rfl), h3, h2⟩
end Go.Proofs.YtcnbbenmlffgpaaGreatDoor

/- What an act on a core leaves, one call behind the other; rows of handles laid aside. No condition. -/
namespace Go.Proofs.YtcnbbenmlffgpaaGreatDoor
open Go.RowKit

/-- A row of handles that lies beside H. -/
def Aside (H : HL) (L : List Nat) (a : Option Addr) (w : World) : Prop := ∀ (j x : Nat), L[j]? = some x → ∃ g, a = some ⟨g, 0, none⟩ ∧ g ∉ keys H ∧ g < w.heap.size ∧ w.cell? ⟨g, j, none⟩ = some (.int .u32 (x : Int))
theorem Aside.step {H H' : HL} {L : List Nat} {a : Option Addr} {w w' : World} (h : Aside H L a w) (st : Step H H' w w') : Aside H' L a w' := fun j x hj => by
  obtain ⟨g, h1, h2, h3, h4⟩ := h j x hj
  refine ⟨g, h1, fun hk => ?_, Nat.lt_of_lt_of_le h3 st.chg.size, (World.cell?_of_block (w := w) (st.chg.block g h3 h2)).trans h4⟩
  rcases st.new g hk with h' | h'
  · exact h2 h'
  · omega
theorem Aside.grown {H : HL} {L : List Nat} {a : Option Addr} {w w' : World} (h : Aside H L a w) (hb : Below w.heap.size w w') : Aside H L a w' := fun j x hj => by
  obtain ⟨g, h1, h2, h3, h4⟩ := h j x hj
  exact ⟨g, h1, h2, Nat.lt_of_lt_of_le h3 hb.size, (World.cell?_of_block (w := w) (hb.block g h3)).trans h4⟩
theorem NewHs.aside {w w' : World} {H : HL} {L : List Nat} {r : Ending} (h : NewHs w L r w') (hs : Sep w H) : ∃ (a : Option Addr) (cap : Nat), r = .returned (.slice a L.length cap) ∧ Below w.heap.size w w' ∧ Aside H L a w' := by
  obtain ⟨a, cap, e, hb, hi⟩ := h.shape
  refine ⟨a, cap, e, hb, fun j x hj => ?_⟩
  obtain ⟨g, h1, h2, h3, h4⟩ := hi.at' j x hj
  exact ⟨g, h1, fun hk => by have := hs.lt hk; omega, h3, h4⟩
/-- A core went on from S0: so many makings, so many ticks at most. -/
def OnAt (S0 : CO) (N K : Nat) (w0 wr : World) : Prop := ∃ S fr, S.Ok fr N K ∧ Went S0 S ∧ Step S0.hl S.hl w0 wr
/-- The same, and no tick went by. -/
def OnNow (S0 : CO) (N K : Nat) (w0 wr : World) : Prop := ∃ S fr, S.Ok fr N K ∧ Went S0 S ∧ S.now = S0.now ∧ Step S0.hl S.hl w0 wr
theorem OnNow.at {S0 : CO} {N K : Nat} {w0 wr : World} (h : OnNow S0 N K w0 wr) : OnAt S0 N K w0 wr := by
  obtain ⟨S, fr, a, b, _, c⟩ := h
  exact ⟨S, fr, a, b, c⟩
theorem OnNow.refl {S : CO} {fr : List Nat} {N K : Nat} {w : World} (h : Sep w S.hl) (ok : S.Ok fr N K) : OnNow S N K w w := ⟨S, fr, ok, Went.refl S, rfl, Step.refl h⟩
theorem OnNow.grown {S : CO} {N K : Nat} {w wr wr' : World} (h : OnNow S N K w wr) (hb : Below wr.heap.size wr wr') : OnNow S N K w wr' := by
  obtain ⟨S1, fr1, ok, wt, e, st⟩ := h
  exact ⟨S1, fr1, ok, wt, e, st.trans (st.sep.grown hb)⟩
theorem OnAt.grown {S : CO} {N K : Nat} {w wr wr' : World} (h : OnAt S N K w wr) (hb : Below wr.heap.size wr wr') : OnAt S N K w wr' := by
  obtain ⟨S1, fr1, ok, wt, st⟩ := h
  exact ⟨S1, fr1, ok, wt, st.trans (st.sep.grown hb)⟩
theorem OnAt.mono {S : CO} {N K N' K' : Nat} {w wr : World} (h : OnAt S N K w wr) (h1 : N ≤ N') (h2 : K ≤ K') : OnAt S N' K' w wr := by
  obtain ⟨S1, fr1, ok, wt, st⟩ := h
  exact ⟨S1, fr1, ok.mono h1 h2, wt, st⟩
theorem OnNow.mono {S : CO} {N K N' K' : Nat} {w wr : World} (h : OnNow S N K w wr) (h1 : N ≤ N') (h2 : K ≤ K') : OnNow S N' K' w wr := by
  obtain ⟨S1, fr1, ok, wt, e, st⟩ := h
  exact ⟨S1, fr1, ok.mono h1 h2, wt, e, st⟩
/-- What play leaves: no tick but by the kind 4. -/
def Played (S : CO) (N K : Nat) (kind : Int) (w w' : World) : Prop := OnAt S N K w w' ∧ (kind ≠ 4 → OnNow S N K w w')
theorem Played.of {S : CO} {N K : Nat} {w w' : World} (h : OnNow S N K w w') (kind : Int) : Played S N K kind w w' := ⟨h.at, fun _ => h⟩
theorem play_make {S : CO} {N K : Nat} {w wr : World} (h : OnNow S N K w wr) (hN : N + 1 < 1048576) {x : Nat} (hx : x < 4294967296) (k m : Int) : Calls Tryz.prog 21 #[.pointer (some ⟨S.c, 0, none⟩), .int .u32 (x : Int), .int .i64 k, .int .i64 m] wr fun r w' => (∃ a b : Value, r = .returned (.tuple #[a, b])) ∧ OnNow S (N + 1) K w w' := by
  obtain ⟨S1, fr1, ok, wt, e, st⟩ := h
  have := cmake_any st.sep ok hN hx k m
  rw [wt.c] at this
  refine this.mono ?_
  intro r w' hr
  obtain ⟨⟨a, b, rfl⟩, S2, fr2, ok2, wt2, e2, st2⟩ := hr.goes ok
  exact ⟨⟨_, _, rfl⟩, S2, fr2, ok2, wt.trans wt2, e2.trans e, st.trans st2⟩
theorem play_doom {S : CO} {N K : Nat} {w wr : World} (h : OnNow S N K w wr) (hK : K ≤ 1048576) {x : Nat} (hx : x < 4294967296) : Calls Tryz.prog 19 #[.pointer (some ⟨S.c, 0, none⟩), .int .u32 (x : Int)] wr fun r w' => (∃ a : Value, r = .returned a) ∧ OnNow S N K w w' := by
  obtain ⟨S1, fr1, ok, wt, e, st⟩ := h
  have := cdoom_any st.sep ok hK hx
  rw [wt.c] at this
  refine this.mono ?_
  intro r w' hr
  obtain ⟨⟨a, rfl⟩, S2, fr2, ok2, wt2, e2, st2⟩ := hr.goes ok
  exact ⟨⟨_, rfl⟩, S2, fr2, ok2, wt.trans wt2, e2.trans e, st.trans st2⟩
theorem play_tick {S : CO} {N K : Nat} {w wr : World} (h : OnAt S N K w wr) (hK : K < 1048575) : Calls Tryz.prog 20 #[.pointer (some ⟨S.c, 0, none⟩)] wr fun r w' => (∃ a : Value, r = .returned a) ∧ OnAt S N (K + 1) w w' := by
  obtain ⟨S1, fr1, ok, wt, st⟩ := h
  have := ctick_any st.sep ok hK
  rw [wt.c] at this
  refine this.mono ?_
  intro r w' hr
  obtain ⟨⟨a, rfl⟩, S2, fr2, ok2, wt2, st2⟩ := hr.goes
  exact ⟨⟨_, rfl⟩, S2, fr2, ok2, wt.trans wt2, st.trans st2⟩
/-- Dooming one behind the other: those from j on of the row are still to be doomed. -/
def DoomAt (S : CO) (N K : Nat) (L : List Nat) (a : Option Addr) (w wr : World) : Prop := ∃ S1 fr1, S1.Ok fr1 N K ∧ Went S S1 ∧ S1.now = S.now ∧ Step S.hl S1.hl w wr ∧ Aside S1.hl L a wr
theorem DoomAt.on {S : CO} {N K : Nat} {L : List Nat} {a : Option Addr} {w wr : World} (h : DoomAt S N K L a w wr) : OnNow S N K w wr := by
  obtain ⟨S1, fr1, ok, wt, e, st, _⟩ := h
  exact ⟨S1, fr1, ok, wt, e, st⟩
theorem doomAt_doom {S : CO} {N K : Nat} {L : List Nat} {a : Option Addr} {w wr : World} (h : DoomAt S N K L a w wr) (hK : K ≤ 1048576) {x : Nat} (hx : x < 4294967296) : Calls Tryz.prog 19 #[.pointer (some ⟨S.c, 0, none⟩), .int .u32 (x : Int)] wr fun r w' => (∃ a : Value, r = .returned a) ∧ DoomAt S N K L a w w' := by
  obtain ⟨S1, fr1, ok, wt, e, st, hsd⟩ := h
  have := cdoom_any st.sep ok hK hx
  rw [wt.c] at this
  refine this.mono ?_
  intro r w' hr
  obtain ⟨⟨a, rfl⟩, S2, fr2, ok2, wt2, e2, st2⟩ := hr.goes ok
  exact ⟨⟨_, rfl⟩, S2, fr2, ok2, wt.trans wt2, e2.trans e, st.trans st2, hsd.step st2⟩
theorem under_name {l : List Pl} (lok : LOk l) {N h x : Nat} (t : Tre l N) (hx : x ∈ under l N h) : x < 4294967296 := by
  have h1 := ((mem_under t).1 hx)
  rcases pre_live t h1.1 with rfl | ⟨_, q, hq⟩
  · exact absurd rfl h1.2
  · obtain ⟨a1, a2, _⟩ := pget_some.1 hq
    have := (lok.2 q (List.mem_of_getElem? a1)).2
    unfold nm at a2; omega
theorem play_under {S : CO} {N K : Nat} {w wr : World} (h : OnNow S N K w wr) {x : Nat} (hx : x < 4294967296) : Calls Tryz.prog 17 #[.pointer (some ⟨S.c, 0, none⟩), .int .u32 (x : Int)] wr fun r w' => ∃ (L : List Nat) (a : Option Addr) (cap : Nat), r = .returned (.slice a L.length cap) ∧ L.length ≤ 256 ∧ (∀ y ∈ L, y < 4294967296) ∧ DoomAt S N K L a w w' := by
  obtain ⟨S1, fr1, ok, wt, e, st⟩ := h
  have := cunder_any st.sep ok hx
  rw [wt.c] at this
  refine this.mono ?_
  intro r w' hr
  obtain ⟨a, cap, rfl, hb, hsd⟩ := hr.aside st.sep
  have t := ok.inv.tree
  refine ⟨_, a, cap, rfl, ?_, fun y hy => under_name ok.inv.lok t hy, S1, fr1, ok, wt, e, st.trans (st.sep.grown hb), hsd⟩
  have := pre_len t x
  have e2 := pre_split t x
  rw [e2, List.length_cons, List.length_reverse] at this
  omega
/-- Some object is live: the first factory. -/
theorem live_some {S : CO} {fr : List Nat} {N K : Nat} (ok : S.Ok fr N K) : (allL S.l 1).length ≠ 0 ∧ (allL S.l 1).length ≤ 256 ∧ ∀ x ∈ allL S.l 1, x < 4294967296 ∧ ∃ p, pget S.l 1 x = some p := by
  obtain ⟨r, r1, _, _, r4, r5, _⟩ := ok.inv.que.root
  have hl : S.l.length ≤ 256 := by rw [ok.inv.lok.1]; exact Nat.le_refl _
  have h0 : pget S.l 1 0 = some r := pget_some.2 ⟨r1, by simp [nm, r5], r4⟩
  have hm : 0 ∈ allL S.l 1 := (mem_all hl).2 ⟨r, h0⟩
  refine ⟨fun h => ?_, Nat.le_trans (allTo_len S.l 1 S.l.length) hl, fun x hx => ?_⟩
  · rw [List.eq_nil_of_length_eq_zero h] at hm; cases hm
  · obtain ⟨p, hp⟩ := (mem_all hl).1 hx
    obtain ⟨a1, a2, _⟩ := pget_some.1 hp
    have := (ok.inv.lok.2 p (List.mem_of_getElem? a1)).2
    exact ⟨by unfold nm at a2; omega, p, hp⟩
theorem play_live {S : CO} {fr : List Nat} {N K : Nat} {w wr : World} (h : Sep w S.hl) (ok : S.Ok fr N K) (hb : Below w.heap.size w wr) : Calls Tryz.prog 15 #[.pointer (some ⟨S.c, 0, none⟩)] wr fun r w' => ∃ (n : Nat) (a : Nat) (cap : Nat), r = .returned (.slice (some ⟨a, 0, none⟩) n cap) ∧ 0 < n ∧ n ≤ 256 ∧ Below wr.heap.size wr w' ∧ (∀ j, j < n → ∃ x : Nat, x < 4294967296 ∧ w'.cell? ⟨a, j, none⟩ = some (.int .u32 (x : Int))) ∧ OnNow S N K w w' := by
  have s1 := h.grown hb
  refine (clive_any s1.sep ok.inv.lok).mono ?_
  intro r w' hr
  obtain ⟨a, cap, rfl, hb2, hsd⟩ := hr.aside s1.sep
  obtain ⟨l1, l2, l3⟩ := live_some ok
  have hcell : ∀ j, j < (allL S.l 1).length → ∃ (g x : Nat), a = some ⟨g, 0, none⟩ ∧ x < 4294967296 ∧ w'.cell? ⟨g, j, none⟩ = some (.int .u32 (x : Int)) := fun j hj => by
    obtain ⟨g, e1, _, _, e4⟩ := hsd j _ (List.getElem?_eq_getElem hj)
    exact ⟨g, _, e1, (l3 _ (List.getElem_mem hj)).1, e4⟩
  obtain ⟨g, _, rfl, _⟩ := hcell 0 (by omega)
  refine ⟨_, g, cap, rfl, by omega, l2, hb2, fun j hj => ?_, S, fr, ok, Went.refl S, rfl, s1.trans (s1.sep.grown hb2)⟩
  obtain ⟨g', x, e1, e2, e3⟩ := hcell j hj
  cases e1
  exact ⟨x, e2, e3⟩
/-- How many ticks an act has. -/
def ticksI (n : Int) : Int := if n < 0 ∨ 20 < n then 1 else n
theorem ticksI_le (n : Int) : 0 ≤ ticksI n ∧ ticksI n ≤ 20 := by unfold ticksI; split <;> omega
end Go.Proofs.YtcnbbenmlffgpaaGreatDoor
