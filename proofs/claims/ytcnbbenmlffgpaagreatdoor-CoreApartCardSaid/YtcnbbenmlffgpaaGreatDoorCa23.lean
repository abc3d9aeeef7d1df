/- CoreApart returns true at every input. No condition. Part of its proof. -/
import Derived.Test.YtcnbbenmlffgpaaGreatDoorCa22
import Derived.Deep.Cut
import Derived.Test.YtcnbbenmlffgpaaGreatDoorCa01
import Derived.Lib.LaidTab
import Derived.LaidMore
import Derived.MakeChecks
import Derived.Stop.LaidErr
import Derived.Test.YtcnbbenmlffgpaaGreatDoorRows
import Derived.Test.YtcnbbenmlffgpaaGreatDoorCa18
import Derived.WalkKit
import Derived.ProofKit
import Derived.OpenShut
import Derived.ShutString
import Derived.Below
import Derived.Stop.Joined
set_option linter.unusedVariables false
/- The law CoreApart is true. Conditions: the package-level variables lie, the acts are read. -/
namespace Go.Proofs.YtcnbbenmlffgpaaGreatDoor
open Go.RowKit Go.Shelf

theorem ap_new {w w1 : World} (henv : Env w) (hb : Below w.heap.size w w1) (lim n : Nat) (hl0 : 64 ≤ lim) (hl1 : lim ≤ 65536) (hn0 : 1 ≤ n) (hn1 : n ≤ 16) : Calls Tryz.prog 13 #[.int .i64 65536, .int .i64 (lim : Int), .int .i64 (n : Int)] w1 fun r w2 => ∃ c : Nat, r = .returned (.pointer (some ⟨c, 0, none⟩)) ∧ ApAt c 1 0 w w2 := by
  have h16 : ((2 ^ (6 + 10) : Nat) : Int) = 65536 := by decide
  have h1 := cnew_any (Sep.nil (henv.below hb)) 6 (by omega) (by omega) (lim : Int) (by omega) (by rw [h16]; omega) n hn0 hn1
  rw [h16] at h1
  refine h1.mono ?_
  rintro r w2 ⟨S, rfl, hf, st⟩
  have st1 : Step [] S.hl w1 w2 := by simpa using st
  exact ⟨S.c, rfl, S, [], rfl, hf.top, hf.ok, ((Sep.nil henv).grown hb).trans st1⟩
set_option maxHeartbeats 16000000 in
set_option maxRecDepth 100000 in
theorem apart_any {w : World} (henv : Env w) (li : Nat) (hli : li < 65536) (pd : Nat) (hpd : pd < 256) (a0 : Option Addr) (len cap : Nat) (A : Nat → A5) (hA : IsA5 w a0 len A) : Calls Tryz.prog 8 #[.int .u16 (li : Int), .int .u8 (pd : Int), .slice a0 len cap] w (Told w (.bool true)) := by
  have hal := alive16_any henv
  have hp0 : (0 : Int) ≤ (pd : Int) := by omega
  have hp1 : (pd : Int) < 256 := by omega
  have hq0 : (0 : Int) ≤ (li : Int) := by omega
  have hq1 : (li : Int) < 65536 := by omega
  have hper : 1 ≤ 1 + pd % 16 ∧ 1 + pd % 16 ≤ 16 := by omega
  have hlmt : 64 ≤ 64 + li % 65473 ∧ 64 + li % 65473 ≤ 65536 := by omega
  have hmod : (1 : Int) + (pd : Int).tmod 16 = (((1 + pd % 16 : Nat) : Nat) : Int) := by
    rw [Int.tmod_eq_emod_of_nonneg hp0]; omega
  have hmod2 : (1 : Int) + (pd : Int) % 16 = (((1 + pd % 16 : Nat) : Nat) : Int) := by omega
  have hmol : (64 : Int) + (li : Int).tmod 65473 = (((64 + li % 65473 : Nat) : Nat) : Int) := by
    rw [Int.tmod_eq_emod_of_nonneg hq0]; omega
  have hmol2 : (64 : Int) + (li : Int) % 65473 = (((64 + li % 65473 : Nat) : Nat) : Int) := by omega
  generalize (1 + pd % 16 : Nat) = n at *
  generalize (64 + li % 65473 : Nat) = lm at *
  have HAl : Hid (∀ r w1, Told w (.bool true) r w1 → r = .returned (.bool true) ∧ Below w.heap.size w w1) := fun r w1 h => ⟨h.1, h.2⟩
  have HNw : Hid (∀ w1, Below w.heap.size w w1 → _) := fun w1 hb => ap_new henv hb lm n hlmt.1 hlmt.2 hper.1 hper.2
  have HMod := hidden hmod
  have HMod2 := hidden hmod2
  have HMol := hidden hmol
  have HMol2 := hidden hmol2
  have HA := hidden hA
  clear henv hA hpd hli hmod hmod2 hmol hmol2 hlmt hper
  go_enter Tryz.func8, Tryz.ntmps8
  go_wp2_with fail
  refine hal.mono ?_
  intro r w1 hx
  obtain ⟨rfl, hb1⟩ := HAl.out _ _ hx
  have HNew := hidden (HNw.out w1 hb1)
  have HB1 := hidden hb1
  clear hx hb1 hal HAl HNw
  by_cases h60 : 80 < len
  · have HR : Hid (Told w (.bool true) (.returned (.bool true)) w1) := ⟨rfl, HB1.out⟩
    have h60i : (80 : Int) < len := by omega
    clear h60
    go_wp2_with fail
    first | exact HR.out | (go_ret; exact HR.out)
  have hlen : (len : Int) ≤ 80 := by omega
  have hd60 : decide ((80 : Int) < (len : Int)) = false := by rw [decide_eq_false_iff_not]; omega
  clear h60
  go_wp2_with fail
  first | rw [HMod2.out] | rw [HMod.out]
  first | rw [HMol2.out] | rw [HMol.out]
  refine HNew.out.mono ?_
  rintro r w2 ⟨c, rfl, hst0⟩
  have HS0 := hidden hst0
  clear hst0 HNew hp0 hp1 hq0 hq1
  go_wp2_with fail
  go_loopg [8] len (fun gk iv wr => ∃ (i : Nat), iv = .int .i64 i ∧ i + gk = len ∧ ApAt c (1 + i) (20 * i) w wr)
  case atStart => exact ⟨0, rfl, Nat.zero_add _, HS0.out⟩
  case round =>
    clear HS0
    obtain ⟨i, rfl, hig, hst⟩ := hrel
    have HIg := hidden hig
    by_cases hlt : i < len
    · obtain ⟨g, off, rfl, b0, b1, b2, b3, b4, wf⟩ := HA.out.read hst.fresh hlt
      have hpl := ap_play hst (by omega) (by omega) (A i) wf
      generalize (A i).kind = ak at *
      generalize (A i).n = an at *
      generalize (A i).k = akk at *
      generalize (A i).m = am at *
      generalize (A i).h = ah at *
      have HPl := hidden hpl
      have hii : (i : Int) < (len : Int) := by omega
      clear hpl hst wf hig
      go_wp2_with fail
      refine HPl.out.mono ?_
      rintro r w3 ⟨rfl, hst3⟩
      have HS3 := hidden hst3
      clear hst3 HPl b0 b1 b2 b3 b4
      go_wp2_with fail
      go_roundg (len - (i + 1))
      case measure => have := HIg.out; omega
      case rel => exact ⟨i + 1, by go_num, by have := HIg.out; omega, by rw [show 1 + (i + 1) = 1 + i + 1 by omega, show 20 * (i + 1) = 20 * i + 20 by omega]; exact HS3.out⟩
    · obtain rfl : i = len := by omega
      obtain ⟨S, fr, hSc, htop, ok0, st⟩ := hst
      have ok : S.Ok fr 81 1600 := ok0.mono (by omega) (by omega)
      have sta := ap_array st
      have hal := ap_all ok sta
      rw [hSc] at hal
      have HAl := hidden hal
      have HOk := hidden ok
      have HSc := hidden hSc
      have HTop := hidden htop
      have hz := zero_came
      clear hal ok ok0 st sta hSc htop hig HIg HA HB1 HMod HMod2 HMol HMol2
      go_upto_region 12 with fail
      generalize hZ : (boolsM 65536 fun _ => false).toArray = Z at *
      generalize hbz : wr.heap.size = b at *
      iterate 8 (first | refine wpList_allocZ rfl 100 rfl _ rfl b hbz Z hz ?_ | go_step)
      generalize hw4 : wr.alloc (.cells Z 100) = w4 at *
      clear hw4 hbz hz hZ
      go_wp2_with fail
      refine HAl.out.mono ?_
      rintro r w5 ⟨OB, oa, oc, hOB, rfl, hap⟩
      have HOB := hidden hOB
      have HAp := hidden hap
      have hpos : 0 < OB.length := by
        rw [← hOB, List.length_map]; exact obL_pos HOk.out
      have hobl2 : OB.length ≤ 512 := by
        rw [← hOB, List.length_map]; exact obL_len (by rw [HOk.out.inv.len]; omega)
      clear hOB hap HAl
      generalize hobl : OB.length = obl at *
      have HObl := hidden hobl
      have hobi : (obl : Int) ≤ 512 := by omega
      have hpoi : (0 : Int) < (obl : Int) := by omega
      have hpod : decide ((0 : Int) < (obl : Int)) = true := by simpa using hpoi
      clear hobl
      go_wp2_with fail
      go_loopg [11] obl (fun gi iv wi => ∃ j : Nat, iv = .int .i64 (j : Int) ∧ j + gi = obl ∧ ApS S b (covI ((OB.map obIv).take j)) OB oa [] none w wi)
      case atStart => exact ⟨0, rfl, Nat.zero_add _, HAp.out⟩
      case round =>
        clear HAp
        obtain ⟨j, rfl, hjg, hap⟩ := hrel
        have HJg := hidden hjg
        clear hjg
        by_cases hjl : j < obl
        · have hm : j < OB.length := by have := HObl.out; omega
          have hx : OB[j]? = some OB[j] := List.getElem?_eq_getElem hm
          generalize OB[j] = p at hx
          obtain ⟨go, rfl, o0, o1, o2⟩ := hap.ob hx
          obtain ⟨hpk, hin, hk8, hk8', hoff, htk⟩ := ap_ob HOk.out HTop.out HOB.out hx
          have hcost := fun wx => cost16_all wx hpk
          have hcb := costK_some hpk
          have hapa := hap.grown ((Below.refl _ _).alloc (Nat.le_refl _) (.cells #[.int .i64 (p.kind : Int), .int .i64 (p.at_ : Int), .int .i64 (p.fac : Int)] 39))
          have hbx := Cells.new wr 39 [.int .i64 (p.kind : Int), .int .i64 (p.at_ : Int), .int .i64 (p.fac : Int)]
          have hbne : wr.heap.size ≠ b := by
            have := hap.cells.lt
            omega
          have HApa := hidden hapa
          have HBx := hidden hbx
          have HOff := hidden hoff
          have HTk := hidden htk
          have HCost := hidden hcost
          have HBne := hidden hbne
          have hji : (j : Int) < (obl : Int) := by omega
          clear hap hx hm hpk hoff htk hcost hapa hbx hbne
          generalize p.kind = pk at *
          generalize p.at_ = pa at *
          generalize p.fac = pf at *
          generalize hck : costK pk = ck at *
          have hck1 : (ck : Int) ≤ 1024 := by omega
          have hpa1 : (pa : Int) + (ck : Int) ≤ 65536 := by omega
          have hpa2 : (pa : Int) ≤ 65536 := by omega
          have hpan : (0 : Int) ≤ (pa : Int) := by omega
          go_upto_region 18 with fail
          generalize hw6 : wr.alloc (.cells #[.int .i64 (pk : Int), .int .i64 (pa : Int), .int .i64 (pf : Int)] 39) = w6 at *
          have hbx6 : Cells w6 wr.heap.size 39 [.int .i64 (pk : Int), .int .i64 (pa : Int), .int .i64 (pf : Int)] := HBx.out
          generalize hbo : wr.heap.size = bo at *
          have c0 := hbx6.cell 0 _ rfl
          have c1 := hbx6.cell 1 _ rfl
          have HBx6 := hidden hbx6
          clear hw6 hbo HBx hbx6 o0 o1 o2
          go_wp2_with fail
          refine (HCost.out _).mono ?_
          rintro r w' ⟨rfl, rfl⟩
          have d0 : decide ((pa : Int) < 0) = false := by rw [decide_eq_false_iff_not]; omega
          have d1 : decide ((65536 : Int) - (ck : Int) < (pa : Int)) = false := by rw [decide_eq_false_iff_not]; omega
          have hr0 : (0 : Int) ≤ (pa : Int) % 1024 := by omega
          have hr1 : (pa : Int) % 1024 < 1024 := by omega
          have hcase : (((((pk : Nat) : Int) != 8) = false ∧ (((pk : Nat) : Int) == 8) = true ∧ ((pa : Int) % 1024 != 0) = false)) ∨ ((((pk : Nat) : Int) != 8) = true ∧ (((pk : Nat) : Int) == 8) = false ∧ decide ((pa : Int) % 1024 < 64) = false ∧ decide ((1024 : Int) < (pa : Int) % 1024 + (ck : Int)) = false) := by
            by_cases h8 : pk = 8
            · left
              have := hk8' h8
              refine ⟨by simp; omega, by simp; omega, ?_⟩
              have : (pa : Int) % 1024 = 0 := by omega
              simp [this]
            · right
              obtain ⟨q1, q2⟩ := hk8 h8
              refine ⟨by simp; omega, by simp; omega, ?_, ?_⟩
              · rw [decide_eq_false_iff_not]; omega
              · rw [decide_eq_false_iff_not]; omega
          clear hk8 hk8' hin hcb
          rcases hcase with ⟨k1, k2, k3⟩ | ⟨k1, k2, k3, k4⟩
          all_goals
            go_wp2_with fail
            go_loopg [14] ck (fun gi yv wi => ∃ y : Nat, yv = .int .i64 (y : Int) ∧ pa ≤ y ∧ y + gi = pa + ck ∧ ApS S b (partI ((OB.map obIv).take j) pa y) OB (some ⟨go, 0, none⟩) [] none w wi ∧ Cells wi bo 39 [.int .i64 (pk : Int), .int .i64 (pa : Int), .int .i64 (pf : Int)])
            case atStart => exact ⟨pa, rfl, Nat.le_refl _, rfl, by rw [partI_start]; exact HApa.out, HBx6.out⟩
            case round =>
              clear HApa c0 c1 HBx6
              obtain ⟨y, rfl, hy0, hyg, hap, hbx⟩ := hrel
              have HYg := hidden hyg
              have HApy := hidden hap
              have HBxy := hidden hbx
              have c1 := hbx.cell 1 _ rfl
              by_cases hyl : y < pa + ck
              · have hy5 : y < 65536 := by omega
                have cb := hap.cell hy5
                rw [partI_off HOff.out hy0 hyl] at cb
                have cf := hap.free y
                have hst := hap.set y
                rw [partI_next _ hy0] at hst
                have HSt := hidden hst
                have HBs := hidden (hbx.set_other ⟨b, y, none⟩ (.bool true) HBne.out)
                have hyi : (y : Int) < (pa : Int) + (ck : Int) := by omega
                have hyi5 : (y : Int) < 65536 := by omega
                have hyi0 : (0 : Int) ≤ (y : Int) := by omega
                clear hap hbx hst hyg
                go_wp2_with fail
                go_roundg (pa + ck - (y + 1))
                case measure => have := HYg.out; omega
                case rel => exact ⟨y + 1, by go_num, by omega, by have := HYg.out; omega, HSt.out, HBs.out⟩
              · obtain rfl : y = pa + ck := by omega
                rw [partI_end, ← HTk.out] at hap
                have HNx := hidden hap
                have hyi : ¬ ((pa : Int) + (ck : Int) < (pa : Int) + (ck : Int)) := by omega
                have hyc : ((pa + ck : Nat) : Int) = (pa : Int) + (ck : Int) := by omega
                clear hap hbx hyg HApy HBxy
                go_wp2_with fail
                go_roundg (obl - (j + 1))
                case measure => have := HJg.out; omega
                case rel => exact ⟨j + 1, by go_num, by have := HJg.out; omega, HNx.out⟩
        · obtain rfl : j = obl := by have := HJg.out; omega
          obtain ⟨pp, bb, m1, q1, f1⟩ := ap_free HOk.out hap
          rw [HSc.out] at m1
          rw [List.take_of_length_le (by rw [List.length_map, HObl.out]; exact Nat.le_refl _)] at f1
          have HM1 := hidden m1
          have HQ1 := hidden q1
          have HF1 := hidden f1
          clear hap m1 q1 f1
          go_wp2_with fail
          refine HM1.out.mono ?_
          rintro r w' ⟨rfl, rfl⟩
          clear HM1
          go_wp2_with fail
          refine HQ1.out.mono ?_
          rintro r w' ⟨rfl, rfl⟩
          clear HQ1
          go_wp2_with fail
          refine HF1.out.mono ?_
          rintro r w6 ⟨F, fa, fc, rfl, hF, hap⟩
          have HAp := hidden hap
          have HF := hidden hF
          have hflen : F.length ≤ 33554432 := hF.len
          clear hap hF HF1
          generalize hfl : F.length = fl at *
          have HFl := hidden hfl
          have hfli : (fl : Int) ≤ 33554432 := by omega
          clear hfl
          go_wp2_with fail
          go_loopg [16] fl (fun gi iv wi => ∃ m : Nat, iv = .int .i64 (m : Int) ∧ m + gi = fl ∧ ApS S b (covI (OB.map obIv ++ (F.map blIv).take m)) OB oa F fa w wi)
          case atStart => exact ⟨0, rfl, Nat.zero_add _, by rw [List.take_zero, List.append_nil]; exact HAp.out⟩
          case round =>
            clear HAp
            obtain ⟨m, rfl, hmg, hap⟩ := hrel
            have HMg := hidden hmg
            clear hmg
            by_cases hml : m < fl
            · have hm : m < F.length := by have := HFl.out; omega
              have hx : F[m]? = some F[m] := List.getElem?_eq_getElem hm
              generalize F[m] = x at hx
              obtain ⟨gf, rfl, o0, o1⟩ := hap.bl hx
              obtain ⟨hord, hin, hoff, htk⟩ := ap_bl HOk.out HTop.out HOB.out HF.out hx
              have HOff := hidden hoff
              have HTk := hidden htk
              have HAps := hidden hap
              have HX := hidden hx
              have hmi : (m : Int) < (fl : Int) := by omega
              clear hap hx hm hoff htk
              generalize hx1 : x.1 = pa at *
              generalize hx2 : x.2 = od at *
              have HX1 := hidden hx1
              have HX2 := hidden hx2
              generalize hck : 1024 * 2 ^ od = ck at *
              have hodc : od = 0 ∧ ck = 1024 ∨ od = 1 ∧ ck = 2048 ∨ od = 2 ∧ ck = 4096 ∨ od = 3 ∧ ck = 8192 ∨ od = 4 ∧ ck = 16384 ∨ od = 5 ∧ ck = 32768 ∨ od = 6 ∧ ck = 65536 := by
                have : od = 0 ∨ od = 1 ∨ od = 2 ∨ od = 3 ∨ od = 4 ∨ od = 5 ∨ od = 6 := by omega
                rcases this with rfl | rfl | rfl | rfl | rfl | rfl | rfl <;> simp at hck <;> omega
              have hck1 : (ck : Int) ≤ 65536 := by omega
              have hpa1 : (pa : Int) + (ck : Int) ≤ 65536 := by omega
              have hpa2 : (pa : Int) ≤ 65536 := by omega
              have hpan : (0 : Int) ≤ (pa : Int) := by omega
              clear hck hx1 hx2
              go_upto_region 31 with fail
              go_cut [17] from 127 to 134 (fun v wx => v = .int .i64 (ck : Int) ∧ wx = wr)
              case first =>
                rcases hodc with ⟨rfl, rfl⟩ | ⟨rfl, rfl⟩ | ⟨rfl, rfl⟩ | ⟨rfl, rfl⟩ | ⟨rfl, rfl⟩ | ⟨rfl, rfl⟩ | ⟨rfl, rfl⟩
                all_goals
                  go_wp2_with fail
                  go_meet
                  exact ⟨by first | kernel_rfl | decide, rfl⟩
              case rest =>
                obtain ⟨rfl, rfl⟩ := hcut
                have d0 : decide ((pa : Int) < 0) = false := by rw [decide_eq_false_iff_not]; omega
                have d1 : decide ((65536 : Int) - (ck : Int) < (pa : Int)) = false := by rw [decide_eq_false_iff_not]; omega
                clear hodc hord
                go_wp2_with fail
                go_loopg [18] ck (fun gi yv wi => ∃ y : Nat, yv = .int .i64 (y : Int) ∧ pa ≤ y ∧ y + gi = pa + ck ∧ ApS S b (partI (OB.map obIv ++ (F.map blIv).take m) pa y) OB oa F (some ⟨gf, 0, none⟩) w wi)
                case atStart => exact ⟨pa, rfl, Nat.le_refl _, rfl, by rw [partI_start]; exact HAps.out⟩
                case round =>
                  clear HAps o0 o1
                  obtain ⟨y, rfl, hy0, hyg, hap⟩ := hrel
                  have HYg := hidden hyg
                  have HApy := hidden hap
                  obtain ⟨gf', e1, o0, o1⟩ := hap.bl HX.out
                  cases e1
                  rw [HX1.out] at o0
                  by_cases hyl : y < pa + ck
                  · have hy5 : y < 65536 := by omega
                    have cb := hap.cell hy5
                    rw [partI_off HOff.out hy0 hyl] at cb
                    have cf := hap.free y
                    have hst := hap.set y
                    rw [partI_next _ hy0] at hst
                    have HSt := hidden hst
                    have hyi : (y : Int) < (pa : Int) + (ck : Int) := by omega
                    have hyi5 : (y : Int) < 65536 := by omega
                    have hyi0 : (0 : Int) ≤ (y : Int) := by omega
                    clear hap hst hyg
                    go_wp2_with fail
                    go_roundg (pa + ck - (y + 1))
                    case measure => have := HYg.out; omega
                    case rel => exact ⟨y + 1, by go_num, by omega, by have := HYg.out; omega, HSt.out⟩
                  · obtain rfl : y = pa + ck := by omega
                    rw [partI_end, ← HTk.out] at hap
                    have HNx := hidden hap
                    have hyi : ¬ ((pa : Int) + (ck : Int) < (pa : Int) + (ck : Int)) := by omega
                    have hyc : ((pa + ck : Nat) : Int) = (pa : Int) + (ck : Int) := by omega
                    clear hap hyg HApy
                    go_wp2_with fail
                    go_roundg (fl - (m + 1))
                    case measure => have := HMg.out; omega
                    case rel => exact ⟨m + 1, by go_num, by have := HMg.out; omega, HNx.out⟩
            · obtain rfl : m = fl := by have := HMg.out; omega
              have HR : Hid (Told w (.bool true) (.returned (.bool true)) wr) := ⟨rfl, hap.fresh⟩
              clear hap
              go_wp2_with fail
              first | exact HR.out | (go_ret; exact HR.out)
end Go.Proofs.YtcnbbenmlffgpaaGreatDoor

/- What the row's listed variables say of memory: the tables lie. No condition. -/
namespace Go.Proofs.YtcnbbenmlffgpaaGreatDoor
open Go.RowKit

def laids : List (String × DataW Unit) := [("math/bits.deBruijn32tab", Rows.laid_math_bits_deBruijn32tab), ("math/bits.deBruijn64tab", Rows.laid_math_bits_deBruijn64tab), ("quartermaster/pool.costs", Rows.laid_quartermaster_pool_costs)]
def dbt32 : List Int := [0, 1, 28, 2, 29, 14, 24, 3, 30, 22, 20, 15, 25, 17, 4, 8, 31, 27, 13, 23, 21, 19, 16, 7, 26, 12, 18, 6, 11, 5, 10, 9]
theorem g32 : Tryz.prog.globalNamed "math/bits.deBruijn32tab" = some 2 := by kernel_rfl
theorem t32 : (Tryz.prog.globals[2]?).map (·.type) = some 264 := by kernel_rfl
theorem g64 : Tryz.prog.globalNamed "math/bits.deBruijn64tab" = some 1 := by kernel_rfl
theorem gCost : Tryz.prog.globalNamed "quartermaster/pool.costs" = some 0 := by kernel_rfl
theorem t64 : (Tryz.prog.globals[1]?).map (·.type) = some 239 := by kernel_rfl
theorem tCost : (Tryz.prog.globals[0]?).map (·.type) = some 176 := by kernel_rfl
theorem env_of_laid {W : World} (h : laidMetH Tryz.prog laids W) : Env W := by
  rw [MakeChecks.laidMetH_plain _ _ _ (by kernel_rfl)] at h
  have h1 : laidMet Tryz.prog (("math/bits.deBruijn32tab", Lib.tabData .u8 dbt32) :: [("math/bits.deBruijn64tab", Rows.laid_math_bits_deBruijn64tab), ("quartermaster/pool.costs", Rows.laid_quartermaster_pool_costs)]) W := h
  have hA := Lib.tabIs_of_head g32 t32 Tryz.underlying264 Tryz.underlying5 (by kernel_rfl) (by kernel_rfl) h1
  have h2 : laidMet Tryz.prog (("math/bits.deBruijn64tab", Lib.tabData .u8 (dbt.map fun (n : Nat) => (n : Int))) :: [("quartermaster/pool.costs", Rows.laid_quartermaster_pool_costs)]) W := laidMet.tail h1
  have h3 : laidMet Tryz.prog (("quartermaster/pool.costs", Lib.tabData .i64 costL) :: []) W := laidMet.tail h2
  have hB := Lib.tabIs_of_head g64 t64 Tryz.underlying239 Tryz.underlying5 (by kernel_rfl) (by kernel_rfl) h2
  have hC := Lib.tabIs_of_head gCost tCost Tryz.underlying176 Tryz.underlying3 (by kernel_rfl) (by kernel_rfl) h3
  have cB : TabB W := by
    intro j v hv
    have hj := (List.getElem?_eq_some_iff.1 hv).1
    have := hB.cell g64 j (by simpa using hj)
    rw [this]
    congr 2
    simp [List.getD, hv]
  have cC : TabC W := by
    intro j v hv
    have hj := (List.getElem?_eq_some_iff.1 hv).1
    have := hC.cell gCost j (by simpa using hj)
    rw [this]
    congr 2
    simp [List.getD, hv]
  refine ⟨?_, cB, cC⟩
  have c0 := World.block_lt_of_cell? W ⟨1, 0, none⟩ (cB 0 0 rfl)
  have c1 := World.block_lt_of_cell? W ⟨0, 0, none⟩ (cC 0 0 rfl)
  have c2 := World.block_lt_of_cell? W ⟨2, 0, none⟩ (hA.cell g32 0 (by decide))
  have c0' : 1 < W.heap.size := c0
  have c1' : 0 < W.heap.size := c1
  have c2' : 2 < W.heap.size := c2
  unfold GB
  omega
end Go.Proofs.YtcnbbenmlffgpaaGreatDoor

/-
  CoreApart returns true at every input, whatever lies in memory, where the listed variables lie as laid.
  By hand, after the frame of the guide's worked examples. Not trusted: Lean checks it.
-/
namespace Go.Proofs.YtcnbbenmlffgpaaGreatDoor.coreApart
open Go.ChangeShapes Go.WideShapes Go.ChangeAt Go.RowKit
set_option linter.unusedVariables false

theorem own : ownKnob Tryz.prog.godebug = none := by kernel_rfl
theorem laidOut : laidOutB Tryz.prog = true := by kernel_rfl
/-- The door's own heap meets the condition: closed facts. -/
theorem door_met (os : Os) (args : Array Value) : laidMetH Tryz.prog laids ((World.doorLaid Tryz.prog 400 os).forCall (fun _ _ => 0) ⟨#[], args, []⟩).memory :=
  laidMetH_of_parts3 (fuel := 8) (laidMet_of_run' 8 (by kernel_rfl) (by kernel_rfl)) (by kernel_rfl) (by kernel_rfl)

set_option maxRecDepth 100000 in
theorem lifted (os : Os) (started : os.Started) (H : Type) (enc : TypeId × Value → H) :
    ReturnsInHanded {} Tryz.checked os 8 .any (fun w args => (Rows.coreApartSpec.pre enc Tryz.prog Tryz.f8 [] false w args ∧ laidMetH Tryz.prog laids w) ∧ sizedMet enc Tryz.prog Tryz.f8 (OpenSpec.ofChange Rows.coreApartSpec) false w args)
      (Rows.coreApartSpec.post enc Tryz.prog Tryz.f8 false true false false) := by
  refine returnsInHanded_of_change_and (C := Tryz.checked) (X := fun w _ => laidMetH Tryz.prog laids w) (fun _ _ _ hh h => h.of_heap hh) own started (by kernel_rfl) Tryz.func8
    (ChangeSpec.witness_shaped (enc := enc) (C := Tryz.checked) (os := os) (X := fun w _ => laidMetH Tryz.prog laids w) false (World.doorLaid Tryz.prog 400 os) #[.int .u16 0, .int .u8 0, .slice none 0 0] 8 rfl (World.shaped_of_RefB (by kernel_rfl) (by kernel_rfl)) (by kernel_rfl) (by kernel_rfl) (by kernel_rfl) (door_met os _)) ?_
  intro W base args ds gs before hval0 hW _ _ hL _
  have hval : ∀ (j : Nat) t v, Tryz.f8.params[j]? = some t → args[j]? = some v → Value.okWide Tryz.prog W .any base t v := hval0
  have hW' := hW
  obtain ⟨p, q, hA0, hV, rfl, hfz, hnd⟩ := hW
  have hA : DataW.TrodAll enc Tryz.prog W 0 (fun _ => true) true Tryz.f8.params.toList args.toList ds p := hA0
  rw [Tryz.params8] at hA hval
  obtain ⟨v0, v1, v2, d0, d1, d2, p0, p1, p2, rfl, rfl, rfl, h0, h1, h2⟩ := trodAll_three hA
  obtain ⟨rfl, rfl⟩ := trodVars_none hV
  obtain ⟨n0, rfl, rfl, rfl, wf0⟩ := open_int Tryz.underlying49 (hval 0 49 v0 rfl rfl) h0
  have hb0 : 0 ≤ n0 ∧ n0 < 65536 := by
    have := bounds_u16 wf0
    omega
  obtain ⟨m0, rfl⟩ := Int.eq_ofNat_of_zero_le hb0.1
  obtain ⟨n1, rfl, rfl, rfl, wf1⟩ := open_int Tryz.underlying5 (hval 1 5 v1 rfl rfl) h1
  have hb1 : 0 ≤ n1 ∧ n1 < 256 := by
    have := bounds_u8 wf1
    omega
  obtain ⟨m1, rfl⟩ := Int.eq_ofNat_of_zero_le hb1.1
  obtain ⟨a2, len2, cap2, rfl⟩ := okWide_slice Tryz.underlying22 (hval 2 22 v2 rfl rfl)
  have k2 := h2
  have lt2 : ∀ x ∈ p2, x.block < W.heap.size := by obtain ⟨m, hm⟩ := k2; exact DataW.trod_lt m _ _ _ hm
  obtain ⟨A2, hAct2⟩ : ∃ A, IsA5 W a2 len2 A := by
    obtain ⟨fuel, hf⟩ := h2
    exact open_acts5 (by simpa [Value.cells] using hf)
  clear hA0 hval0
  refine (apart_any (env_of_laid hL) m0 (by omega) m1 (by omega) a2 len2 cap2 A2 hAct2).mono fun e W' ⟨he, bel⟩ => ?_
  subst he
  exact ⟨_, rfl, _, _, _, [], _, [], hW', trodAll_mk1 (shut_bool Tryz.underlying4 _), trodAll_mk3 (shut_int Tryz.underlying49 wf0) (shut_int Tryz.underlying5 wf1) (Below.trod laidOut (by kernel_rfl) (of_decide_eq_true (by kernel_rfl)) k2 bel lt2), rfl, bel.frame _, fun h => by cases h⟩

theorem over : Rows.coreApartRow.holds Tryz.pinned (OpenSpec.ofChange Rows.coreApartSpec) :=
  OpenClaim.holds_of_wide 8 Tryz.f8 rfl rfl rfl rfl rfl rfl rfl ⟨rfl, rfl, rfl, rfl, rfl⟩ rfl rfl rfl rfl rfl (by kernel_rfl) Tryz.func8 (by kernel_rfl)
    (of_decide_eq_true (by kernel_rfl)) (by unfold Func.isWrapper; first | (rw [if_pos (by decide +kernel)]; kernel_rfl) | (rw [if_neg (by decide +kernel)]; exact ⟨rfl, rfl⟩))
    (fun os started H enc _ => lifted os started H enc)

/-- THE ROW. -/
theorem proved : Rows.CoreApartSaid := over
end Go.Proofs.YtcnbbenmlffgpaaGreatDoor.coreApart
