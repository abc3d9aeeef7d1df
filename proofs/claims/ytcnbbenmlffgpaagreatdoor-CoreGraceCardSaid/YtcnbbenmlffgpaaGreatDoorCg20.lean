/- CoreGrace returns true at every input: a doomed object is a zombie till just the tick that the period tells. No condition. Part of its proof. -/
import Derived.Test.YtcnbbenmlffgpaaGreatDoorCg19
import Derived.Deep.RegionHeld3
import Derived.Deep.Cut
import Derived.StillTailTactics
import Derived.Test.YtcnbbenmlffgpaaGreatDoorCg01
import Derived.Lib.LaidTab
import Derived.LaidMore
import Derived.MakeChecks
import Derived.Stop.LaidErr
import Derived.Test.YtcnbbenmlffgpaaGreatDoorRows
import Derived.Test.YtcnbbenmlffgpaaGreatDoorCg17
import Derived.WalkKit
import Derived.ProofKit
import Derived.OpenShut
import Derived.ShutString
import Derived.Below
import Derived.Stop.Joined
set_option linter.unusedVariables false
/- The law CoreGrace is true. Conditions: the package-level variables lie, the acts are read. -/
namespace Go.Proofs.YtcnbbenmlffgpaaGreatDoor
open Go.RowKit

set_option maxHeartbeats 16000000 in
set_option maxRecDepth 100000 in
theorem grace_any {w : World} (henv : Env w) (kd : Nat) (hkd : kd < 256) (pd : Nat) (hpd : pd < 256) (a0 : Option Addr) (len cap : Nat) (A : Nat → A5) (hA : IsA5 w a0 len A) : Calls Tryz.prog 6 #[.int .u8 (kd : Int), .int .u8 (pd : Int), .slice a0 len cap] w (Told w (.bool true)) := by
  have hal := alive16_any henv
  have h16 : ((2 ^ (6 + 10) : Nat) : Int) = 65536 := by decide
  have HAl : Hid (∀ r w1, Told w (.bool true) r w1 → r = .returned (.bool true) ∧ Below w.heap.size w w1 ∧ Calls Tryz.prog 13 #[.int .i64 65536, .int .i64 65536, .int .i64 ((1 + pd % 16 : Nat) : Int)] w1 fun r w2 => ∃ c : Nat, r = .returned (.pointer (some ⟨c, 0, none⟩)) ∧
      Calls Tryz.prog 21 #[.pointer (some ⟨c, 0, none⟩), .int .u32 0, .int .i64 ((2 + kd % 4 : Nat) : Int), .int .i64 0] w2 fun r w3 => r = .returned (.tuple #[.int .u32 1, .int .i64 0]) ∧ ∃ (S1 : CO) (q : Pl), q.kind = 2 + kd % 4 ∧ GrL S1 c (1 + pd % 16) q w w3) := by
    rintro r w1 ⟨rfl, hb⟩
    have := cnew_any (Sep.nil (henv.below hb)) 6 (by omega) (by omega) 65536 (by omega) (by rw [h16]; omega) (1 + pd % 16) (by omega) (by omega)
    rw [h16] at this
    refine ⟨rfl, hb, this.mono ?_⟩
    rintro r w2 ⟨S, rfl, hf, st⟩
    have st1 : Step [] S.hl w1 w2 := by simpa using st
    have st2 : Step [] S.hl w w2 := ((Sep.nil henv).grown hb).trans st1
    exact ⟨S.c, rfl, gl_first hf st2 (by omega)⟩
  have HA := hidden hA
  have hp0 : (0 : Int) ≤ (pd : Int) := by omega
  have hp1 : (pd : Int) < 256 := by omega
  have hk0 : (0 : Int) ≤ (kd : Int) := by omega
  have hk1 : (kd : Int) < 256 := by omega
  have HMod : Hid ((1 : Int) + (pd : Int) % 16 = ((1 + pd % 16 : Nat) : Int)) := by show _ = _; omega
  have HMod2 : Hid ((2 : Int) + (kd : Int) % 4 = ((2 + kd % 4 : Nat) : Int)) := by show _ = _; omega
  have hn1 : 1 ≤ 1 + pd % 16 ∧ 1 + pd % 16 ≤ 16 := by omega
  have hkk : 2 ≤ 2 + kd % 4 ∧ 2 + kd % 4 ≤ 5 := by omega
  generalize 1 + pd % 16 = n at *
  generalize 2 + kd % 4 = k at *
  clear henv hA h16 hpd hkd
  go_enter Tryz.func6, Tryz.ntmps6
  go_wp2_with fail
  refine hal.mono ?_
  intro r w1 hx
  obtain ⟨rfl, hb1, hnew⟩ := HAl.out _ _ hx
  have HNew := hidden hnew
  have HB1 := hidden hb1
  clear hx hb1 hnew hal HAl
  by_cases h60 : 40 < len
  · have HR : Hid (Told w (.bool true) (.returned (.bool true)) w1) := ⟨rfl, HB1.out⟩
    have h60i : (40 : Int) < len := by omega
    clear h60
    go_wp2_with fail
    first | exact HR.out | (go_ret; exact HR.out)
  have hlen : (len : Int) ≤ 40 := by omega
  have hd60 : decide ((40 : Int) < (len : Int)) = false := by rw [decide_eq_false_iff_not]; omega
  clear h60
  go_wp2_with fail
  rw [HMod.out]
  refine HNew.out.mono ?_
  rintro r w2 ⟨c, rfl, hx⟩
  have H1 := hidden hx
  clear hx HNew
  go_wp2_with fail
  rw [HMod2.out]
  refine H1.out.mono ?_
  rintro r w3 ⟨rfl, S1, q, hqk, hgl⟩
  clear HMod HMod2 hp0 hp1 hk0 hk1
  have hof := gl_of hgl
  rw [hqk] at hof
  have HOf := hidden hof
  have HQk := hidden hqk
  clear hof hgl H1 hqk
  go_wp2_with fail
  refine HOf.out.mono ?_
  rintro r w4 ⟨rfl, hgl⟩
  have hb0 := Box.new hgl.st.sep q.kind q.at_ q.fac
  have hgl2 := hgl.grown ((Below.refl _ _).alloc (Nat.le_refl _) (.cells #[.int .i64 (q.kind : Int), .int .i64 (q.at_ : Int), .int .i64 (q.fac : Int)] 39))
  rw [HQk.out] at hb0 hgl2
  generalize hw5 : w4.alloc (.cells #[.int .i64 (k : Int), .int .i64 (q.at_ : Int), .int .i64 (q.fac : Int)] 39) = w5 at *
  have HW5 := hidden hw5
  have hlt := hb0.2.1
  generalize hbo : w4.heap.size = bo at *
  have HBo := hidden hbo
  have hgd := hgl2.grown ((Below.refl w5.heap.size w5).drew)
  have hbd : Box S1 bo q.kind q.at_ q.fac w5.drew := by
    rw [HQk.out]; exact hb0.grown ((Below.refl w5.heap.size w5).drew)
  obtain ⟨pp, aa, hme, har, hfi⟩ := gl_fill hgd hbd (by omega)
  rw [HQk.out] at hfi
  have HMe := hidden hme
  have HAr := hidden har
  have HFi := hidden hfi
  have b1 := hb0.2.2.2.1
  have d1 : w5.drew.cell? ⟨bo, 1, none⟩ = some (.int .i64 (q.at_ : Int)) := b1
  have hcp := costK_pos (k := k) (.inr hkk)
  have HCost : Hid (∀ wx : World, Calls Tryz.prog 29 #[.int .i64 (k : Int)] wx fun r w' => r = .returned (.int .i64 ((costK k : Nat) : Int)) ∧ wx = w') := fun wx => cost16_any wx (.inr hkk)
  generalize hck : costK k = ck at *
  have HCkk := hidden hck
  clear hme har hfi hgd hbd hb0 hgl2 hgl hw5 hbo HOf hck
  go_upto_region 11 with fail
  rw [HW5.out, HBo.out]
  go_cut [81] from 53 to 81 (fun v wx => v = .bool false ∧ GrP c n 2 0 0 { q with st := 2 } bo w wx)
  case first =>
    go_region_held3 (fun w' => w'.cell? ⟨bo, 1, none⟩ = some (.int .i64 (q.at_ : Int))) (first | exact b1 | exact d1 | exact f1 | exact f2 | exact f3)
      (first | (go_at_call 24; refine HMe.out.mono ?_; rintro r w' ⟨rfl, rfl⟩) | (go_at_call 25; refine HAr.out.mono ?_; rintro r w' ⟨rfl, rfl⟩) | (go_at_call 29; refine (HCost.out _).mono ?_; rintro r w' ⟨rfl, rfl⟩) | (go_at_call 31; refine HFi.out.mono ?_; rintro r w6 ⟨rfl, f1, hx⟩; have HD1 := hidden hx; clear hx) | (go_at_call 19; first | (refine HD1.out.mono ?_; rintro r w7 ⟨rfl, f2, hx⟩; have HD2 := hidden hx; clear hx) | (refine HD2.out.mono ?_; rintro r w8 ⟨rfl, f3, hx⟩; have HGr := hidden hx; clear hx)))
    go_wp2_with fail
    go_meet
    exact ⟨rfl, by rw [HQk.out]; exact HGr.out⟩
  case rest =>
    obtain ⟨rfl, hgr⟩ := hcut
    have HGr := hidden hgr
    clear hgr HMe HAr HFi b1 d1
    obtain ⟨z, hz⟩ : ∃ z : Pl, z = { q with st := 2 } := ⟨_, rfl⟩
    have hzk : z.kind = k := by rw [hz]; exact HQk.out
    have hza : z.at_ = q.at_ := by rw [hz]
    rw [← hz] at HGr
    have HZk := hidden hzk
    have HZa := hidden hza
    clear hz hzk hza
    go_wp2_with fail
    go_loopg [14] n (fun gk iv wr => ∃ i : Nat, iv = .int .i64 (i : Int) ∧ i + gk = n ∧ ((i < n ∧ GrP c n (2 + i) (21 * i) i z bo w wr) ∨ (i = n ∧ GrE c (2 + i) (21 * i) w wr)))
    case atStart => exact ⟨0, rfl, Nat.zero_add _, .inl ⟨by omega, HGr.out⟩⟩
    case round =>
      clear HGr
      obtain ⟨i, rfl, hig, ⟨hin, S, hgs⟩ | ⟨rfl, hge⟩⟩ := hrel
      · have HIg := hidden hig
        have hany := gr_any hgs
        rw [HZk.out] at hany
        have HAny := hidden hany
        have hii : (i : Int) < (n : Int) := by omega
        clear hany hgs hig
        go_wp2_with fail
        refine HAny.out.mono ?_
        rintro r w6 ⟨rfl, hgs6⟩
        have hbz := Box.new hgs6.st.sep z.kind z.at_ z.fac
        have hgs7 := hgs6.grown ((Below.refl _ _).alloc (Nat.le_refl _) (.cells #[.int .i64 (z.kind : Int), .int .i64 (z.at_ : Int), .int .i64 (z.fac : Int)] 39))
        rw [HZk.out] at hbz hgs7
        generalize hw7 : w6.alloc (.cells #[.int .i64 (k : Int), .int .i64 (z.at_ : Int), .int .i64 (z.fac : Int)] 39) = w7 at *
        have HW7 := hidden hw7
        generalize hbp : w6.heap.size = bp at *
        have HBp := hidden hbp
        have hgs7d := hgs7.grown ((Below.refl w7.heap.size w7).drew)
        obtain ⟨pp2, aa2, hme, har, hrd⟩ := gr_arena hgs7d
        rw [HZk.out] at hrd
        have hck2 : costK k = ck := HCkk.out
        rw [hck2] at hrd
        have HMe := hidden hme
        have HAr := hidden har
        have HRd := hidden hrd
        have HBz := hidden hbz
        have b1 := hgs7.box.2.2.2.1
        have d1 : w7.drew.cell? ⟨bo, 1, none⟩ = some (.int .i64 (z.at_ : Int)) := b1
        clear hme har hrd hbz hgs6 hgs7 hgs7d hw7 hbp HAny hck2
        go_upto_region 17 with fail
        rw [HW7.out, HBp.out]
        go_wp2_with fail
        go_region_held3 (fun w' => w'.cell? ⟨bo, 1, none⟩ = some (.int .i64 (z.at_ : Int))) (first | exact b1 | exact d1 | exact f1)
          (first | (go_at_call 24; refine HMe.out.mono ?_; rintro r w' ⟨rfl, rfl⟩) | (go_at_call 25; refine HAr.out.mono ?_; rintro r w' ⟨rfl, rfl⟩) | (go_at_call 29; refine (HCost.out _).mono ?_; rintro r w' ⟨rfl, rfl⟩) | (go_at_call 30; refine HRd.out.mono ?_; rintro r w8 ⟨gb, capb, rfl, f1, hgb, hzb, hb8, hgs8⟩; have HZb := hidden hzb; have HGb := hidden hgb; have HB8 := hidden hb8; have HG8 := hidden hgs8; clear hzb hgb hb8 hgs8))
        all_goals
          have hbz8 := HBz.out.grown ((Below.refl w7.heap.size w7).drew.trans HB8.out)
          obtain ⟨_, _, p0, p1, p2⟩ := hbz8
          obtain ⟨_, _, o0, o1, o2⟩ := HG8.out.box
          rw [HZk.out] at o0
          have HLf := hidden (gr_left HG8.out (by omega))
          have hni : wrap64 ((n : Int) - (i : Int)) = (n : Int) - (i : Int) := Go.IntWalk.wrap64_in _ (by omega)
          have hni2 : (((n : Int) - (i : Int)) != ((n : Int) - (i : Int))) = false := by simp
          have hcc : (((ck : Nat) : Int) != ((ck : Nat) : Int)) = false := by simp
          clear b1 d1 HMe HAr HRd
          try clear f1
          go_wp2_with fail
          refine HLf.out.mono ?_
          rintro r w9 ⟨rfl, hb9, hgs9⟩
          have HZo := hidden (gr_zombies hgs9)
          have HB9 := hidden hb9
          clear hb9 hgs9 HLf
          go_wp2_with fail
          refine (HCost.out _).mono ?_
          rintro r w' ⟨rfl, rfl⟩
          go_wp2_with fail
          refine HZo.out.mono ?_
          rintro r w10 ⟨za, zl, zcap, rfl, hz0, hz256, hb10, hgs10⟩
          have HG10 := hidden hgs10
          have hzn : ((zl : Nat) : Int) ≠ 0 := by omega
          have hzn2 : (((zl : Nat) : Int) == 0) = false := by simp; omega
          have HRow : Hid (∀ m, m < ck → w10.cell? ⟨gb, m, none⟩ = some (.int .u8 7)) := fun m hm => (World.cell?_of_block (w := w8) ((HB9.out.trans (hb10.mono HB9.out.size)).block gb HGb.out)).trans (HZb.out m hm)
          have hck1 : ((ck : Nat) : Int) ≤ 1024 := by omega
          clear hgs10 hb10 hz0 HZo p0 p1 p2 o0 o1 o2
          go_wp2_with fail
          obtain ⟨gko, hgo⟩ : ∃ g, g = gk := ⟨_, rfl⟩
          subst hgo
          obtain ⟨wo, hwo⟩ : ∃ wo, wo = wr := ⟨_, rfl⟩
          subst hwo
          go_loopg [19] ck (fun gi v wi => ∃ m : Nat, v = .int .i64 (m : Int) ∧ m + gi = ck ∧ wi = w10)
          case atStart => exact ⟨0, rfl, Nat.zero_add _, rfl⟩
          case round =>
            obtain ⟨m, rfl, hmg, rfl⟩ := hrel
            have HMg := hidden hmg
            by_cases hmc : m < ck
            · have hcz := HRow.out m hmc
              have hmi : (m : Int) < (ck : Int) := by omega
              clear hmg
              go_wp2_with fail
              go_roundg (ck - (m + 1))
              case measure => have := HMg.out; omega
              case rel => exact ⟨m + 1, by go_num, by have := HMg.out; omega, rfl⟩
            · obtain rfl : m = ck := by have := HMg.out; omega
              clear hmg hmc HRow
              have hcase : (i < len ∧ (A i).kind ≠ 4) ∨ (i < len ∧ (A i).kind = 4) ∨ ¬ i < len := by omega
              have hb0 : Below w.heap.size w wr := HG10.out.st.fresh
              rcases hcase with ⟨hil, hk4⟩ | ⟨hil, hk4⟩ | hil
              focus
                obtain ⟨g, off, rfl, b0, b1, b2, b3, b4, wf⟩ := HA.out.read hb0 hil
                have hpl := gr_play HG10.out (by omega) (by omega) (by omega) (A i) wf hk4
                have t4 : ((A i).kind != 4) = true := by simpa using hk4
                have hil2 : (i : Int) < (len : Int) := by omega
                generalize (A i).kind = ak at *
                generalize (A i).n = an at *
                generalize (A i).k = akk at *
                generalize (A i).m = am at *
                generalize (A i).h = ah at *
                have HPl := hidden hpl
                clear hpl wf hk4 hb0
                go_wp2_with fail
                refine HPl.out.mono ?_
                rintro r w20 ⟨rfl, hg20⟩
                have HG20 := hidden hg20
                clear hg20 HPl b0 b1 b2 b3 b4
                go_wp2_with fail
              rotate_left
              focus
                obtain ⟨g, off, rfl, b0, b1, b2, b3, b4, wf⟩ := HA.out.read hb0 hil
                rw [hk4] at b0
                have hil2 : (i : Int) < (len : Int) := by omega
                clear b1 b2 b3 b4 wf hb0
                have HG20 : Hid (GrP c n (2 + i + 1) (21 * i + 20) i z bo w wr) := ⟨S, HG10.out.mono (by omega) (by omega)⟩
                obtain ⟨w20, hw20⟩ : ∃ w20, w20 = wr := ⟨_, rfl⟩
                subst hw20
                go_wp2_with fail
              rotate_left
              focus
                have hil2 : decide ((i : Int) < (len : Int)) = false := by rw [decide_eq_false_iff_not]; omega
                have HG20 : Hid (GrP c n (2 + i + 1) (21 * i + 20) i z bo w wr) := ⟨S, HG10.out.mono (by omega) (by omega)⟩
                obtain ⟨w20, hw20⟩ : ∃ w20, w20 = wr := ⟨_, rfl⟩
                subst hw20
                clear hb0
                go_wp2_with fail
              all_goals
                obtain ⟨S2, hg2⟩ := HG20.out
                have hw1 : wrap64 ((n : Int) - 1) = (n : Int) - 1 := Go.IntWalk.wrap64_in _ (by omega)
                by_cases hlast : i + 1 < n
                · have HTk := hidden (gr_tick hg2 (by omega) hlast)
                  have te : (((i : Nat) : Int) == (n : Int) - 1) = false := by simp; omega
                  have tl : decide (((i : Nat) : Int) < (n : Int) - 1) = true := by rw [decide_eq_true_eq]; omega
                  clear hg2
                  refine HTk.out.mono ?_
                  rintro r w21 ⟨⟨tv, tcap, rfl⟩, hg21⟩
                  have HG21 := hidden hg21
                  clear hg21 HTk
                  go_wp2_with fail
                  go_roundg (n - (i + 1))
                  case measure => have := HIg.out; omega
                  case rel => exact ⟨i + 1, by go_num, by have := HIg.out; omega, .inl ⟨hlast, by rw [show 2 + (i + 1) = 2 + i + 1 by omega, show 21 * (i + 1) = 21 * i + 20 + 1 by omega]; exact HG21.out⟩⟩
                · have hin1 : i + 1 = n := by omega
                  have HTk := hidden (gr_tickn hg2 (by omega) hin1)
                  have te : (((i : Nat) : Int) == (n : Int) - 1) = true := by simp; omega
                  have tl : decide (((i : Nat) : Int) < (n : Int) - 1) = false := by rw [decide_eq_false_iff_not]; omega
                  clear hg2
                  refine HTk.out.mono ?_
                  rintro r w21 ⟨⟨tg, tlen, tcap, rfl, htl0, htl1, htc⟩, hg21⟩
                  have HG21 := hidden hg21
                  have tz : (((tlen : Nat) : Int) == 0) = false := by simp; omega
                  have tz2 : (0 : Int) < ((tlen : Nat) : Int) := by omega
                  clear hg21 HTk
                  go_wp2_with fail
                  go_roundg (n - (i + 1))
                  case measure => have := HIg.out; omega
                  case rel => exact ⟨i + 1, by go_num, by have := HIg.out; omega, .inr ⟨hin1, by rw [show 2 + (i + 1) = 2 + i + 1 by omega, show 21 * (i + 1) = 21 * i + 20 + 1 by omega]; exact HG21.out⟩⟩
      · have HEn := hidden (gr_end hge (by omega))
        clear hge hig
        go_wp2_with fail
        refine HEn.out.mono ?_
        rintro r w6 ⟨rfl, hb6, hlf⟩
        have HLf := hidden (hlf _ ((Below.refl w6.heap.size w6).alloc (Nat.le_refl _) (.cells #[.int .i64 0, .int .i64 0, .int .i64 0] 39)))
        clear hb6 hlf HEn
        go_wp2_with fail
        refine HLf.out.mono ?_
        rintro r w7 ⟨rfl, hb7⟩
        have HR : Hid (Told w (.bool true) (.returned (.bool true)) w7) := ⟨rfl, hb7⟩
        clear hb7 HLf
        go_wp2_with fail
        first | exact HR.out | (go_ret; exact HR.out)
end Go.Proofs.YtcnbbenmlffgpaaGreatDoor

/- What the row's listed variables say of memory: the tables lie. No condition. -/
namespace Go.Proofs.YtcnbbenmlffgpaaGreatDoor
open Go.RowKit

def laids : List (String × DataW Unit) := [("math/bits.deBruijn32tab", Rows.laid_math_bits_deBruijn32tab), ("math/bits.deBruijn64tab", Rows.laid_math_bits_deBruijn64tab), ("quartermaster/pool.costs", Rows.laid_quartermaster_pool_costs)]
def dbt32 : List Int := [0, 1, 28, 2, 29, 14, 24, 3, 30, 22, 20, 15, 25, 17, 4, 8, 31, 27, 13, 23, 21, 19, 16, 7, 26, 12, 18, 6, 11, 5, 10, 9]
theorem g32 : Tryz.prog.globalNamed "math/bits.deBruijn32tab" = some 2 := by kernel_rfl
theorem t32 : (Tryz.prog.globals[2]?).map (·.type) = some 264 := by kernel_rfl
theorem g64 : Tryz.prog.globalNamed "math/bits.deBruijn64tab" = some 1 := by kernel_rfl
theorem gCost : Tryz.prog.globalNamed "quartermaster/pool.costs" = some 0 := by kernel_rfl
theorem t64 : (Tryz.prog.globals[1]?).map (·.type) = some 239 := by kernel_rfl
theorem tCost : (Tryz.prog.globals[0]?).map (·.type) = some 176 := by kernel_rfl
theorem env_of_laid {W : World} (h : laidMetH Tryz.prog laids W) : Env W := by
  rw [MakeChecks.laidMetH_plain _ _ _ (by kernel_rfl)] at h
  have h1 : laidMet Tryz.prog (("math/bits.deBruijn32tab", Lib.tabData .u8 dbt32) :: [("math/bits.deBruijn64tab", Rows.laid_math_bits_deBruijn64tab), ("quartermaster/pool.costs", Rows.laid_quartermaster_pool_costs)]) W := h
  have hA := Lib.tabIs_of_head g32 t32 Tryz.underlying264 Tryz.underlying5 (by kernel_rfl) (by kernel_rfl) h1
  have h2 : laidMet Tryz.prog (("math/bits.deBruijn64tab", Lib.tabData .u8 (dbt.map fun (n : Nat) => (n : Int))) :: [("quartermaster/pool.costs", Rows.laid_quartermaster_pool_costs)]) W := laidMet.tail h1
  have h3 : laidMet Tryz.prog (("quartermaster/pool.costs", Lib.tabData .i64 costL) :: []) W := laidMet.tail h2
  have hB := Lib.tabIs_of_head g64 t64 Tryz.underlying239 Tryz.underlying5 (by kernel_rfl) (by kernel_rfl) h2
  have hC := Lib.tabIs_of_head gCost tCost Tryz.underlying176 Tryz.underlying3 (by kernel_rfl) (by kernel_rfl) h3
  have cB : TabB W := by
    intro j v hv
    have hj := (List.getElem?_eq_some_iff.1 hv).1
    have := hB.cell g64 j (by simpa using hj)
    rw [this]
    congr 2
    simp [List.getD, hv]
  have cC : TabC W := by
    intro j v hv
    have hj := (List.getElem?_eq_some_iff.1 hv).1
    have := hC.cell gCost j (by simpa using hj)
    rw [this]
    congr 2
    simp [List.getD, hv]
  refine ⟨?_, cB, cC⟩
  have c0 := World.block_lt_of_cell? W ⟨1, 0, none⟩ (cB 0 0 rfl)
  have c1 := World.block_lt_of_cell? W ⟨0, 0, none⟩ (cC 0 0 rfl)
  have c2 := World.block_lt_of_cell? W ⟨2, 0, none⟩ (hA.cell g32 0 (by decide))
  have c0' : 1 < W.heap.size := c0
  have c1' : 0 < W.heap.size := c1
  have c2' : 2 < W.heap.size := c2
  unfold GB
  omega
end Go.Proofs.YtcnbbenmlffgpaaGreatDoor

/-
  CoreGrace returns true at every input, whatever lies in memory, where the listed variables lie as laid.
  By hand, after the frame of the guide's worked examples. Not trusted: Lean checks it.
-/
namespace Go.Proofs.YtcnbbenmlffgpaaGreatDoor.coreGrace
open Go.ChangeShapes Go.WideShapes Go.ChangeAt Go.RowKit
set_option linter.unusedVariables false

theorem own : ownKnob Tryz.prog.godebug = none := by kernel_rfl
theorem laidOut : laidOutB Tryz.prog = true := by kernel_rfl
/-- The door's own heap meets the condition: closed facts. -/
theorem door_met (os : Os) (args : Array Value) : laidMetH Tryz.prog laids ((World.doorLaid Tryz.prog 400 os).forCall (fun _ _ => 0) ⟨#[], args, []⟩).memory :=
  laidMetH_of_parts3 (fuel := 8) (laidMet_of_run' 8 (by kernel_rfl) (by kernel_rfl)) (by kernel_rfl) (by kernel_rfl)

set_option maxRecDepth 100000 in
theorem lifted (os : Os) (started : os.Started) (H : Type) (enc : TypeId × Value → H) :
    ReturnsInHanded {} Tryz.checked os 6 .any (fun w args => (Rows.coreGraceSpec.pre enc Tryz.prog Tryz.f6 [] false w args ∧ laidMetH Tryz.prog laids w) ∧ sizedMet enc Tryz.prog Tryz.f6 (OpenSpec.ofChange Rows.coreGraceSpec) false w args)
      (Rows.coreGraceSpec.post enc Tryz.prog Tryz.f6 false true false false) := by
  refine returnsInHanded_of_change_and (C := Tryz.checked) (X := fun w _ => laidMetH Tryz.prog laids w) (fun _ _ _ hh h => h.of_heap hh) own started (by kernel_rfl) Tryz.func6
    (ChangeSpec.witness_shaped (enc := enc) (C := Tryz.checked) (os := os) (X := fun w _ => laidMetH Tryz.prog laids w) false (World.doorLaid Tryz.prog 400 os) #[.int .u8 0, .int .u8 0, .slice none 0 0] 8 rfl (World.shaped_of_RefB (by kernel_rfl) (by kernel_rfl)) (by kernel_rfl) (by kernel_rfl) (by kernel_rfl) (door_met os _)) ?_
  intro W base args ds gs before hval0 hW _ _ hL _
  have hval : ∀ (j : Nat) t v, Tryz.f6.params[j]? = some t → args[j]? = some v → Value.okWide Tryz.prog W .any base t v := hval0
  have hW' := hW
  obtain ⟨p, q, hA0, hV, rfl, hfz, hnd⟩ := hW
  have hA : DataW.TrodAll enc Tryz.prog W 0 (fun _ => true) true Tryz.f6.params.toList args.toList ds p := hA0
  rw [Tryz.params6] at hA hval
  obtain ⟨v0, v1, v2, d0, d1, d2, p0, p1, p2, rfl, rfl, rfl, h0, h1, h2⟩ := trodAll_three hA
  obtain ⟨rfl, rfl⟩ := trodVars_none hV
  obtain ⟨n0, rfl, rfl, rfl, wf0⟩ := open_int Tryz.underlying5 (hval 0 5 v0 rfl rfl) h0
  have hb0 : 0 ≤ n0 ∧ n0 < 256 := by
    have := bounds_u8 wf0
    omega
  obtain ⟨m0, rfl⟩ := Int.eq_ofNat_of_zero_le hb0.1
  obtain ⟨n1, rfl, rfl, rfl, wf1⟩ := open_int Tryz.underlying5 (hval 1 5 v1 rfl rfl) h1
  have hb1 : 0 ≤ n1 ∧ n1 < 256 := by
    have := bounds_u8 wf1
    omega
  obtain ⟨m1, rfl⟩ := Int.eq_ofNat_of_zero_le hb1.1
  obtain ⟨a2, len2, cap2, rfl⟩ := okWide_slice Tryz.underlying22 (hval 2 22 v2 rfl rfl)
  have k2 := h2
  have lt2 : ∀ x ∈ p2, x.block < W.heap.size := by obtain ⟨m, hm⟩ := k2; exact DataW.trod_lt m _ _ _ hm
  obtain ⟨A2, hAct2⟩ : ∃ A, IsA5 W a2 len2 A := by
    obtain ⟨fuel, hf⟩ := h2
    exact open_acts5 (by simpa [Value.cells] using hf)
  clear hA0 hval0
  refine (grace_any (env_of_laid hL) m0 (by omega) m1 (by omega) a2 len2 cap2 A2 hAct2).mono fun e W' ⟨he, bel⟩ => ?_
  subst he
  exact ⟨_, rfl, _, _, _, [], _, [], hW', trodAll_mk1 (shut_bool Tryz.underlying4 _), trodAll_mk3 (shut_int Tryz.underlying5 wf0) (shut_int Tryz.underlying5 wf1) (Below.trod laidOut (by kernel_rfl) (of_decide_eq_true (by kernel_rfl)) k2 bel lt2), rfl, bel.frame _, fun h => by cases h⟩

theorem over : Rows.coreGraceRow.holds Tryz.pinned (OpenSpec.ofChange Rows.coreGraceSpec) :=
  OpenClaim.holds_of_wide 6 Tryz.f6 rfl rfl rfl rfl rfl rfl rfl ⟨rfl, rfl, rfl, rfl, rfl⟩ rfl rfl rfl rfl rfl (by kernel_rfl) Tryz.func6 (by kernel_rfl)
    (of_decide_eq_true (by kernel_rfl)) (by unfold Func.isWrapper; first | (rw [if_pos (by decide +kernel)]; kernel_rfl) | (rw [if_neg (by decide +kernel)]; exact ⟨rfl, rfl⟩))
    (fun os started H enc _ => lifted os started H enc)

/-- THE ROW. -/
theorem proved : Rows.CoreGraceSaid := over
end Go.Proofs.YtcnbbenmlffgpaaGreatDoor.coreGrace
