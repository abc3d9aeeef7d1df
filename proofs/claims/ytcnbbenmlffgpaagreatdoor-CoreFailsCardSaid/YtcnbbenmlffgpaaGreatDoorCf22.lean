/- CoreFails returns true at every input. No condition. Part of its proof. -/
import Derived.Test.YtcnbbenmlffgpaaGreatDoorCf21
import Derived.Deep.Cut
import Derived.Deep.RegionHeld3
import Derived.BigQuiet
import Derived.Test.YtcnbbenmlffgpaaGreatDoorCf01
import Derived.Lib.LaidTab
import Derived.LaidMore
import Derived.MakeChecks
import Derived.Stop.LaidErr
import Derived.Carry
import Derived.Test.YtcnbbenmlffgpaaGreatDoorProg
import Derived.Test.YtcnbbenmlffgpaaGreatDoorRows
import Derived.Test.YtcnbbenmlffgpaaGreatDoorCf18
import Derived.WalkKit
import Derived.ProofKit
import Derived.OpenShut
import Derived.ShutString
import Derived.Below
import Derived.Stop.Joined
set_option linter.unusedVariables false
/- The law CoreFails is true. Conditions: the package-level variables lie, the acts are read. -/
namespace Go.Proofs.YtcnbbenmlffgpaaGreatDoor
open Go.RowKit Go.Shelf

theorem fl_new {w w1 : World} (henv : Env w) (hb : Below w.heap.size w w1) (lim : Nat) (hl0 : 64 ≤ lim) (hl1 : lim ≤ 65536) : Calls Tryz.prog 13 #[.int .i64 65536, .int .i64 (lim : Int), .int .i64 3] w1 fun r w2 => ∃ c : Nat, r = .returned (.pointer (some ⟨c, 0, none⟩)) ∧ CoreAt c 1 0 w w2 := by
  have h16 : ((2 ^ (6 + 10) : Nat) : Int) = 65536 := by decide
  have h1 := cnew_any (Sep.nil (henv.below hb)) 6 (by omega) (by omega) (lim : Int) (by omega) (by rw [h16]; omega) 3 (by omega) (by omega)
  rw [h16] at h1
  refine h1.mono ?_
  rintro r w2 ⟨S, rfl, hf, st⟩
  have st1 : Step [] S.hl w1 w2 := by simpa using st
  exact ⟨S.c, rfl, hf.at (((Sep.nil henv).grown hb).trans st1)⟩
set_option maxHeartbeats 16000000 in
set_option maxRecDepth 100000 in
theorem fails_any {w : World} (henv : Env w) (li : Nat) (hli : li < 65536) (a0 : Option Addr) (len cap : Nat) (A : Nat → A5) (hA : IsA5 w a0 len A) (kd : Int) (hkd : -9223372036854775808 ≤ kd ∧ kd ≤ 9223372036854775807) (ov : Int) (hov : -9223372036854775808 ≤ ov ∧ ov ≤ 9223372036854775807) (pd : Nat) (hpd : pd < 256) :
    Calls Tryz.prog 11 #[.int .u16 (li : Int), .slice a0 len cap, .int .i64 kd, .int .i64 ov, .int .u8 (pd : Int)] w (Told w (.bool true)) := by
  have hal := alive16_any henv
  have hp0 : (0 : Int) ≤ (pd : Int) := by omega
  have hp1 : (pd : Int) < 256 := by omega
  have hq0 : (0 : Int) ≤ (li : Int) := by omega
  have hq1 : (li : Int) < 65536 := by omega
  have hlmt : 64 ≤ 64 + li % 65473 ∧ 64 + li % 65473 ≤ 65536 := by omega
  have hmol : (64 : Int) + (li : Int).tmod 65473 = (((64 + li % 65473 : Nat) : Nat) : Int) := by
    rw [Int.tmod_eq_emod_of_nonneg hq0]; omega
  have hmol2 : (64 : Int) + (li : Int) % 65473 = (((64 + li % 65473 : Nat) : Nat) : Int) := by omega
  generalize (64 + li % 65473 : Nat) = lm at *
  have HAl : Hid (∀ r w1, Told w (.bool true) r w1 → r = .returned (.bool true) ∧ Below w.heap.size w w1) := fun r w1 h => ⟨h.1, h.2⟩
  have HNw : Hid (∀ w1, Below w.heap.size w w1 → _) := fun w1 hb => fl_new henv hb lm hlmt.1 hlmt.2
  have HMol := hidden hmol
  have HMol2 := hidden hmol2
  have HA := hidden hA
  have HP0 := hidden hp0
  have HPd := hidden hpd
  clear henv hA hpd hli hmol hmol2 hlmt hkd hov hp0 hp1
  go_enter Tryz.func11, Tryz.ntmps11
  go_wp2_with fail
  refine hal.mono ?_
  intro r w1 hx
  obtain ⟨rfl, hb1⟩ := HAl.out _ _ hx
  have HNew := hidden (HNw.out w1 hb1)
  have HB1 := hidden hb1
  clear hx hb1 hal HAl HNw
  by_cases h60 : 80 < len
  · have HR : Hid (Told w (.bool true) (.returned (.bool true)) w1) := ⟨rfl, HB1.out⟩
    have h60i : (80 : Int) < len := by omega
    clear h60
    go_wp2_with fail
    first | exact HR.out | (go_ret; exact HR.out)
  have hlen : (len : Int) ≤ 80 := by omega
  have hd60 : decide ((80 : Int) < (len : Int)) = false := by rw [decide_eq_false_iff_not]; omega
  clear h60
  go_wp2_with fail
  first | rw [HMol2.out] | rw [HMol.out]
  refine HNew.out.mono ?_
  rintro r w2 ⟨c, rfl, hst0⟩
  have HS0 := hidden hst0
  clear hst0 HNew hq0 hq1
  go_wp2_with fail
  go_loopg [12] len (fun gk iv wr => ∃ (i : Nat), iv = .int .i64 i ∧ i + gk = len ∧ CoreAt c (1 + i) (20 * i) w wr)
  case atStart => exact ⟨0, rfl, Nat.zero_add _, HS0.out⟩
  case round =>
    clear HS0
    obtain ⟨i, rfl, hig, hst⟩ := hrel
    have HIg := hidden hig
    by_cases hlt : i < len
    · obtain ⟨g, off, rfl, b0, b1, b2, b3, b4, wf⟩ := HA.out.read hst.fresh hlt
      have hpl := coreAt_play hst (by omega) (by omega) (A i) wf
      generalize (A i).kind = ak at *
      generalize (A i).n = an at *
      generalize (A i).k = akk at *
      generalize (A i).m = am at *
      generalize (A i).h = ah at *
      have HPl := hidden hpl
      have hii : (i : Int) < (len : Int) := by omega
      clear hpl hst wf hig
      go_wp2_with fail
      refine HPl.out.mono ?_
      rintro r w3 ⟨rfl, hst3⟩
      have HS3 := hidden hst3
      clear hst3 HPl b0 b1 b2 b3 b4
      go_wp2_with fail
      go_roundg (len - (i + 1))
      case measure => have := HIg.out; omega
      case rel => exact ⟨i + 1, by go_num, by have := HIg.out; omega, by rw [show 1 + (i + 1) = 1 + i + 1 by omega, show 20 * (i + 1) = 20 * i + 20 by omega]; exact HS3.out⟩
    · obtain rfl : i = len := by omega
      obtain ⟨S, fr, hSc, ok0, st⟩ := hst
      have ok : S.Ok fr 81 1600 := ok0.mono (by omega) (by omega)
      obtain ⟨m1, q1, v1⟩ := fl_begin ok st
      rw [hSc] at m1 v1
      have HOk := hidden ok
      have HSc := hidden hSc
      have HM1 := hidden m1
      have HQ1 := hidden q1
      have HV1 := hidden v1
      clear m1 q1 v1 ok ok0 st hSc hig HIg HA HB1
      generalize hpp : S.P.p = pp at *
      generalize hqt : S.P.q.t = qt at *
      have HPp := hidden hpp
      have HQt := hidden hqt
      clear hpp hqt
      go_wp2_with fail
      refine HM1.out.mono ?_
      rintro r w' ⟨rfl, rfl⟩
      clear HM1
      go_wp2_with fail
      refine HQ1.out.mono ?_
      rintro r w' ⟨rfl, rfl⟩
      clear HQ1
      go_wp2_with fail
      refine HV1.out.mono ?_
      rintro r w4 ⟨LV, g, vcap, hLV, rfl, hl0, hl256, hlv, hsd, hids⟩
      have hj : pd % LV.length < LV.length := Nat.mod_lt _ hl0
      have hjx : LV[pd % LV.length]? = some (LV[pd % LV.length]) := List.getElem?_eq_getElem hj
      generalize LV[pd % LV.length] = h at hjx
      have h32 := hlv h (List.mem_of_getElem? hjx)
      obtain ⟨g', e1, _, _, hcx⟩ := hsd _ _ hjx
      cases e1
      have hmod : (pd : Int).tmod (LV.length : Int) = ((pd % LV.length : Nat) : Int) := by
        rw [Int.tmod_eq_emod_of_nonneg HP0.out]; rfl
      have HIds := hidden hids
      have HLV := hidden hLV
      have HH32 := hidden h32
      clear hids hsd hLV hlv hjx HV1 h32
      generalize hlnn : LV.length = ln at *
      have HLn := hidden hlnn
      clear hlnn
      generalize pd % ln = j at *
      have hw1 : IntKind.i64.wrap ((j : Nat) : Int) = (j : Int) := Go.IntWalk.i64_in _ (by omega)
      have hui : (0 : Int) < (ln : Int) := by omega
      have hun : ((ln : Int) == 0) = false := by simp; omega
      have hun3 : ¬ (ln : Int) = 0 := by omega
      have hun2 : ¬ ln = 0 := by omega
      have hji : (j : Int) < (ln : Int) := by omega
      have hj0 : (0 : Int) ≤ (j : Int) := by omega
      have hpd2 : (pd : Int) < 256 := by have := HPd.out; omega
      have hl2i : (ln : Int) ≤ 256 := by omega
      have hpd0 : (0 : Int) ≤ (pd : Int) := by omega
      go_wp2_with fail
      refine HIds.out.mono ?_
      rintro r w5 ⟨ids, ia, icap, hids, hil, rfl, hz⟩
      have HZ := hidden hz
      have HId := hidden hids
      clear hz hids HIds hcx hmod hw1 hj hun hun3 hun2 hui hji hj0 hpd2 hpd0 HP0 HPd
      generalize hnl : ids.length = nl at *
      have HNl := hidden hnl
      have hil2 : (nl : Int) ≤ 256 := by omega
      clear hnl hil
      go_wp2_with fail
      refine HZ.out.mono ?_
      rintro r w6 ⟨za, zc, rfl, hz256, m2, b2, f2⟩
      try rw [HSc.out] at m2
      try rw [HPp.out] at m2
      try rw [HPp.out] at b2
      generalize hzl : (allL S.l 2).length = zl at *
      have hz2 : (zl : Int) ≤ 256 := by omega
      have HZl := hidden hzl
      generalize hbb : S.P.d.b = bb at *
      have HBb := hidden hbb
      have HM2 := hidden m2
      have HB2 := hidden b2
      have HF2 := hidden f2
      clear hzl hz256 m2 b2 f2 HZ hbb
      go_wp2_with fail
      refine HM2.out.mono ?_
      rintro r w' ⟨rfl, rfl⟩
      clear HM2
      go_wp2_with fail
      refine HB2.out.mono ?_
      rintro r w' ⟨rfl, rfl⟩
      clear HB2
      go_wp2_with fail
      refine HF2.out.mono ?_
      rintro r w7 ⟨fa, fc, F, rfl, hF, hfl⟩
      have HFr := hidden hF
      have HFl := hidden hfl
      clear hF hfl HF2
      generalize hflen : F.length = fl at *
      have HFlen := hidden hflen
      clear hflen
      go_wp2_with fail
      have HU0 : Hid (∃ rv, rvOk rv 0 ∧ FlS (rowH rv 3 1 (((ids.take 0).map (useOf S.P.q.E)).map encZ) ++ S.hl) LV (some ⟨g, 0, none⟩) ids ia F fa w w7 ∧ lvOf rv 0 = .slice none 0 0) := ⟨none, rfl, by simpa [rowH] using HFl.out, rfl⟩
      clear HFl
      go_loopg [19, 20] nl (fun gk ov v wi => ∃ (k : Nat) (rv : RV), v = .int .i64 (k : Int) ∧ k + gk = nl ∧ ov = lvOf rv k ∧ rvOk rv k ∧ FlS (rowH rv 3 1 (((ids.take k).map (useOf S.P.q.E)).map encZ) ++ S.hl) LV (some ⟨g, 0, none⟩) ids ia F fa w wi)
      case atStart =>
        obtain ⟨rv, h1, h2, h3⟩ := HU0.out
        exact ⟨0, rv, rfl, Nat.zero_add _, h3.symm, h1, h2⟩
      case round =>
        clear HU0
        obtain ⟨k, rv, rfl, hkg, rfl, hrv, hfl⟩ := hrel
        have HKg := hidden hkg
        by_cases hkl : k < nl
        · have hx : ids[k]? = some (ids[k]'(by rw [HNl.out]; exact hkl)) := List.getElem?_eq_getElem _
          generalize ids[k]'(by rw [HNl.out]; exact hkl) = x at hx
          obtain ⟨gi, rfl, _, _, hcx⟩ := hfl.ia k (encZ x) (by rw [List.getElem?_map, hx]; rfl)
          have hus := fl_use2 HOk.out hfl x
          try rw [HQt.out] at hus
          have HUs := hidden hus
          have HX := hidden hx
          have HRv := hidden hrv
          have hki : (k : Int) < (nl : Int) := by omega
          clear hus hfl hx hkg hrv
          unfold encZ at hcx
          generalize hov : lvOf rv k = ov1 at *
          have HOv := hidden hov
          clear hov
          go_wp2_with fail
          refine HUs.out.mono ?_
          rintro r w8 ⟨rfl, hfl8⟩
          obtain ⟨rv2, w9, happ, hrv2, hfl9⟩ := fl_app hfl8 HRv.out HX.out (by have := HNl.out; omega)
          rw [HOv.out] at happ
          have HF9 := hidden hfl9
          have HR2 := hidden hrv2
          clear hfl8 hfl9 hrv2 HUs hcx
          generalize useOf S.P.q.E x = ux at *
          go_wp2_with (at_builtin; refine Lib.wpList_append_run _ rfl _ _ _ _ rfl _ _ rfl rfl _ _ happ ?_)
          go_roundg (nl - (k + 1))
          case measure => have := HKg.out; omega
          case rel => exact ⟨k + 1, rv2, by go_num, by have := HKg.out; omega, rfl, HR2.out, HF9.out⟩
        · obtain rfl : k = nl := by have := HKg.out; omega
          have hfl' := hfl
          rw [List.take_of_length_le (by rw [HNl.out]; exact Nat.le_refl _)] at hfl'
          have hmk := fl_make HOk.out (by omega) hfl' HH32.out kd ov
          rw [HSc.out] at hmk
          have HMk := hidden hmk
          have HRv := hidden hrv
          clear hmk hfl hfl' hkg hrv
          generalize hov : lvOf rv k = ov1 at *
          have HOv := hidden hov
          clear hov
          go_wp2_with fail
          refine HMk.out.mono ?_
          rintro r w8 (⟨y, rfl, S2, fr2, e2, ok2, st2⟩ | ⟨er, her, rfl, S2, fr2, e2, ok2, al, hfl2⟩)
          · have hdm := fl_doom0 ok2 (by omega) st2 HH32.out
            rw [e2] at hdm
            try rw [HSc.out] at hdm
            have HDm := hidden hdm
            clear hdm ok2 st2 HMk e2
            unfold two
            go_wp2_with fail
            refine HDm.out.mono ?_
            rintro r w9 ⟨⟨er, rfl⟩, hb9⟩
            have HR : Hid (Told w (.bool true) (.returned (.bool true)) w9) := ⟨rfl, hb9⟩
            clear hb9 HDm
            go_wp2_with fail
            first | exact HR.out | (go_ret; exact HR.out)
          · have hdm := fl_doom ok2 (by omega) hfl2 HH32.out
            rw [e2] at hdm
            try rw [HSc.out] at hdm
            have HDm := hidden hdm
            have HEr : (er == 0) = false := by simpa using her
            have HOk2 := hidden ok2
            have HAl := hidden al
            clear hdm ok2 hfl2 HMk her al e2
            unfold two
            go_wp2_with fail
            refine HDm.out.mono ?_
            rintro r w9 (⟨rfl, hb9⟩ | ⟨er2, her2, rfl, hfl9⟩)
            · have HR : Hid (Told w (.bool true) (.returned (.bool true)) w9) := ⟨rfl, hb9⟩
              clear hb9 HDm
              go_wp2_with fail
              first | exact HR.out | (go_ret; exact HR.out)
            · have HEr2 : (er2 == 0) = false := by simpa using her2
              have htl := fl_tail HOk2.out HAl.out HFr.out HLV.out HId.out hfl9
              rw [HSc.out, HLn.out] at htl
              rw [HZl.out, HBb.out, HNl.out] at htl
              try rw [HPp.out] at htl
              try rw [HQt.out] at htl
              have HTl := hidden htl
              clear htl hfl9 HDm her2
              go_wp2_with fail
              refine HTl.out.mono ?_
              rintro r w10 ⟨na, nc, rfl, hz⟩
              have HZ := hidden hz
              clear hz HTl
              go_wp2_with fail
              refine HZ.out.mono ?_
              rintro r w11 ⟨za2, zc2, rfl, m3, b3, f3⟩
              have HM3 := hidden m3
              have HB3 := hidden b3
              have HF3 := hidden f3
              clear m3 b3 f3 HZ
              go_wp2_with fail
              refine HM3.out.mono ?_
              rintro r w' ⟨rfl, rfl⟩
              clear HM3
              go_wp2_with fail
              refine HB3.out.mono ?_
              rintro r w' ⟨rfl, rfl⟩
              clear HB3
              go_wp2_with fail
              refine HF3.out.mono ?_
              rintro r w12 ⟨ba, bc, rfl, hsm⟩
              have hsm1 := hsm fc
              rw [HFlen.out] at hsm1
              rw [HFlen.out]
              have HSm := hidden hsm1
              clear hsm hsm1 HF3
              have hln2 : ((ln : Int) != (ln : Int)) = false := by simp
              have hzl2 : ((zl : Int) != (zl : Int)) = false := by simp
              have hnl2 : ((k : Int) != (k : Int)) = false := by simp
              go_wp2_with fail
              refine HSm.out.mono ?_
              rintro r w13 ⟨rfl, hid⟩
              have HI2 := hidden hid
              clear hid HSm
              go_wp2_with fail
              refine HI2.out.mono ?_
              rintro r w14 ⟨ja, jc, rfl, hfl14, hna14⟩
              have hfe : FlE S2 _ LV _ na ids ia F fa w w14 := ⟨hfl14, hna14⟩
              have HS14 := hidden hfe
              clear hfl14 hna14 HI2 hfe
              go_wp2_with fail
              go_loopg [27] ln (fun gk v wi => ∃ k' : Nat, v = .int .i64 (k' : Int) ∧ k' + gk = ln ∧ FlE S2 _ LV (some ⟨g, 0, none⟩) na ids ia F fa w wi)
              case atStart => exact ⟨0, rfl, Nat.zero_add _, HS14.out⟩
              case round =>
                clear HS14
                obtain ⟨m, rfl, hmg, hfe⟩ := hrel
                have HMg := hidden hmg
                have HFe := hidden hfe
                by_cases hml : m < ln
                · have hm : m < LV.length := by have := HLn.out; omega
                  have hx : LV[m]? = some LV[m] := List.getElem?_eq_getElem hm
                  generalize LV[m] = x at hx
                  obtain ⟨gv, gn, e1, rfl, c1, c2⟩ := hfe.two hx
                  cases e1
                  have HNx : Hid (∀ n, FlE S2 _ LV (some ⟨g, 0, none⟩) (some ⟨gn, 0, none⟩) ids ia F fa w (wr.drewN n)) := fun n => HFe.out.grown (below_drewN (Below.refl _ _) n)
                  have hmi : (m : Int) < (ln : Int) := by omega
                  have hxx : ((x : Int) != (x : Int)) = false := by simp
                  clear hfe hmg hm hx HFe
                  go_wp2_with fail
                  go_quiet (fail)
                  go_wp2_with fail
                  go_roundg (ln - (m + 1))
                  case measure => have := HMg.out; omega
                  case rel => exact ⟨m + 1, by go_num, by have := HMg.out; omega, HNx.out _⟩
                · obtain rfl : m = ln := by have := HMg.out; omega
                  clear hfe hmg
                  go_wp2_with fail
                  go_loopg [28] k (fun gk v wi => ∃ k' : Nat, v = .int .i64 (k' : Int) ∧ k' + gk = k ∧ FlE S2 _ LV (some ⟨g, 0, none⟩) na ids ia F fa w wi)
                  case atStart => exact ⟨0, rfl, Nat.zero_add _, HFe.out⟩
                  case round =>
                    clear HFe
                    obtain ⟨n, rfl, hng, hfe⟩ := hrel
                    have HNg := hidden hng
                    by_cases hnl3 : n < k
                    · have hx : ids[n]? = some (ids[n]'(by rw [HNl.out]; exact hnl3)) := List.getElem?_eq_getElem _
                      generalize ids[n]'(by rw [HNl.out]; exact hnl3) = x at hx
                      obtain ⟨gi, gu, cu, rfl, e2, hcu, c1, c2, hus⟩ := fle_use HOk2.out HAl.out HRv.out HNl.out hx hfe
                      rw [HOv.out] at e2
                      try rw [HQt.out] at hus
                      have HUs := hidden hus
                      generalize useOf S.P.q.E x = ux at *
                      have hni : (n : Int) < (k : Int) := by omega
                      have hxx : (ux != ux) = false := by simp
                      have d1 : wr.drew.cell? ⟨gi, n, none⟩ = some (.int .i64 x) := c1
                      have d2 : wr.drew.cell? ⟨gu, n, none⟩ = some (.int .i64 ux) := c2
                      subst e2
                      clear hus hfe hng hx
                      go_wp2_with fail
                      go_region_held3 (fun w' => w'.cell? ⟨gi, n, none⟩ = some (.int .i64 x) ∧ w'.cell? ⟨gu, n, none⟩ = some (.int .i64 ux)) (first | exact ⟨c1, c2⟩ | exact ⟨d1, d2⟩ | exact f1)
                        (first | (go_at_call 28; refine HUs.out.mono ?_; rintro r w15 ⟨rfl, f1, hx⟩; have HX15 := hidden hx; clear hx))
                      all_goals
                        go_wp2_with fail
                        go_roundg (k - (n + 1))
                        case measure => have := HNg.out; omega
                        case rel => exact ⟨n + 1, by go_num, by have := HNg.out; omega, by first | exact HX15.out | exact HX15.out.grown ((Below.refl _ _).drew)⟩
                    · have HR : Hid (Told w (.bool true) (.returned (.bool true)) wr) := ⟨rfl, hfe.1.st.fresh⟩
                      obtain rfl : n = k := by have := HNg.out; omega
                      clear hfe hng
                      go_wp2_with fail
                      first | exact HR.out | (go_ret; exact HR.out)
end Go.Proofs.YtcnbbenmlffgpaaGreatDoor

/- What the row's listed variables say of memory: the tables lie. No condition. -/
namespace Go.Proofs.YtcnbbenmlffgpaaGreatDoor
open Go.RowKit

def laids : List (String × DataW Unit) := [("math/bits.deBruijn32tab", Rows.laid_math_bits_deBruijn32tab), ("math/bits.deBruijn64tab", Rows.laid_math_bits_deBruijn64tab), ("quartermaster/pool.costs", Rows.laid_quartermaster_pool_costs)]
def dbt32 : List Int := [0, 1, 28, 2, 29, 14, 24, 3, 30, 22, 20, 15, 25, 17, 4, 8, 31, 27, 13, 23, 21, 19, 16, 7, 26, 12, 18, 6, 11, 5, 10, 9]
theorem g32 : Tryz.prog.globalNamed "math/bits.deBruijn32tab" = some 2 := by kernel_rfl
theorem t32 : (Tryz.prog.globals[2]?).map (·.type) = some 264 := by kernel_rfl
theorem g64 : Tryz.prog.globalNamed "math/bits.deBruijn64tab" = some 1 := by kernel_rfl
theorem gCost : Tryz.prog.globalNamed "quartermaster/pool.costs" = some 0 := by kernel_rfl
theorem t64 : (Tryz.prog.globals[1]?).map (·.type) = some 239 := by kernel_rfl
theorem tCost : (Tryz.prog.globals[0]?).map (·.type) = some 176 := by kernel_rfl
theorem env_of_laid {W : World} (h : laidMetH Tryz.prog laids W) : Env W := by
  rw [MakeChecks.laidMetH_plain _ _ _ (by kernel_rfl)] at h
  have h1 : laidMet Tryz.prog (("math/bits.deBruijn32tab", Lib.tabData .u8 dbt32) :: [("math/bits.deBruijn64tab", Rows.laid_math_bits_deBruijn64tab), ("quartermaster/pool.costs", Rows.laid_quartermaster_pool_costs)]) W := h
  have hA := Lib.tabIs_of_head g32 t32 Tryz.underlying264 Tryz.underlying5 (by kernel_rfl) (by kernel_rfl) h1
  have h2 : laidMet Tryz.prog (("math/bits.deBruijn64tab", Lib.tabData .u8 (dbt.map fun (n : Nat) => (n : Int))) :: [("quartermaster/pool.costs", Rows.laid_quartermaster_pool_costs)]) W := laidMet.tail h1
  have h3 : laidMet Tryz.prog (("quartermaster/pool.costs", Lib.tabData .i64 costL) :: []) W := laidMet.tail h2
  have hB := Lib.tabIs_of_head g64 t64 Tryz.underlying239 Tryz.underlying5 (by kernel_rfl) (by kernel_rfl) h2
  have hC := Lib.tabIs_of_head gCost tCost Tryz.underlying176 Tryz.underlying3 (by kernel_rfl) (by kernel_rfl) h3
  have cB : TabB W := by
    intro j v hv
    have hj := (List.getElem?_eq_some_iff.1 hv).1
    have := hB.cell g64 j (by simpa using hj)
    rw [this]
    congr 2
    simp [List.getD, hv]
  have cC : TabC W := by
    intro j v hv
    have hj := (List.getElem?_eq_some_iff.1 hv).1
    have := hC.cell gCost j (by simpa using hj)
    rw [this]
    congr 2
    simp [List.getD, hv]
  refine ⟨?_, cB, cC⟩
  have c0 := World.block_lt_of_cell? W ⟨1, 0, none⟩ (cB 0 0 rfl)
  have c1 := World.block_lt_of_cell? W ⟨0, 0, none⟩ (cC 0 0 rfl)
  have c2 := World.block_lt_of_cell? W ⟨2, 0, none⟩ (hA.cell g32 0 (by decide))
  have c0' : 1 < W.heap.size := c0
  have c1' : 0 < W.heap.size := c1
  have c2' : 2 < W.heap.size := c2
  unfold GB
  omega
end Go.Proofs.YtcnbbenmlffgpaaGreatDoor

/- Five parameters. No condition. -/
namespace Go.Proofs.YtcnbbenmlffgpaaGreatDoor
open Go Go.RowKit Go.ChangeShapes Go.WideShapes

section
variable {H : Type} {enc : TypeId × Value → H} {P : Program} {w : World} {base : Nat} {spare : Nat → Bool} {held : Bool}
theorem trodAll_five {t t' t'' t3 t4 : TypeId} {args : Array Value} {ds : List (DataW H)} {ps : List MemPlace} (h : DataW.TrodAll enc P w base spare held [t, t', t'', t3, t4] args.toList ds ps) :
    ∃ v v' v'' v3 v4 d d' d'' d3 d4 p p' p'' p3 p4, args = #[v, v', v'', v3, v4] ∧ ds = [d, d', d'', d3, d4] ∧ ps = p ++ p' ++ p'' ++ p3 ++ p4 ∧ DataW.Trod enc P w base spare held t v d p ∧ DataW.Trod enc P w base spare held t' v' d' p' ∧ DataW.Trod enc P w base spare held t'' v'' d'' p'' ∧ DataW.Trod enc P w base spare held t3 v3 d3 p3 ∧ DataW.Trod enc P w base spare held t4 v4 d4 p4 := by
  obtain ⟨v, vs, d, ds', p, q, hargs, rfl, rfl, hd, hrest⟩ := trodAll_cons h
  obtain ⟨v', vs', d', ds'', p', q', rfl, rfl, rfl, hd', hrest'⟩ := trodAll_cons hrest
  obtain ⟨v'', vs'', d'', ds''', p'', q'', rfl, rfl, rfl, hd'', hrest''⟩ := trodAll_cons hrest'
  obtain ⟨v3, vs3, d3, ds3, p3, q3, rfl, rfl, rfl, hd3, hrest3⟩ := trodAll_cons hrest''
  obtain ⟨v4, vs4, d4, ds4, p4, q4, rfl, rfl, rfl, hd4, hrest4⟩ := trodAll_cons hrest3
  obtain ⟨rfl, rfl, rfl⟩ := trodAll_nil hrest4
  exact ⟨v, v', v'', v3, v4, d, d', d'', d3, d4, p, p', p'', p3, p4, by cases args; simp_all, rfl, by simp, hd, hd', hd'', hd3, hd4⟩
theorem trodAll_mk5 {t t' t'' t3 t4 : TypeId} {v v' v'' v3 v4 : Value} {d d' d'' d3 d4 : DataW H} {p p' p'' p3 p4 : List MemPlace} (h : DataW.Trod enc P w base spare held t v d p) (h' : DataW.Trod enc P w base spare held t' v' d' p')
    (h'' : DataW.Trod enc P w base spare held t'' v'' d'' p'') (h3 : DataW.Trod enc P w base spare held t3 v3 d3 p3) (h4 : DataW.Trod enc P w base spare held t4 v4 d4 p4) : DataW.TrodAll enc P w base spare held [t, t', t'', t3, t4] [v, v', v'', v3, v4] [d, d', d'', d3, d4] (p ++ (p' ++ (p'' ++ (p3 ++ p4)))) := ⟨p, p' ++ (p'' ++ (p3 ++ p4)), h, trodAll_mk4 h' h'' h3 h4, rfl⟩
end
end Go.Proofs.YtcnbbenmlffgpaaGreatDoor

/-
  CoreFails returns true at every input, whatever lies in memory, where the listed variables lie as laid.
  By hand, after the frame of the guide's worked examples. Not trusted: Lean checks it.
-/
namespace Go.Proofs.YtcnbbenmlffgpaaGreatDoor.coreFails
open Go.ChangeShapes Go.WideShapes Go.ChangeAt Go.RowKit
set_option linter.unusedVariables false

theorem own : ownKnob Tryz.prog.godebug = none := by kernel_rfl
theorem laidOut : laidOutB Tryz.prog = true := by kernel_rfl
/-- The door's own heap meets the condition: closed facts. -/
theorem door_met (os : Os) (args : Array Value) : laidMetH Tryz.prog laids ((World.doorLaid Tryz.prog 400 os).forCall (fun _ _ => 0) ⟨#[], args, []⟩).memory :=
  laidMetH_of_parts3 (fuel := 8) (laidMet_of_run' 8 (by kernel_rfl) (by kernel_rfl)) (by kernel_rfl) (by kernel_rfl)

set_option maxRecDepth 100000 in
theorem lifted (os : Os) (started : os.Started) (H : Type) (enc : TypeId × Value → H) :
    ReturnsInHanded {} Tryz.checked os 11 .any (fun w args => (Rows.coreFailsSpec.pre enc Tryz.prog Tryz.f11 [] false w args ∧ laidMetH Tryz.prog laids w) ∧ sizedMet enc Tryz.prog Tryz.f11 (OpenSpec.ofChange Rows.coreFailsSpec) false w args)
      (Rows.coreFailsSpec.post enc Tryz.prog Tryz.f11 false true false false) := by
  refine returnsInHanded_of_change_and (C := Tryz.checked) (X := fun w _ => laidMetH Tryz.prog laids w) (fun _ _ _ hh h => h.of_heap hh) own started (by kernel_rfl) Tryz.func11
    (ChangeSpec.witness_shaped (enc := enc) (C := Tryz.checked) (os := os) (X := fun w _ => laidMetH Tryz.prog laids w) false (World.doorLaid Tryz.prog 400 os) #[.int .u16 0, .slice none 0 0, .int .i64 0, .int .i64 0, .int .u8 0] 8 rfl (World.shaped_of_RefB (by kernel_rfl) (by kernel_rfl)) (by kernel_rfl) (by kernel_rfl) (by kernel_rfl) (door_met os _)) ?_
  intro W base args ds gs before hval0 hW _ _ hL _
  have hval : ∀ (j : Nat) t v, Tryz.f11.params[j]? = some t → args[j]? = some v → Value.okWide Tryz.prog W .any base t v := hval0
  have hW' := hW
  obtain ⟨p, q, hA0, hV, rfl, hfz, hnd⟩ := hW
  have hA : DataW.TrodAll enc Tryz.prog W 0 (fun _ => true) true Tryz.f11.params.toList args.toList ds p := hA0
  rw [Tryz.params11] at hA hval
  obtain ⟨v0, v1, v2, v3, v4, d0, d1, d2, d3, d4, p0, p1, p2, p3, p4, rfl, rfl, rfl, h0, h1, h2, h3, h4⟩ := trodAll_five hA
  obtain ⟨rfl, rfl⟩ := trodVars_none hV
  obtain ⟨n0, rfl, rfl, rfl, wf0⟩ := open_int Tryz.underlying49 (hval 0 49 v0 rfl rfl) h0
  have hb0 : 0 ≤ n0 ∧ n0 < 65536 := by
    have := bounds_u16 wf0
    omega
  obtain ⟨m0, rfl⟩ := Int.eq_ofNat_of_zero_le hb0.1
  obtain ⟨a1, len1, cap1, rfl⟩ := okWide_slice Tryz.underlying22 (hval 1 22 v1 rfl rfl)
  have k1 := h1
  have lt1 : ∀ x ∈ p1, x.block < W.heap.size := by obtain ⟨m, hm⟩ := k1; exact DataW.trod_lt m _ _ _ hm
  obtain ⟨A1, hAct1⟩ : ∃ A, IsA5 W a1 len1 A := by
    obtain ⟨fuel, hf⟩ := h1
    exact open_acts5 (by simpa [Value.cells] using hf)
  obtain ⟨n2, rfl, rfl, rfl, wf2⟩ := open_int Tryz.underlying3 (hval 2 3 v2 rfl rfl) h2
  have hb2 := bounds_i64 wf2
  obtain ⟨n3, rfl, rfl, rfl, wf3⟩ := open_int Tryz.underlying3 (hval 3 3 v3 rfl rfl) h3
  have hb3 := bounds_i64 wf3
  obtain ⟨n4, rfl, rfl, rfl, wf4⟩ := open_int Tryz.underlying5 (hval 4 5 v4 rfl rfl) h4
  have hb4 : 0 ≤ n4 ∧ n4 < 256 := by
    have := bounds_u8 wf4
    omega
  obtain ⟨m4, rfl⟩ := Int.eq_ofNat_of_zero_le hb4.1
  clear hA0 hval0
  refine (fails_any (env_of_laid hL) m0 (by omega) a1 len1 cap1 A1 hAct1 n2 hb2 n3 hb3 m4 (by omega)).mono fun e W' ⟨he, bel⟩ => ?_
  subst he
  exact ⟨_, rfl, _, _, _, [], _, [], hW', trodAll_mk1 (shut_bool Tryz.underlying4 _), trodAll_mk5 (shut_int Tryz.underlying49 wf0) (Below.trod laidOut (by kernel_rfl) (of_decide_eq_true (by kernel_rfl)) k1 bel lt1) (shut_int Tryz.underlying3 wf2) (shut_int Tryz.underlying3 wf3) (shut_int Tryz.underlying5 wf4), rfl, bel.frame _, fun h => by cases h⟩

theorem over : Rows.coreFailsRow.holds Tryz.pinned (OpenSpec.ofChange Rows.coreFailsSpec) :=
  OpenClaim.holds_of_wide 11 Tryz.f11 rfl rfl rfl rfl rfl rfl rfl ⟨rfl, rfl, rfl, rfl, rfl⟩ rfl rfl rfl rfl rfl (by kernel_rfl) Tryz.func11 (by kernel_rfl)
    (of_decide_eq_true (by kernel_rfl)) (by unfold Func.isWrapper; first | (rw [if_pos (by decide +kernel)]; kernel_rfl) | (rw [if_neg (by decide +kernel)]; exact ⟨rfl, rfl⟩))
    (fun os started H enc _ => lifted os started H enc)

/-- THE ROW. -/
theorem proved : Rows.CoreFailsSaid := over
end Go.Proofs.YtcnbbenmlffgpaaGreatDoor.coreFails
