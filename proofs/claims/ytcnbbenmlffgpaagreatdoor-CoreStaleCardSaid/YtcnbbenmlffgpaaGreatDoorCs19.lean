/- CoreStale returns true at every input: handles that were freed name nothing any more. No condition. Part of its proof. -/
import Derived.Test.YtcnbbenmlffgpaaGreatDoorCs18
import Derived.Test.YtcnbbenmlffgpaaGreatDoorCs01
import Derived.Lib.LaidTab
import Derived.LaidMore
import Derived.MakeChecks
import Derived.Stop.LaidErr
import Derived.Test.YtcnbbenmlffgpaaGreatDoorRows
import Derived.Test.YtcnbbenmlffgpaaGreatDoorCs17
import Derived.WalkKit
import Derived.ProofKit
import Derived.OpenShut
import Derived.ShutString
import Derived.Below
import Derived.Stop.Joined
/- CoreStale, one call behind the other: handles that were freed name nothing. Conditions: the blocks hold what CO.hl says. -/
namespace Go.Proofs.YtcnbbenmlffgpaaGreatDoor
open Go.RowKit

/-- The core, and the row of all that was freed. -/
def StAt (c N K : Nat) (D : List Nat) (oa : Option Addr) (oc : Nat) (w wr : World) : Prop := ∃ (S : CO) (fr : List Nat), S.c = c ∧ S.Ok fr N K ∧ (∀ x ∈ D, Old S.l x) ∧ Step [] S.hl w wr ∧ wr.ownsRow w.heap.size 32 1 (.slice oa D.length oc) D.length (hands D) ∧ ∀ b ∈ keys S.hl, (Value.slice oa D.length oc).ownBlock ≠ some b
theorem StAt.start {c N K : Nat} {w wr : World} (h : CoreAt c N K w wr) : StAt c N K [] none 0 w wr := by
  obtain ⟨S, fr, ec, ok, st⟩ := h
  exact ⟨S, fr, ec, ok, by simp, st, World.ownsRow_nil _ _ _ _, fun b _ h => by simp [Value.ownBlock] at h⟩
theorem StAt.fresh {c N K : Nat} {D : List Nat} {oa : Option Addr} {oc : Nat} {w wr : World} (h : StAt c N K D oa oc w wr) : Below w.heap.size w wr := by
  obtain ⟨S, fr, ec, ok, ho, st, _⟩ := h
  exact st.fresh
theorem StAt.step {c N' K' : Nat} {D : List Nat} {oa : Option Addr} {oc : Nat} {w wr w' : World} {S S' : CO} {fr' : List Nat} (ec : S.c = c) (ho : ∀ x ∈ D, Old S.l x) (st : Step [] S.hl w wr) (hr : wr.ownsRow w.heap.size 32 1 (.slice oa D.length oc) D.length (hands D)) (hk : ∀ b ∈ keys S.hl, (Value.slice oa D.length oc).ownBlock ≠ some b)
    (ok' : S'.Ok fr' N' K') (wt : Went S S') (st' : Step S.hl S'.hl wr w') : StAt c N' K' D oa oc w w' := by
  have hlt : ∀ b, (Value.slice oa D.length oc).ownBlock = some b → b < wr.heap.size := fun b hb => (hr.lt b hb).2
  refine ⟨S', fr', wt.c.trans ec, ok', fun x hx => (ho x hx).went wt, st.trans st', ownsRow_same hr (fun b hb => st'.chg.block b (hlt b hb) (fun hk' => hk b hk' hb)), fun b hb e => ?_⟩
  rcases st'.new b hb with h | h
  · exact hk b h e
  · have := hlt b e; omega
theorem st_play {c N K : Nat} {D : List Nat} {oa : Option Addr} {oc : Nat} {w wr : World} (h : StAt c N K D oa oc w wr) (hN : N + 1 < 1048576) (hK : K + 20 < 1048575) (x : A5) (hx : x.Wf) : Calls Tryz.prog 14 #[.pointer (some ⟨c, 0, none⟩), .agg #[.int .i64 x.kind, .int .i64 x.n, .int .i64 x.k, .int .i64 x.m, .int .u32 x.h]] wr fun r w' => r = .returned (.tuple #[]) ∧ StAt c (N + 1) (K + 20) D oa oc w w' := by
  obtain ⟨S, fr, ec, ok, ho, st, hr, hk⟩ := h
  have := play_any st.sep ok hN hK x hx
  rw [ec] at this
  refine this.mono ?_
  rintro r w' ⟨rfl, ⟨S', fr', ok', wt, st'⟩, _⟩
  exact ⟨rfl, StAt.step ec ho st hr hk ok' wt st'⟩
theorem st_tick {c N K : Nat} {D : List Nat} {oa : Option Addr} {oc : Nat} {w wr : World} (hgb : GB ≤ w.heap.size) (h : StAt c N K D oa oc w wr) (hK : K < 1048575) (hl : D.length ≤ 15360) : Calls Tryz.prog 20 #[.pointer (some ⟨c, 0, none⟩)] wr fun r w' => ∃ v, r = .returned v ∧ ∃ (D' : List Nat) (oa' : Option Addr) (oc' : Nat) (w2 : World), D'.length ≤ D.length + 256 ∧
    (Builtin.append_ #[30, 30] 30 #[.slice oa D.length oc, v]).run Tryz.prog w' = .ok (.slice oa' D'.length oc') w2 ∧ StAt c N (K + 1) D' oa' oc' w w2 := by
  obtain ⟨S, fr, ec, ok, ho, st, hr, hk⟩ := h
  have := ctick_any st.sep ok hK
  rw [ec] at this
  refine this.mono ?_
  rintro r w' ⟨rv, S', fr', v, rfl, hrow, hov, htk, ok', st', hoff⟩
  have hdl := dueN_len ok
  have hgone := htk.gone
  have st1 := st.trans st'
  have hlt : ∀ b, (Value.slice oa D.length oc).ownBlock = some b → b < wr.heap.size := fun b hb => (hr.lt b hb).2
  have hr1 : w'.ownsRow w.heap.size 32 1 (.slice oa D.length oc) D.length (hands D) := ownsRow_same hr (fun b hb => st'.chg.block b (hlt b hb) (fun hk' => hk b hk' hb))
  have hk1 : ∀ b ∈ keys S'.hl, (Value.slice oa D.length oc).ownBlock ≠ some b := fun b hb e => by
    rcases st'.new b hb with h | h
    · exact hk b h e
    · have := hlt b e; omega
  obtain ⟨va, vc, rfl, hism, hvc⟩ := row_isHs hrow
  obtain ⟨v', w2, e1, e2, e3, e4⟩ := app_hs0 (ty := 30) (a := va) (cap := vc) hr1 hism hvc (by omega) st1.chg.size
  obtain ⟨oa', oc', rfl, _⟩ := row_shape e2
  refine ⟨_, rfl, D ++ dueN S, oa', oc', w2, by rw [List.length_append]; omega, by rw [List.length_append]; exact e1, S', fr', htk.c.trans ec, ok', fun x hx => ?_, ?_, ?_, fun b hb e => ?_⟩
  · rcases List.mem_append.1 hx with hx | hx
    · exact (ho x hx).went htk.went
    · exact hgone x hx
  · exact st1.own e3 (fun b hb => ⟨(hr1.lt b hb).1, fun hk' => hk1 b hk' hb⟩) hgb
  · rw [List.length_append, hands_app]; exact e2
  · rw [List.length_append] at e
    rcases e4 with h | h
    · exact hk1 b hb (h ▸ e)
    · rw [h] at e; cases e
      have := st1.sep.lt hb; omega
/-- What is read of an old handle. -/
theorem st_old {c N K : Nat} {D : List Nat} {oa : Option Addr} {oc : Nat} {w wr : World} (h : StAt c N K D oa oc w wr) (hN : N + 1 < 1048576) (hK : K ≤ 1048576) {j : Nat} (hj : j < D.length) : ∃ (g x : Nat), oa = some ⟨g, 0, none⟩ ∧ x < 4294967296 ∧ (∀ wr', StAt c N K D (some ⟨g, 0, none⟩) oc w wr' → wr'.cell? ⟨g, j, none⟩ = some (.int .u32 (x : Int))) ∧
    ∀ wr', StAt c N K D (some ⟨g, 0, none⟩) oc w wr' →
      (Calls Tryz.prog 18 #[.pointer (some ⟨c, 0, none⟩), .int .u32 (x : Int), .int .i64 0] wr' fun r w' => r = .returned (.tuple #[.agg #[.int .i64 0, .int .i64 0, .int .i64 0], .int .i64 8]) ∧ StAt c N K D (some ⟨g, 0, none⟩) oc w w') ∧
      (Calls Tryz.prog 16 #[.pointer (some ⟨c, 0, none⟩), .int .u32 (x : Int)] wr' fun r w' => r = .returned (.tuple #[.int .i64 0, .int .i64 8]) ∧ StAt c N K D (some ⟨g, 0, none⟩) oc w w') ∧
      (Calls Tryz.prog 21 #[.pointer (some ⟨c, 0, none⟩), .int .u32 (x : Int), .int .i64 4, .int .i64 0] wr' fun r w' => r = .returned (.tuple #[.int .u32 0, .int .i64 8]) ∧ StAt c N K D (some ⟨g, 0, none⟩) oc w w') ∧
      (Calls Tryz.prog 22 #[.pointer (some ⟨c, 0, none⟩), .int .u32 (x : Int)] wr' fun r w' => r = .returned (.tuple #[.agg #[.int .i64 0, .int .i64 0, .int .i64 0], .bool false]) ∧ StAt c N K D (some ⟨g, 0, none⟩) oc w w') ∧
      (Calls Tryz.prog 19 #[.pointer (some ⟨c, 0, none⟩), .int .u32 (x : Int)] wr' fun r w' => r = .returned (.int .i64 8) ∧ StAt c N K D (some ⟨g, 0, none⟩) oc w w') ∧
      (Calls Tryz.prog 23 #[.pointer (some ⟨c, 0, none⟩), .int .u32 (x : Int)] wr' fun r w' => r = .returned (.int .i64 0) ∧ StAt c N K D (some ⟨g, 0, none⟩) oc w w') := by
  have hjx : D[j]? = some D[j] := List.getElem?_eq_getElem hj
  generalize D[j] = x at hjx
  have hxm := List.mem_of_getElem? hjx
  obtain ⟨S0, fr0, _, ok0, ho0, _, hr0, _⟩ := h
  obtain ⟨a', c', e', hi0, _⟩ := row_isHs hr0
  obtain ⟨g, hg, _, _, _⟩ := hi0.at' j x hjx
  have hoa : oa = some ⟨g, 0, none⟩ := by
    simp only [Value.slice.injEq] at e'
    rw [e'.1, hg]
  have hx32 : x < 4294967296 := by
    obtain ⟨p, h1, h2⟩ := ho0 x hxm
    have := (ok0.inv.lok.2 p (List.mem_of_getElem? h1)).2
    omega
  refine ⟨g, x, hoa, hx32, fun wr' hst => ?_, fun wr' hst => ?_⟩
  · obtain ⟨S, fr, ec, ok, ho, st, hr, hk⟩ := hst
    obtain ⟨a2, c2, e2, hi, _⟩ := row_isHs hr
    obtain ⟨g2, hg2, _, _, hc⟩ := hi.at' j x hjx
    simp only [Value.slice.injEq] at e2
    rw [← e2.1] at hg2
    cases hg2
    exact hc
  · obtain ⟨S, fr, ec, ok, ho, st, hr, hk⟩ := hst
    have hold := ho x hxm
    have h1 := hold.none 1
    have h2 := hold.none 2
    have lok := ok.inv.lok
    have key : ∀ {w'}, Step S.hl S.hl wr' w' → StAt c N K D (some ⟨g, 0, none⟩) oc w w' := fun st' => StAt.step ec ho st hr hk ok (Went.refl S) st'
    have told : ∀ {w'}, Below wr'.heap.size wr' w' → StAt c N K D (some ⟨g, 0, none⟩) oc w w' := fun hb => key (st.sep.grown hb)
    have hof := fun kind => cof_none st.sep lok hx32 kind h1
    rw [ec] at hof
    refine ⟨(hof 0).mono ?_, ?_, ?_, ?_, ?_, ?_⟩
    · rintro r w' ⟨rfl, hb⟩; exact ⟨rfl, told hb⟩
    · have := cown_err (S := S) (x := x) (e := 8) (by decide) (by rw [ec]; exact hof 1)
      rw [ec] at this
      refine this.mono ?_
      rintro r w' ⟨rfl, hb⟩; exact ⟨rfl, told hb⟩
    · have := cmake_any st.sep ok hN hx32 4 0
      rw [ec] at this
      refine this.mono ?_
      rintro r w' (⟨_, rfl, st'⟩ | ⟨f, h0, _⟩)
      · exact ⟨rfl, key st'⟩
      · rw [h1] at h0; cases h0
    · have := cany_any st.sep lok hx32
      unfold anyV at this
      rw [ec, h2, h1] at this
      refine this.mono ?_
      rintro r w' ⟨rfl, hb⟩; exact ⟨rfl, told hb⟩
    · have := cdoom_any st.sep ok hK hx32
      rw [ec] at this
      refine this.mono ?_
      rintro r w' (⟨_, rfl, st'⟩ | ⟨h0, _⟩ | ⟨h0, _⟩ | ⟨p, rv, h0, _⟩)
      · exact ⟨rfl, key st'⟩
      · exact absurd h1 h0
      · exact absurd h1 h0
      · rw [h1] at h0; cases h0
    · have := cleft_any st.sep ok hK hx32
      have e : leftQ S.ts S.now x = 0 := by
        unfold leftQ
        rw [List.find?_eq_none.2 (fun t ht => by
          have : t.1 ≠ x := fun e => by
            have := (ok.inv.que.has x).1 (List.mem_map.2 ⟨t, ht, e⟩)
            obtain ⟨p, hp⟩ := this
            rw [h2] at hp; cases hp
          simpa using this)]
      rw [ec, e] at this
      refine this.mono ?_
      rintro r w' ⟨rfl, hb⟩; exact ⟨rfl, told hb⟩
theorem StAt.grown {c N K : Nat} {D : List Nat} {oa : Option Addr} {oc : Nat} {w wr wr' : World} (h : StAt c N K D oa oc w wr) (hb : Below wr.heap.size wr wr') : StAt c N K D oa oc w wr' := by
  obtain ⟨S, fr, ec, ok, ho, st, hr, hk⟩ := h
  exact StAt.step ec ho st hr hk ok (Went.refl S) (st.sep.grown hb)
theorem StAt.mono {c N K N' K' : Nat} {D : List Nat} {oa : Option Addr} {oc : Nat} {w wr : World} (h : StAt c N K D oa oc w wr) (h1 : N ≤ N') (h2 : K ≤ K') : StAt c N' K' D oa oc w wr := by
  obtain ⟨S, fr, ec, ok, ho, st, hr, hk⟩ := h
  exact ⟨S, fr, ec, ok.mono h1 h2, ho, st, hr, hk⟩
end Go.Proofs.YtcnbbenmlffgpaaGreatDoor

/- The law CoreStale is true. Conditions: the package-level variables lie, the acts are read. -/
namespace Go.Proofs.YtcnbbenmlffgpaaGreatDoor
open Go.RowKit

set_option maxHeartbeats 8000000 in
set_option maxRecDepth 100000 in
theorem stale_any {w : World} (henv : Env w) (a0 : Option Addr) (len cap : Nat) (A : Nat → A5) (hA : IsA5 w a0 len A) (pd : Nat) (hpd : pd < 256) : Calls Tryz.prog 4 #[.slice a0 len cap, .int .u8 (pd : Int)] w (Told w (.bool true)) := by
  have hal := alive16_any henv
  have hgb := henv.gb
  have h16 : ((2 ^ (6 + 10) : Nat) : Int) = 65536 := by decide
  have HAl : Hid (∀ r w1, Told w (.bool true) r w1 → r = .returned (.bool true) ∧ Below w.heap.size w w1 ∧ Calls Tryz.prog 13 #[.int .i64 65536, .int .i64 65536, .int .i64 (((1 + pd % 3 : Nat) : Nat) : Int)] w1 fun r w2 => ∃ c : Nat, r = .returned (.pointer (some ⟨c, 0, none⟩)) ∧ StAt c 1 0 [] none 0 w w2) := by
    rintro r w1 ⟨rfl, hb⟩
    have := cnew_any (Sep.nil (henv.below hb)) 6 (by omega) (by omega) 65536 (by omega) (by rw [h16]; omega) (1 + pd % 3) (by omega) (by omega)
    rw [h16] at this
    refine ⟨rfl, hb, this.mono ?_⟩
    rintro r w2 ⟨S, rfl, hf, st⟩
    have st1 : Step [] S.hl w1 w2 := by simpa using st
    have st2 : Step [] S.hl w w2 := ((Sep.nil henv).grown hb).trans st1
    exact ⟨S.c, rfl, StAt.start (hf.at st2)⟩
  have hp0 : (0 : Int) ≤ (pd : Int) := by omega
  have hp1 : (pd : Int) < 256 := by omega
  have hmod : (1 : Int) + (pd : Int).tmod 3 = (((1 + pd % 3 : Nat) : Nat) : Int) := by
    rw [Int.tmod_eq_emod_of_nonneg hp0]; omega
  have hmod2 : (1 : Int) + (pd : Int) % 3 = (((1 + pd % 3 : Nat) : Nat) : Int) := by omega
  have HA := hidden hA
  have HGB := hidden hgb
  clear henv hA hpd h16 hgb
  generalize (1 + pd % 3 : Nat) = per at *
  have HMod := hidden hmod
  have HMod2 := hidden hmod2
  clear hmod hmod2
  go_enter Tryz.func4, Tryz.ntmps4
  go_wp2_with fail
  refine hal.mono ?_
  intro r w1 hx
  obtain ⟨rfl, hb1, hnew⟩ := HAl.out _ _ hx
  have HNew := hidden hnew
  have HB1 := hidden hb1
  clear hx hb1 hnew hal HAl
  by_cases h60 : 60 < len
  · have HR : Hid (Told w (.bool true) (.returned (.bool true)) w1) := ⟨rfl, HB1.out⟩
    have h60i : (60 : Int) < len := by omega
    clear h60
    go_wp2_with fail
    first | exact HR.out | (go_ret; exact HR.out)
  have hlen : (len : Int) ≤ 60 := by omega
  have hd60 : decide ((60 : Int) < (len : Int)) = false := by rw [decide_eq_false_iff_not]; omega
  clear h60
  go_wp2_with fail
  rw [HMod2.out]
  refine HNew.out.mono ?_
  rintro r w2 ⟨c, rfl, hst0⟩
  have HS0 := hidden hst0
  clear hst0 HNew hp0 hp1
  go_wp2_with fail
  go_loopg [6, 7] len (fun gk ov iv wr => ∃ (i : Nat) (D : List Nat) (oa : Option Addr) (oc : Nat), iv = .int .i64 i ∧ i + gk = len ∧ ov = .slice oa D.length oc ∧ D.length ≤ 256 * i ∧ StAt c (1 + i) (21 * i) D oa oc w wr)
  case atStart => exact ⟨0, [], none, 0, rfl, Nat.zero_add _, rfl, Nat.zero_le _, HS0.out⟩
  case round =>
    clear HS0
    obtain ⟨i, D, oa, oc, rfl, hig, rfl, hD, hst⟩ := hrel
    have HIg := hidden hig
    by_cases hlt : i < len
    · obtain ⟨g, off, rfl, b0, b1, b2, b3, b4, wf⟩ := HA.out.read hst.fresh hlt
      have hpl := st_play hst (by omega) (by omega) (A i) wf
      generalize (A i).kind = ak at *
      generalize (A i).n = an at *
      generalize (A i).k = akk at *
      generalize (A i).m = am at *
      generalize (A i).h = ah at *
      have HPl := hidden hpl
      have HD := hidden hD
      have hii : (i : Int) < (len : Int) := by omega
      clear hpl hst wf hD hig
      generalize hdl : D.length = dl at *
      have HDl := hidden hdl
      clear hdl
      go_wp2_with fail
      refine HPl.out.mono ?_
      rintro r w3 ⟨rfl, hst3⟩
      have htk := st_tick HGB.out hst3 (by omega) (by have := HD.out; have := HDl.out; omega)
      rw [HDl.out] at htk
      have HTk := hidden htk
      clear htk hst3 HPl b0 b1 b2 b3 b4
      go_wp2_with fail
      refine HTk.out.mono ?_
      rintro r w4 ⟨v, rfl, D2, oa2, oc2, w5, hl2, happ, hst5⟩
      have HS5 := hidden hst5
      have HL2 : Hid (D2.length ≤ 256 * (i + 1)) := by have := HD.out; show _ ≤ _; omega
      clear hst5 hl2 HTk HD HDl
      go_wp2_with (at_builtin; refine Lib.wpList_append_run _ rfl _ _ _ _ rfl _ _ rfl rfl _ _ happ ?_)
      clear happ
      generalize hdl : D2.length = dl2 at *
      have HDl2 := hidden hdl
      have hdl6 : (dl2 : Int) ≤ 16384 := by have := HL2.out; omega
      clear hdl
      obtain ⟨gko, hgo⟩ : ∃ g, g = gk := ⟨_, rfl⟩
      subst hgo
      obtain ⟨wo, hwo⟩ : ∃ wo, wo = wr := ⟨_, rfl⟩
      subst hwo
      go_loopg [8] dl2 (fun gi kv wi => ∃ k : Nat, kv = .int .i64 k ∧ k + gi = dl2 ∧ StAt c (1 + i + 1) (21 * i + 20 + 1) D2 oa2 oc2 w wi)
      case atStart => exact ⟨0, rfl, Nat.zero_add _, HS5.out⟩
      case round =>
        clear HS5
        obtain ⟨k, rfl, hkg, hst⟩ := hrel
        have HKg := hidden hkg
        clear hkg
        by_cases hkl : k < dl2
        · obtain ⟨g2, x, rfl, hx32, hcell, hcalls⟩ := st_old hst (by omega) (by omega) (j := k) (by rw [HDl2.out]; exact hkl)
          have HCell := hidden hcell
          have HCalls := hidden hcalls
          have hki : (k : Int) < (dl2 : Int) := by omega
          have c1 := HCell.out _ hst
          have H1 := hidden (HCalls.out _ hst).1
          clear hst hcell hcalls hx32
          go_wp2_with fail
          refine H1.out.mono ?_
          rintro r w6 ⟨rfl, hst6⟩
          have hst6' := hst6.grown ((Below.refl _ _).alloc (Nat.le_refl _) (.cells #[.int .i64 0, .int .i64 0, .int .i64 0] 39))
          have c1 := HCell.out _ hst6'
          have H2 := hidden (HCalls.out _ hst6').2.1
          clear hst6 hst6' H1
          go_wp2_with fail
          refine H2.out.mono ?_
          rintro r w7 ⟨rfl, hst7⟩
          have c1 := HCell.out _ hst7
          have H3 := hidden (HCalls.out _ hst7).2.2.1
          clear hst7 H2
          go_wp2_with fail
          refine H3.out.mono ?_
          rintro r w8 ⟨rfl, hst8⟩
          have c1 := HCell.out _ hst8
          have H4 := hidden (HCalls.out _ hst8).2.2.2.1
          clear hst8 H3
          go_wp2_with fail
          refine H4.out.mono ?_
          rintro r w9 ⟨rfl, hst9⟩
          have hst9' := hst9.grown ((Below.refl _ _).alloc (Nat.le_refl _) (.cells #[.int .i64 0, .int .i64 0, .int .i64 0] 39))
          have c1 := HCell.out _ hst9'
          have H5 := hidden (HCalls.out _ hst9').2.2.2.2.1
          clear hst9 hst9' H4
          go_wp2_with fail
          refine H5.out.mono ?_
          rintro r w10 ⟨rfl, hst10⟩
          have c1 := HCell.out _ hst10
          have H6 := hidden (HCalls.out _ hst10).2.2.2.2.2
          clear hst10 H5
          go_wp2_with fail
          refine H6.out.mono ?_
          rintro r w11 ⟨rfl, hst11⟩
          have HS11 := hidden hst11
          clear hst11 H6 c1
          go_wp2_with fail
          go_roundg (dl2 - (k + 1))
          case measure => have := HKg.out; omega
          case rel => exact ⟨k + 1, by go_num, by have := HKg.out; omega, HS11.out⟩
        · obtain rfl : k = dl2 := by have := HKg.out; omega
          have HS12 := hidden hst
          clear hst
          go_wp2_with fail
          go_roundg (len - (i + 1))
          case measure => have := HIg.out; omega
          case rel => exact ⟨i + 1, D2, oa2, oc2, by go_num, by have := HIg.out; omega, by rw [HDl2.out], by have := HL2.out; have := HDl2.out; omega, by rw [show 1 + (i + 1) = 1 + i + 1 by omega, show 21 * (i + 1) = 21 * i + 20 + 1 by omega]; exact HS12.out⟩
    · have HR : Hid (Told w (.bool true) (.returned (.bool true)) wr) := ⟨rfl, hst.fresh⟩
      obtain rfl : i = len := by omega
      clear hst hD hig HIg
      generalize D.length = dl at *
      go_wp2_with fail
      first | exact HR.out | (go_ret; exact HR.out)
end Go.Proofs.YtcnbbenmlffgpaaGreatDoor

/- What the row's listed variables say of memory: the tables lie. No condition. -/
namespace Go.Proofs.YtcnbbenmlffgpaaGreatDoor
open Go.RowKit

def laids : List (String × DataW Unit) := [("math/bits.deBruijn32tab", Rows.laid_math_bits_deBruijn32tab), ("math/bits.deBruijn64tab", Rows.laid_math_bits_deBruijn64tab), ("quartermaster/pool.costs", Rows.laid_quartermaster_pool_costs)]
def dbt32 : List Int := [0, 1, 28, 2, 29, 14, 24, 3, 30, 22, 20, 15, 25, 17, 4, 8, 31, 27, 13, 23, 21, 19, 16, 7, 26, 12, 18, 6, 11, 5, 10, 9]
theorem g32 : Tryz.prog.globalNamed "math/bits.deBruijn32tab" = some 2 := by kernel_rfl
theorem t32 : (Tryz.prog.globals[2]?).map (·.type) = some 264 := by kernel_rfl
theorem g64 : Tryz.prog.globalNamed "math/bits.deBruijn64tab" = some 1 := by kernel_rfl
theorem gCost : Tryz.prog.globalNamed "quartermaster/pool.costs" = some 0 := by kernel_rfl
theorem t64 : (Tryz.prog.globals[1]?).map (·.type) = some 239 := by kernel_rfl
theorem tCost : (Tryz.prog.globals[0]?).map (·.type) = some 176 := by kernel_rfl
theorem env_of_laid {W : World} (h : laidMetH Tryz.prog laids W) : Env W := by
  rw [MakeChecks.laidMetH_plain _ _ _ (by kernel_rfl)] at h
  have h1 : laidMet Tryz.prog (("math/bits.deBruijn32tab", Lib.tabData .u8 dbt32) :: [("math/bits.deBruijn64tab", Rows.laid_math_bits_deBruijn64tab), ("quartermaster/pool.costs", Rows.laid_quartermaster_pool_costs)]) W := h
  have hA := Lib.tabIs_of_head g32 t32 Tryz.underlying264 Tryz.underlying5 (by kernel_rfl) (by kernel_rfl) h1
  have h2 : laidMet Tryz.prog (("math/bits.deBruijn64tab", Lib.tabData .u8 (dbt.map fun (n : Nat) => (n : Int))) :: [("quartermaster/pool.costs", Rows.laid_quartermaster_pool_costs)]) W := laidMet.tail h1
  have h3 : laidMet Tryz.prog (("quartermaster/pool.costs", Lib.tabData .i64 costL) :: []) W := laidMet.tail h2
  have hB := Lib.tabIs_of_head g64 t64 Tryz.underlying239 Tryz.underlying5 (by kernel_rfl) (by kernel_rfl) h2
  have hC := Lib.tabIs_of_head gCost tCost Tryz.underlying176 Tryz.underlying3 (by kernel_rfl) (by kernel_rfl) h3
  have cB : TabB W := by
    intro j v hv
    have hj := (List.getElem?_eq_some_iff.1 hv).1
    have := hB.cell g64 j (by simpa using hj)
    rw [this]
    congr 2
    simp [List.getD, hv]
  have cC : TabC W := by
    intro j v hv
    have hj := (List.getElem?_eq_some_iff.1 hv).1
    have := hC.cell gCost j (by simpa using hj)
    rw [this]
    congr 2
    simp [List.getD, hv]
  refine ⟨?_, cB, cC⟩
  have c0 := World.block_lt_of_cell? W ⟨1, 0, none⟩ (cB 0 0 rfl)
  have c1 := World.block_lt_of_cell? W ⟨0, 0, none⟩ (cC 0 0 rfl)
  have c2 := World.block_lt_of_cell? W ⟨2, 0, none⟩ (hA.cell g32 0 (by decide))
  have c0' : 1 < W.heap.size := c0
  have c1' : 0 < W.heap.size := c1
  have c2' : 2 < W.heap.size := c2
  unfold GB
  omega
end Go.Proofs.YtcnbbenmlffgpaaGreatDoor

/-
  CoreStale returns true at every input, whatever lies in memory, where the listed variables lie as laid.
  By hand, after the frame of the guide's worked examples. Not trusted: Lean checks it.
-/
namespace Go.Proofs.YtcnbbenmlffgpaaGreatDoor.coreStale
open Go.ChangeShapes Go.WideShapes Go.ChangeAt Go.RowKit
set_option linter.unusedVariables false

theorem own : ownKnob Tryz.prog.godebug = none := by kernel_rfl
theorem laidOut : laidOutB Tryz.prog = true := by kernel_rfl
/-- The door's own heap meets the condition: closed facts. -/
theorem door_met (os : Os) (args : Array Value) : laidMetH Tryz.prog laids ((World.doorLaid Tryz.prog 400 os).forCall (fun _ _ => 0) ⟨#[], args, []⟩).memory :=
  laidMetH_of_parts3 (fuel := 8) (laidMet_of_run' 8 (by kernel_rfl) (by kernel_rfl)) (by kernel_rfl) (by kernel_rfl)

set_option maxRecDepth 100000 in
theorem lifted (os : Os) (started : os.Started) (H : Type) (enc : TypeId × Value → H) :
    ReturnsInHanded {} Tryz.checked os 4 .any (fun w args => (Rows.coreStaleSpec.pre enc Tryz.prog Tryz.f4 [] false w args ∧ laidMetH Tryz.prog laids w) ∧ sizedMet enc Tryz.prog Tryz.f4 (OpenSpec.ofChange Rows.coreStaleSpec) false w args)
      (Rows.coreStaleSpec.post enc Tryz.prog Tryz.f4 false true false false) := by
  refine returnsInHanded_of_change_and (C := Tryz.checked) (X := fun w _ => laidMetH Tryz.prog laids w) (fun _ _ _ hh h => h.of_heap hh) own started (by kernel_rfl) Tryz.func4
    (ChangeSpec.witness_shaped (enc := enc) (C := Tryz.checked) (os := os) (X := fun w _ => laidMetH Tryz.prog laids w) false (World.doorLaid Tryz.prog 400 os) #[.slice none 0 0, .int .u8 0] 8 rfl (World.shaped_of_RefB (by kernel_rfl) (by kernel_rfl)) (by kernel_rfl) (by kernel_rfl) (by kernel_rfl) (door_met os _)) ?_
  intro W base args ds gs before hval0 hW _ _ hL _
  have hval : ∀ (j : Nat) t v, Tryz.f4.params[j]? = some t → args[j]? = some v → Value.okWide Tryz.prog W .any base t v := hval0
  have hW' := hW
  obtain ⟨p, q, hA0, hV, rfl, hfz, hnd⟩ := hW
  have hA : DataW.TrodAll enc Tryz.prog W 0 (fun _ => true) true Tryz.f4.params.toList args.toList ds p := hA0
  rw [Tryz.params4] at hA hval
  obtain ⟨v0, v1, d0, d1, p0, p1, rfl, rfl, rfl, h0, h1⟩ := trodAll_two hA
  obtain ⟨rfl, rfl⟩ := trodVars_none hV
  obtain ⟨a0, len0, cap0, rfl⟩ := okWide_slice Tryz.underlying22 (hval 0 22 v0 rfl rfl)
  have k0 := h0
  have lt0 : ∀ x ∈ p0, x.block < W.heap.size := by obtain ⟨m, hm⟩ := k0; exact DataW.trod_lt m _ _ _ hm
  obtain ⟨A0, hAct0⟩ : ∃ A, IsA5 W a0 len0 A := by
    obtain ⟨fuel, hf⟩ := h0
    exact open_acts5 (by simpa [Value.cells] using hf)
  obtain ⟨n1, rfl, rfl, rfl, wf1⟩ := open_int Tryz.underlying5 (hval 1 5 v1 rfl rfl) h1
  have hb1 : 0 ≤ n1 ∧ n1 < 256 := by
    have := bounds_u8 wf1
    omega
  obtain ⟨m1, rfl⟩ := Int.eq_ofNat_of_zero_le hb1.1
  clear hA0 hval0
  refine (stale_any (env_of_laid hL) a0 len0 cap0 A0 hAct0 m1 (by omega)).mono fun e W' ⟨he, bel⟩ => ?_
  subst he
  exact ⟨_, rfl, _, _, _, [], _, [], hW', trodAll_mk1 (shut_bool Tryz.underlying4 _), trodAll_mk2 (Below.trod laidOut (by kernel_rfl) (of_decide_eq_true (by kernel_rfl)) k0 bel lt0) (shut_int Tryz.underlying5 wf1), rfl, bel.frame _, fun h => by cases h⟩

theorem over : Rows.coreStaleRow.holds Tryz.pinned (OpenSpec.ofChange Rows.coreStaleSpec) :=
  OpenClaim.holds_of_wide 4 Tryz.f4 rfl rfl rfl rfl rfl rfl rfl ⟨rfl, rfl, rfl, rfl, rfl⟩ rfl rfl rfl rfl rfl (by kernel_rfl) Tryz.func4 (by kernel_rfl)
    (of_decide_eq_true (by kernel_rfl)) (by unfold Func.isWrapper; first | (rw [if_pos (by decide +kernel)]; kernel_rfl) | (rw [if_neg (by decide +kernel)]; exact ⟨rfl, rfl⟩))
    (fun os started H enc _ => lifted os started H enc)

/-- THE ROW. -/
theorem proved : Rows.CoreStaleSaid := over
end Go.Proofs.YtcnbbenmlffgpaaGreatDoor.coreStale
