/- CoreBack returns true at every input: once all is doomed and the period has gone by, the first factory alone is left and the free blocks are those of a new core. No condition. Part of its proof. -/
import Derived.Test.YtcnbbenmlffgpaaGreatDoorCb20
import Derived.Shelf.SlIterI.Nil
import Derived.Shelf.SortM.Plain
import Derived.Shelf.SortM.SortNone
import Derived.Shelf.SlGeneric
import Derived.Ground.GgzProg
import Derived.Ground.SlgmProg
import Derived.Test.YtcnbbenmlffgpaaGreatDoorProg
import Derived.Test.YtcnbbenmlffgpaaGreatDoorCb14
import Derived.Deep.Cut
import Derived.Test.YtcnbbenmlffgpaaGreatDoorCb01
import Derived.Lib.LaidTab
import Derived.LaidMore
import Derived.MakeChecks
import Derived.Stop.LaidErr
import Derived.Test.YtcnbbenmlffgpaaGreatDoorRows
import Derived.Test.YtcnbbenmlffgpaaGreatDoorCb18
import Derived.WalkKit
import Derived.ProofKit
import Derived.OpenShut
import Derived.ShutString
import Derived.Below
import Derived.Stop.Joined
set_option linter.unusedVariables false
/- CoreBack, one call behind the other. Conditions: the blocks hold what CO.hl says. -/
namespace Go.Proofs.YtcnbbenmlffgpaaGreatDoor
open Go.RowKit

/-- All that is live is under the first factory. -/
theorem all_under {S : CO} {fr : List Nat} {N K : Nat} (ok : S.Ok fr N K) : ∀ (x : Nat) (q : Pl), pget S.l 1 x = some q → x ≠ 0 → x ∈ under S.l S.P.q.next.toNat 0 := by
  have t := ok.inv.tree
  obtain ⟨r, r1, r2, r3, r4, r5, r6⟩ := ok.inv.que.root
  have hroot : pget S.l 1 0 = some r := pget_some.2 ⟨r1, by simp [nm, r5], r4⟩
  have key : ∀ n x q, q.fac < n → pget S.l 1 x = some q → x ≠ 0 → x ∈ under S.l S.P.q.next.toNat 0 := by
    intro n
    induction n with
    | zero => intro x q h; omega
    | succ n ih =>
      intro x q hn hq hx
      obtain ⟨a1, a2, a3⟩ := pget_some.1 hq
      have hi0 := root_name ok.inv.que hq hx
      obtain ⟨f, hf, f1, f2, f3⟩ := ok.inv.que.live (x % 256) q a1 hi0 a3
      obtain ⟨j, hj⟩ := List.mem_iff_getElem?.1 hf
      have hj256 : j < 256 := by have := (List.getElem?_eq_some_iff.1 hj).1; rw [ok.inv.len] at this; exact this
      have hfp : pget S.l 1 (nm j f) = some f := pget_some.2 ⟨by rw [nm_mod hj256]; exact hj, by rw [nm_mod hj256], f1⟩
      refine under_all t hroot r2 hq hx hx ?_
      by_cases h0 : nm j f = 0
      · left
        rw [h0, hroot] at hfp; cases hfp
        rw [← f3]
      · right
        have hlt := t.rise _ f hfp h0 f2
        exact ⟨nm j f, ih _ f (by omega) hfp h0, f, hfp, f2, f3⟩
  exact fun x q hq hx => key (q.fac + 1) x q (by omega) hq hx
theorem Step.beside {w w' : World} {A A' D : HL} (h : Sep w (A ++ D)) (st : Step A A' w w') : Step (A ++ D) (A' ++ D) w w' := Step.frame [] D h st
/-- The core under way, another one beside it. -/
def BkAt (S0 D : CO) (N K : Nat) (w wr : World) : Prop := ∃ (S : CO) (fr : List Nat), S.Ok fr N K ∧ Went S0 S ∧ Step [] (S.hl ++ D.hl) w wr
theorem bk_play {S0 D : CO} {N K : Nat} {w wr : World} (h : BkAt S0 D N K w wr) (hN : N + 1 < 1048576) (hK : K + 20 < 1048575) (x : A5) (hx : x.Wf) : Calls Tryz.prog 14 #[.pointer (some ⟨S0.c, 0, none⟩), .agg #[.int .i64 x.kind, .int .i64 x.n, .int .i64 x.k, .int .i64 x.m, .int .u32 x.h]] wr fun r w' => r = .returned (.tuple #[]) ∧ BkAt S0 D (N + 1) (K + 20) w w' := by
  obtain ⟨S, fr, ok, wt, st⟩ := h
  have := play_any st.sep.left ok hN hK x hx
  rw [wt.c] at this
  refine this.mono ?_
  rintro r w' ⟨rfl, ⟨S', fr', ok', wt', st'⟩, _⟩
  exact ⟨rfl, S', fr', ok', wt.trans wt', st.trans (st'.beside st.sep)⟩
/-- Those of L from i on are still to be doomed. -/
def BdAt (S0 D S1 : CO) (N K : Nat) (L : List Nat) (ua : Option Addr) (i : Nat) (w wr : World) : Prop := ∃ (S : CO) (fr : List Nat), S.Ok fr N K ∧ Went S0 S ∧ S.now = S1.now ∧ Dmd S1.l (L.take i) S.l ∧ Step [] (S.hl ++ D.hl) w wr ∧ Aside (S.hl ++ D.hl) L ua wr
theorem BdAt.row {S0 D S1 : CO} {N K : Nat} {L : List Nat} {ua : Option Addr} {i : Nat} {w wr : World} (h : BdAt S0 D S1 N K L ua i w wr) {j x : Nat} (hj : L[j]? = some x) : ∃ g, ua = some ⟨g, 0, none⟩ ∧ wr.cell? ⟨g, j, none⟩ = some (.int .u32 (x : Int)) := by
  obtain ⟨S, fr, _, _, _, _, _, hsd⟩ := h
  obtain ⟨g, h1, _, _, h4⟩ := hsd j x hj
  exact ⟨g, h1, h4⟩
theorem bk_under {S0 D : CO} {N K : Nat} {w wr : World} (h : BkAt S0 D N K w wr) : Calls Tryz.prog 17 #[.pointer (some ⟨S0.c, 0, none⟩), .int .u32 0] wr fun r w' => ∃ (S1 : CO) (fr : List Nat) (L : List Nat) (ua : Option Addr) (cap : Nat), r = .returned (.slice ua L.length cap) ∧ L.length ≤ 256 ∧ S1.Ok fr N K ∧ L = under S1.l S1.P.q.next.toNat 0 ∧ BdAt S0 D S1 N K L ua 0 w w' := by
  obtain ⟨S, fr, ok, wt, st⟩ := h
  have := cunder_any st.sep.left ok (x := 0) (by omega)
  rw [wt.c] at this
  refine this.mono ?_
  intro r w' hr
  obtain ⟨a, cap, rfl, hb, hsd⟩ := hr.aside st.sep
  refine ⟨S, fr, _, a, cap, rfl, ?_, ok, rfl, S, fr, ok, wt, rfl, by rw [List.take_zero]; exact Dmd.nil _, st.trans (st.sep.grown hb), hsd⟩
  have h1 := pre_len ok.inv.tree 0
  rw [pre_split ok.inv.tree 0, List.length_cons, List.length_reverse] at h1
  omega
theorem bk_doom {S0 D S1 : CO} {fr1 : List Nat} {N1 K1 N K : Nat} (ok1 : S1.Ok fr1 N1 K1) {L : List Nat} (hL : L = under S1.l S1.P.q.next.toNat 0) {ua : Option Addr} {j x : Nat} {w wr : World} (hu : BdAt S0 D S1 N K L ua j w wr) (hK : K ≤ 1048576) (hj : L[j]? = some x) :
    Calls Tryz.prog 19 #[.pointer (some ⟨S0.c, 0, none⟩), .int .u32 (x : Int)] wr fun r w' => r = .returned (.int .i64 0) ∧ BdAt S0 D S1 N K L ua (j + 1) w w' := by
  obtain ⟨S, fr, ok, wt, en, d, st, hsd⟩ := hu
  have t := ok1.inv.tree
  obtain ⟨r, r1, r2, r3, r4, r5, r6⟩ := ok1.inv.que.root
  have hroot : pget S1.l 1 0 = some r := pget_some.2 ⟨r1, by simp [nm, r5], r4⟩
  have hsp : under S1.l S1.P.q.next.toNat 0 = L.take j ++ x :: L.drop (j + 1) := by
    rw [← hL]
    have e := (List.getElem?_eq_some_iff.1 hj).2
    rw [← e, List.getElem_cons_drop, List.take_append_drop]
  obtain ⟨q, h1, h2, h3, h4, h5, h6, h7⟩ := under_row t hroot r2 hsp
  have hxA : x ∉ L.take j := fun hm => h5 x hm rfl
  have hl0 : S1.l.length ≤ 256 := by rw [ok1.inv.lok.1]; exact Nat.le_refl _
  have hl1 : S.l.length ≤ 256 := by rw [ok.inv.lok.1]; exact Nat.le_refl _
  have hkids := d.none_left hl0 hl1 h6
  have hx : pget S.l 1 x = some q := by rw [d x, if_neg hxA]; exact h1
  have := cdoom_any st.sep.left ok hK (pget_lt ok hx)
  rw [wt.c] at this
  refine this.mono ?_
  rintro r w' (⟨e, _⟩ | ⟨_, e, _⟩ | ⟨_, _, e, _⟩ | ⟨p', rv, hp', h0, hk', hov, rfl, st'⟩)
  · rw [hx] at e; cases e
  · exact absurd e h3
  · exact absurd hkids e
  · have sb := st'.beside st.sep
    refine ⟨rfl, _, fr, ok.doomed hp' h0 hk' hov, wt.trans (Went.doomed ok hp' h0 rv), en, ?_, st.trans sb, hsd.step sb⟩
    have : L.take (j + 1) = L.take j ++ [x] := by rw [List.take_add_one, hj]; rfl
    rw [this]
    exact d.step (dmd_set hp')
/-- So many ticks went by behind the dooming. -/
def BtAt (S0 D : CO) (N K n t0 i : Nat) (w wr : World) : Prop := ∃ (S : CO) (fr : List Nat), S.Ok fr N (K + i) ∧ Went S0 S ∧ S.now = t0 + i ∧ (∀ x p, pget S.l 1 x = some p → x = 0) ∧ (∀ t ∈ S.ts, t.2 ≤ t0 + n) ∧ Step [] (S.hl ++ D.hl) w wr
theorem BdAt.ticks {S0 D S1 : CO} {fr1 : List Nat} {N K n : Nat} (ok1 : S1.Ok fr1 N K) (hper : S0.period = n) {L : List Nat} (hL : L = under S1.l S1.P.q.next.toNat 0) {ua : Option Addr} {w wr : World} (hu : BdAt S0 D S1 N K L ua L.length w wr) : BtAt S0 D N K n S1.now 0 w wr := by
  obtain ⟨S, fr, ok, wt, en, d, st, hsd⟩ := hu
  rw [List.take_length] at d
  refine ⟨S, fr, ok, wt, en, fun x p hp => ?_, fun t ht => ?_, st⟩
  · apply Classical.byContradiction
    intro h0
    rw [d x] at hp
    split at hp
    · cases hp
    · rename_i hm
      exact hm (by rw [hL]; exact all_under ok1 x p hp h0)
  · have := (ok.due t ht).2
    rw [wt.per, hper, en] at this
    exact this
theorem bk_tick {S0 D : CO} {N K n t0 i : Nat} {w wr : World} (h : BtAt S0 D N K n t0 i w wr) (hK : K + i < 1048575) : Calls Tryz.prog 20 #[.pointer (some ⟨S0.c, 0, none⟩)] wr fun r w' => (∃ a : Value, r = .returned a) ∧ BtAt S0 D N K n t0 (i + 1) w w' := by
  obtain ⟨S, fr, ok, wt, en, hlv, hts, st⟩ := h
  have := ctick_any st.sep.left ok hK
  rw [wt.c] at this
  refine this.mono ?_
  rintro r w' ⟨rv, S', fr', v, rfl, hrow, hov, htk, ok', st', hoff⟩
  refine ⟨⟨_, rfl⟩, S', fr', ok', wt.trans htk.went, ?_, fun x p hp => ?_, fun t ht => ?_, st.trans (st'.beside st.sep)⟩
  · rw [htk.now]; show S.now + 1 = _; omega
  · rw [htk.live] at hp; exact hlv x p hp
  · rw [htk.ts] at ht
    exact hts t ((List.dropWhile_sublist _).subset ht)
/-- Two cores of which nothing is left but the first factory have the same free blocks. -/
theorem alone_ps {S0 S : CO} {fr0 fr : List Nat} {N0 K0 N K : Nat} (ok0 : S0.Ok fr0 N0 K0) (ok : S.Ok fr N K) (wt : Went S0 S) (h0 : ∀ x p, pget S0.l 1 x = some p → x = 0) (t0 : S0.ts = []) (h1 : ∀ x p, pget S.l 1 x = some p → x = 0) (t1 : S.ts = []) : S.P.d.ps.Perm S0.P.d.ps := by
  obtain ⟨r0, a0, rfl⟩ := ok0.alone h0 t0
  obtain ⟨r, a, rfl⟩ := ok.alone h1 t1
  have hr : r = r0 := by
    have := a.root
    rw [wt.root, a0.root] at this
    exact (Option.some.inj this).symm
  refine ps_perm ok0.inv.mem.pool ok.inv.mem.pool (fun k => ?_) (List.Perm.refl _)
  by_cases hk0 : k = 0
  · subst hk0; exact List.Perm.refl _
  · by_cases hk6 : 6 ≤ k
    · exact wt.high k hk6
    · rw [a.used k (by omega) (by omega), a0.used k (by omega) (by omega), hr]
end Go.Proofs.YtcnbbenmlffgpaaGreatDoor

/- The kit's contracts of maps.Keys, slices.Sorted and slices.Sort at whole numbers, laid at this program: tables of numbers and three theorems. No condition. -/
namespace Go.Proofs.YtcnbbenmlffgpaaGreatDoor
open Go.Shelf
def keysI_ren : Go.Shelf.Ren := ⟨fun | 7 => 94 | 10 => 144 | n => n, fun | 23 => 170 | 26 => 3 | 3 => 131 | 28 => 168 | 0 => 0 | 27 => 167 | 33 => 129 | 4 => 4 | n => n, fun | n => n⟩
theorem keysI : Go.Proofs.SlLaysZI.n7 Tryz.prog keysI_ren := {
  mixed := by kernel_rfl
  f7 := ⟨Tryz.f94.name, by decide, Tryz.func94.trans (congrArg some (by kernel_rfl))⟩
  f10 := ⟨Tryz.f144.name, by decide, Tryz.func144.trans (congrArg some (by kernel_rfl))⟩
  t0 := Tryz.underlying0
  a0 := Tryz.isAgg0
  z0 := Tryz.sizeOf0
  v0 := Tryz.zeroValue0
  t4 := Tryz.underlying4
  a4 := Tryz.isAgg4
  z4 := Tryz.sizeOf4
  v4 := Tryz.zeroValue4
  t23 := Tryz.underlying170
  a23 := Tryz.isAgg170
  z23 := Tryz.sizeOf170
  v23 := Tryz.zeroValue170
  t26 := Tryz.underlying3
  a26 := Tryz.isAgg3
  z26 := Tryz.sizeOf3
  v26 := Tryz.zeroValue3
  t27 := Tryz.underlying167
  a27 := Tryz.isAgg167
  z27 := Tryz.sizeOf167
  v27 := Tryz.zeroValue167
  t28 := Tryz.underlying168
  a28 := Tryz.isAgg168
  z28 := Tryz.sizeOf168
  v28 := Tryz.zeroValue168
  t33 := Tryz.underlying129
  a33 := Tryz.isAgg129
  z33 := Tryz.sizeOf129
  v33 := Tryz.zeroValue129 }
def sortedI_ren : Go.Shelf.Ren := ⟨fun | 6 => 93 | 8 => 142 | 9 => 143 | 11 => 169 | 13 => 167 | 12 => 170 | 23 => 196 | 24 => 197 | 14 => 198 | 15 => 199 | 16 => 200 | 17 => 201 | 18 => 202 | 19 => 203 | 20 => 204 | 21 => 205 | 22 => 206 | 25 => 214 | 26 => 210 | 27 => 211 | 28 => 215 | 29 => 216 | 30 => 168 | 31 => 219 | n => n, fun | 26 => 3 | 28 => 168 | 24 => 57 | 0 => 0 | 3 => 3 | 37 => 103 | 48 => 27 | 50 => 193 | 4 => 4 | 40 => 254 | 39 => 253 | 45 => 233 | 5 => 5 | 9 => 9 | 51 => 265 | 55 => 269 | 57 => 274 | 58 => 94 | 33 => 129 | n => n, fun | n => n⟩
theorem sortedI : Go.Proofs.SlLaysZI.n6 Tryz.prog sortedI_ren := {
  mixed := by kernel_rfl
  f6 := ⟨Tryz.f93.name, by decide, Tryz.func93.trans (congrArg some (by kernel_rfl))⟩
  f8 := ⟨Tryz.f142.name, by decide, Tryz.func142.trans (congrArg some (by kernel_rfl))⟩
  f11 := ⟨Tryz.f169.name, by decide, Tryz.func169.trans (congrArg some (by kernel_rfl))⟩
  t0 := Tryz.underlying0
  a0 := Tryz.isAgg0
  z0 := Tryz.sizeOf0
  v0 := Tryz.zeroValue0
  t24 := Tryz.underlying57
  a24 := Tryz.isAgg57
  z24 := Tryz.sizeOf57
  v24 := Tryz.zeroValue57
  t26 := Tryz.underlying3
  a26 := Tryz.isAgg3
  z26 := Tryz.sizeOf3
  v26 := Tryz.zeroValue3
  t28 := Tryz.underlying168
  a28 := Tryz.isAgg168
  z28 := Tryz.sizeOf168
  v28 := Tryz.zeroValue168
  i26 := by kernel_rfl }
def sortI_ren : Go.Shelf.Ren := ⟨fun | 5 => 143 | 8 => 167 | 7 => 170 | 19 => 196 | 20 => 197 | 10 => 198 | 11 => 199 | 12 => 200 | 13 => 201 | 14 => 202 | 15 => 203 | 16 => 204 | 17 => 205 | 18 => 206 | 30 => 214 | 31 => 210 | 32 => 211 | 33 => 215 | 34 => 216 | 35 => 168 | 40 => 219 | n => n, fun | 23 => 57 | 25 => 3 | 3 => 3 | 32 => 103 | 22 => 57 | 0 => 0 | 44 => 27 | 46 => 193 | 4 => 4 | 36 => 254 | 35 => 253 | 41 => 233 | 5 => 5 | 9 => 9 | 53 => 265 | 57 => 269 | 63 => 274 | 64 => 94 | n => n, fun | n => n⟩
theorem sortI : Go.Proofs.SlLaysM.n5 Tryz.prog sortI_ren := {
  mixed := by kernel_rfl
  f5 := ⟨Tryz.f143.name, by decide, Tryz.func143.trans (congrArg some (by kernel_rfl))⟩
  f7 := ⟨Tryz.f170.name, by decide, Tryz.func170.trans (congrArg some (by kernel_rfl))⟩
  f8 := Tryz.func167.trans (congrArg some (by kernel_rfl))
  f10 := ⟨Tryz.f198.name, by decide, Tryz.func198.trans (congrArg some (by kernel_rfl))⟩
  f11 := ⟨Tryz.f199.name, by decide, Tryz.func199.trans (congrArg some (by kernel_rfl))⟩
  f12 := ⟨Tryz.f200.name, by decide, Tryz.func200.trans (congrArg some (by kernel_rfl))⟩
  f13 := ⟨Tryz.f201.name, by decide, Tryz.func201.trans (congrArg some (by kernel_rfl))⟩
  f14 := ⟨Tryz.f202.name, by decide, Tryz.func202.trans (congrArg some (by kernel_rfl))⟩
  f15 := ⟨Tryz.f203.name, by decide, Tryz.func203.trans (congrArg some (by kernel_rfl))⟩
  f16 := ⟨Tryz.f204.name, by decide, Tryz.func204.trans (congrArg some (by kernel_rfl))⟩
  f17 := ⟨Tryz.f205.name, by decide, Tryz.func205.trans (congrArg some (by kernel_rfl))⟩
  f18 := ⟨Tryz.f206.name, by decide, Tryz.func206.trans (congrArg some (by kernel_rfl))⟩
  f19 := Tryz.func196.trans (congrArg some (by kernel_rfl))
  f20 := Tryz.func197.trans (congrArg some (by kernel_rfl))
  f30 := ⟨Tryz.f214.name, by decide, Tryz.func214.trans (congrArg some (by kernel_rfl))⟩
  f31 := Tryz.func210.trans (congrArg some (by kernel_rfl))
  f32 := Tryz.func211.trans (congrArg some (by kernel_rfl))
  f33 := ⟨Tryz.f215.name, by decide, Tryz.func215.trans (congrArg some (by kernel_rfl))⟩
  f34 := ⟨Tryz.f216.name, by decide, Tryz.func216.trans (congrArg some (by kernel_rfl))⟩
  f35 := ⟨Tryz.f168.name, by decide, Tryz.func168.trans (congrArg some (by kernel_rfl))⟩
  f40 := ⟨Tryz.f219.name, by decide, Tryz.func219.trans (congrArg some (by kernel_rfl))⟩
  t0 := Tryz.underlying0
  a0 := Tryz.isAgg0
  z0 := Tryz.sizeOf0
  v0 := Tryz.zeroValue0
  t3 := Tryz.underlying3
  a3 := Tryz.isAgg3
  z3 := Tryz.sizeOf3
  v3 := Tryz.zeroValue3
  t4 := Tryz.underlying4
  a4 := Tryz.isAgg4
  z4 := Tryz.sizeOf4
  v4 := Tryz.zeroValue4
  t5 := Tryz.underlying5
  a5 := Tryz.isAgg5
  z5 := Tryz.sizeOf5
  v5 := Tryz.zeroValue5
  t9 := Tryz.underlying9
  a9 := Tryz.isAgg9
  z9 := Tryz.sizeOf9
  v9 := Tryz.zeroValue9
  t22 := Tryz.underlying57
  a22 := Tryz.isAgg57
  z22 := Tryz.sizeOf57
  v22 := Tryz.zeroValue57
  t23 := Tryz.underlying57
  a23 := Tryz.isAgg57
  z23 := Tryz.sizeOf57
  v23 := Tryz.zeroValue57
  t25 := Tryz.underlying3
  a25 := Tryz.isAgg3
  z25 := Tryz.sizeOf3
  v25 := Tryz.zeroValue3
  t32 := Tryz.underlying103
  a32 := Tryz.isAgg103
  z32 := Tryz.sizeOf103
  v32 := Tryz.zeroValue103
  t35 := Tryz.underlying253
  a35 := Tryz.isAgg253
  z35 := Tryz.sizeOf253
  v35 := Tryz.zeroValue253
  t36 := Tryz.underlying254
  a36 := Tryz.isAgg254
  z36 := Tryz.sizeOf254
  v36 := Tryz.zeroValue254
  t41 := Tryz.underlying233
  a41 := Tryz.isAgg233
  z41 := Tryz.sizeOf233
  v41 := Tryz.zeroValue233
  t44 := Tryz.underlying27
  a44 := Tryz.isAgg27
  z44 := Tryz.sizeOf27
  v44 := Tryz.zeroValue27
  t46 := Tryz.underlying193
  a46 := Tryz.isAgg193
  z46 := Tryz.sizeOf193
  v46 := Tryz.zeroValue193
  t53 := Tryz.underlying265
  a53 := Tryz.isAgg265
  z53 := Tryz.sizeOf265
  v53 := Tryz.zeroValue265
  t57 := Tryz.underlying269
  a57 := Tryz.isAgg269
  z57 := Tryz.sizeOf269
  v57 := Tryz.zeroValue269
  t63 := Tryz.underlying274
  a63 := Tryz.isAgg274
  z63 := Tryz.sizeOf274
  v63 := Tryz.zeroValue274
  t64 := Tryz.underlying94
  a64 := Tryz.isAgg94
  z64 := Tryz.sizeOf94
  v64 := Tryz.zeroValue94 }
end Go.Proofs.YtcnbbenmlffgpaaGreatDoor

/- Walk of the tree's Ids: the ids, sorted, in a new row. Conditions: the tree's blocks hold what QT.hl says; the ids are small numbers. -/
namespace Go.Proofs.YtcnbbenmlffgpaaGreatDoor
open Go.RowKit Go.Maps Go.Sort Go.Shelf

abbrev idR : Value → Option (DataW Unit × List MemPlace) := fun _ => some (.nil, [])
theorem owns_mapInt {w : World} {m : Nat} {kv : List (Int × Value)} (h : MapInt w m kv) {P : Program} {k : TypeId} (hk : P.underlying k = some (.int .i64)) (hsz : kv.length ≤ maxLen) (hid : ∀ p ∈ kv, (Lit.int .i64 p.1).wf = true) :
    ∃ D : DataW Unit, w.ownsMap P k idR m kv.length D ∧ (intKeys D).Perm (kv.map (·.1)) ∧ Maps.size D = kv.length := by
  obtain ⟨es, clock, hb, hs, hr⟩ := h
  have hlen : es.size = kv.length := by
    have := congrArg List.length hr
    simpa using this
  have hrd : ∀ p ∈ kv, keyOf P k (.int .i64 p.1) = some (.int .i64 p.1) := fun p hp => keyOf_int_mk hk (hid p hp)
  have hmem : ∀ x ∈ es.toList, ∃ p ∈ kv, x.key = .int .i64 p.1 := by
    intro x hx
    have hm : (x.key, x.val) ∈ kv.map (fun p => (Value.int .i64 p.1, p.2)) := by
      rw [← hr]; exact List.mem_map.2 ⟨x, hx, rfl⟩
    obtain ⟨p, hp, he⟩ := List.mem_map.1 hm
    exact ⟨p, hp, ((Prod.mk.injEq _ _ _ _).mp he).1.symm⟩
  have hF : WideElems.Fit P k idR es clock := by
    refine ⟨by omega, hs, fun x hx => ?_⟩
    obtain ⟨p, hp, he⟩ := hmem x hx
    exact ⟨(.int .i64 p.1, .nil), by simp [WideElems.rd, he, hrd p hp]⟩
  have hrg : es.toList.map (WideElems.rg P k idR) = kv.map fun (p : Int × Value) => (Lit.int .i64 p.1, (DataW.nil : DataW Unit)) := by
    have e1 : es.toList.map (WideElems.rg P k idR) = (es.toList.map fun (e : MapEntry) => (e.key, e.val)).map fun (z : Value × Value) => ((keyOf P k z.1).map fun (key : Lit) => (key, (DataW.nil : DataW Unit))).getD (.bool false, .nil) := by
      rw [List.map_map]
      refine List.map_congr_left fun x _ => ?_
      cases hkx : keyOf P k x.key <;> simp [WideElems.rg, WideElems.rd, hkx]
    rw [e1, hr, List.map_map]
    refine List.map_congr_left fun p hp => ?_
    simp [hrd p hp]
  refine ⟨_, ⟨es, clock, hb, hF, by omega, rfl⟩, ?_, ?_⟩
  · show (List.map (fun (p : Lit × DataW Unit) => Go.intOf p.1) _).Perm _
    refine ((WideShapes.sorted_perm _).map _).trans ?_
    rw [hrg, List.map_map]
    exact List.Perm.of_eq rfl
  · show (List.foldr DataW.insert [] _).length = _
    rw [length_sorted, hrg]
    simp

/-- slices.Sort's two contracts at this program. -/
theorem sortsI (m : Nat) : AnyZI.SortsIn Tryz.prog sortedI_ren Fence.wide m :=
  ⟨fun blk off cap ss W hH hblk hsz => callsIn_wide.2 (AnyM.slices_Sort_int sortI blk off cap ss W hH hblk hsz),
   fun p cap W => callsIn_wide.2 (AnyM.slices_Sort_int_none sortI p cap W)⟩

def IdsQ (w : World) (q : QT) (e : Ending) (w' : World) : Prop :=
  ∃ v, e = .returned v ∧ w'.ownsRow w.heap.size 3 1 v q.E.length (((q.E.map (·.id)).mergeSort leI).map encZ) ∧ Below w.heap.size w w'
set_option maxHeartbeats 2000000 in
theorem qids_any {w : World} {q : QT} (h : Sep w q.hl) (hsz : q.E.length ≤ 1000) (hid : ∀ e ∈ q.E, 0 ≤ e.id ∧ e.id < 1048576) :
    Calls Tryz.prog 50 #[ptr q.t] w (IdsQ w q) := by
  have hl : (kvs q.E).length = q.E.length := by simp [kvs]
  obtain ⟨D, hown, hperm, hD⟩ := owns_mapInt (QT.map h) (k := 3) Tryz.underlying3 (by rw [hl]; unfold maxLen; omega) (by
    intro p hp
    obtain ⟨e, he, rfl⟩ := List.mem_map.1 hp
    have := hid e he
    have h1 : IntKind.i64.min = -9223372036854775808 := rfl
    have h2 : IntKind.i64.max = 9223372036854775807 := rfl
    simp only [Lit.wf, Bool.and_eq_true, decide_eq_true_eq, h1, h2]
    omega)
  have hperm' : (intKeys D).Perm (q.E.map (·.id)) := by
    unfold kvs at hperm
    rw [List.map_map] at hperm
    exact hperm
  have c0 := QT.c0 h
  have hbl := hown.lt
  have hseq : SeqGives Fence.wide 2 Tryz.prog 144 #[.pointer (some ⟨w.heap.size, 0, none⟩)] encZ (fun ss => ss.Perm (intKeys D)) (Maps.size D) (w.alloc (.cells #[.map (some q.m)] 170)) :=
    AnyZI.keys_gives (ρ := keysI_ren) { keysI with } Fence.wide _ trivial rfl (by omega) w.heap.size q.m (kvs q.E).length D _ (by simp) (by simp) (by
      obtain ⟨es, clock, hb, Ft, hs, hD⟩ := hown
      exact ⟨es, clock, (Below.heap_alloc _ _ q.m hbl).trans hb, Ft, hs, hD⟩)
  have cK : ∀ mb W, Calls Tryz.prog 94 #[.map mb] W fun e w' => e = .returned (.func (.func 144) #[] #[.pointer (some ⟨W.heap.size, 0, none⟩)]) ∧ w' = W.alloc (.cells #[.map mb] 170) := fun mb W => (callsIn_wide (n := 5)).1 (AnyZI.keys_in keysI Fence.wide 5 trivial rfl mb W)
  have cS := AnyZI.sorted_in sortedI Fence.wide 5 trivial trivial trivial trivial rfl (by omega) (sortsI _) (enters_of Tryz.func143 (by kernel_rfl) rfl) 144 #[.pointer (some ⟨w.heap.size, 0, none⟩)] trivial (enters_of Tryz.func144 (by kernel_rfl) rfl) _ _ (by rw [hD, hl]; unfold maxLen; omega) (by rw [hD, hl]; omega) _ hseq
  change CallsIn _ _ Tryz.prog 93 _ _ _ at cS
  have cS := callsIn_wide.1 cS
  have hfin : ∀ e w', (∃ (v : Value) (ss : List Int), e = .returned v ∧ ss.Perm (intKeys D) ∧
      w'.ownsRow (w.alloc (.cells #[.map (some q.m)] 170)).heap.size 3 1 v ss.length ((ss.mergeSort (fun x y => decide (x ≤ y))).map encZ) ∧ (v = .slice none 0 0 ↔ ss = []) ∧ Below (w.alloc (.cells #[.map (some q.m)] 170)).heap.size (w.alloc (.cells #[.map (some q.m)] 170)) w') → IdsQ w q e w' := by
    rintro e w' ⟨v, ss, rfl, hS, hrow, _, hb⟩
    have hp := hS.trans hperm'
    rw [mergeSort_of_perm_i hp, show ss.length = q.E.length by simpa using hp.length_eq] at hrow
    exact ⟨v, rfl, ownsRow_base_a hrow (by simp), ((Below.refl _ w).alloc (Nat.le_refl _) _).trans (hb.mono (by simp))⟩
  have HF := hidden hfin
  generalize hQ : IdsQ w q = Q at *
  clear h hid hown hperm hperm' hseq hD hfin hQ hl hsz
  unfold ptr at *
  go_enter Tryz.func50, Tryz.ntmps50
  go_wp2_with (first
    | (go_at_call 94; refine (cK _ _).mono ?_; rintro e w' ⟨rfl, rfl⟩)
    | (go_at_call 93; refine cS.mono ?_; intro e w' hres; have HR := hidden hres; obtain ⟨v, ss, rfl, hS, hrow, hnil, hb⟩ := hres; clear hS hrow hnil hb))
  exact HF.out _ _ HR.out
end Go.Proofs.YtcnbbenmlffgpaaGreatDoor

/- CoreBack: how it ends. Conditions: the blocks hold what CO.hl says. -/
namespace Go.Proofs.YtcnbbenmlffgpaaGreatDoor
open Go.RowKit

set_option maxRecDepth 20000 in
theorem newL_only {a x : Nat} {p : Pl} (h : pget (newL a) 1 x = some p) : x = 0 := by
  obtain ⟨h1, h2, h3⟩ := pget_some.1 h
  by_cases h0 : x % 256 = 0
  · rw [h0] at h1 h2
    have : p = ⟨1, a, 0, 1, 0, 0⟩ := by
      unfold newL at h1
      rw [List.getElem?_cons_zero] at h1
      exact (Option.some.inj h1).symm
    subst this
    simp only [nm] at h2
    omega
  · exfalso
    have : p = noPl 0 := by
      unfold newL at h1
      obtain ⟨m, hm⟩ := Nat.exists_eq_succ_of_ne_zero h0
      rw [hm, List.getElem?_cons_succ] at h1
      exact List.eq_of_mem_replicate (List.mem_of_getElem? h1)
    subst this
    cases h3
/-- What is known of the two cores at the end. -/
structure BeS (S D : CO) : Prop where
  ok : ∃ fr N K, S.Ok fr N K
  okd : D.Ok [] 1 0
  al : ∃ r, Alone S r
  top : S.P.d.top = 6
  topd : D.P.d.top = 6
  ps : S.P.d.ps.Perm [0]
  psd : D.P.d.ps = [0]
theorem BtAt.ends {S0 D : CO} {N K n t0 : Nat} {limit : Int} {w wr : World} (hS0 : FreshO S0 6 limit n) (hD : FreshO D 6 65536 n) (h : BtAt S0 D N K n t0 n w wr) : ∃ S : CO, S.c = S0.c ∧ BeS S D ∧ Step [] (S.hl ++ D.hl) w wr := by
  obtain ⟨S, fr, ok, wt, en, hlv, hts, st⟩ := h
  have hts0 : S.ts = [] := by
    cases e : S.ts with
    | nil => rfl
    | cons t r =>
      have h1 := (ok.due t (by rw [e]; exact List.mem_cons_self)).1
      have h2 := hts t (by rw [e]; exact List.mem_cons_self)
      omega
  obtain ⟨r, a, rfl⟩ := ok.alone hlv hts0
  refine ⟨S, wt.c, ⟨⟨_, _, _, ok⟩, hD.ok, ⟨r, a⟩, wt.same.top.trans hS0.top, hD.top, ?_, hD.ps⟩, st⟩
  have := alone_ps hS0.ok ok wt (fun x p hp => by rw [hS0.l] at hp; exact newL_only hp) hS0.ts hlv hts0
  rw [hS0.ps] at this
  exact this
section
variable {S D : CO} {w wr : World}
/-- Free of both, and the comparing. -/
theorem be_free (e : BeS S D) (st : Step [] (S.hl ++ D.hl) w wr) : ∃ pp bb : Nat, (Calls Tryz.prog 24 #[.pointer (some ⟨S.c, 0, none⟩)] wr fun r w' => r = .returned (.pointer (some ⟨pp, 0, none⟩)) ∧ wr = w') ∧
    (Calls Tryz.prog 41 #[.pointer (some ⟨pp, 0, none⟩)] wr fun r w' => r = .returned (.pointer (some ⟨bb, 0, none⟩)) ∧ wr = w') ∧
    (Calls Tryz.prog 42 #[.pointer (some ⟨bb, 0, none⟩)] wr fun r w1 => ∃ (a : Option Addr) (len cap pd bd : Nat), r = .returned (.slice a len cap) ∧
      (Calls Tryz.prog 24 #[.pointer (some ⟨D.c, 0, none⟩)] w1 fun r w' => r = .returned (.pointer (some ⟨pd, 0, none⟩)) ∧ w1 = w') ∧
      (Calls Tryz.prog 41 #[.pointer (some ⟨pd, 0, none⟩)] w1 fun r w' => r = .returned (.pointer (some ⟨bd, 0, none⟩)) ∧ w1 = w') ∧
      (Calls Tryz.prog 42 #[.pointer (some ⟨bd, 0, none⟩)] w1 fun r w2 => ∃ (a' : Option Addr) (cap' : Nat), r = .returned (.slice a' len cap') ∧
        Calls Tryz.prog 40 #[.slice a len cap, .slice a' len cap'] w2 (Told w (.bool true)))) := by
  obtain ⟨fr, N, K, ok⟩ := e.ok
  have s1 : Sep wr S.hl := st.sep.left
  refine ⟨S.P.p, S.P.d.b, cmemory_any s1, pblocks_any (CO.sP s1), ?_⟩
  refine (bfree_any (PL.sD (CO.sP s1)) ok.inv.mem.pool.d.is).mono ?_
  intro r w1 hr
  obtain ⟨a, cap, L, rfl, hp, hs, hb, hrd, _⟩ := hr.reads
  have st1 := st.trans (st.sep.grown hb)
  have s2 : Sep w1 D.hl := st1.sep.right
  refine ⟨a, L.length, cap, D.P.p, D.P.d.b, rfl, cmemory_any s2, pblocks_any (CO.sP s2), ?_⟩
  refine (bfree_any (PL.sD (CO.sP s2)) e.okd.inv.mem.pool.d.is).mono ?_
  intro r w2 hr2
  obtain ⟨a', cap', M, rfl, hp', hs', hb', hrd', _⟩ := hr2.reads
  have st2 := st1.trans (st1.sep.grown hb')
  have hu : ∀ p, uOf S.P.d.ps p = uOf D.P.d.ps p := fun p => by
    unfold uOf
    rw [e.psd]
    have : p ∈ S.P.d.ps ↔ p ∈ [0] := e.ps.mem_iff
    simp only [this]
  rw [e.top] at hp
  rw [e.topd] at hp'
  have hLM : L = M := free_uniq hu hp hp' hs hs'
  subst hLM
  refine ⟨a', cap', rfl, ?_⟩
  have hlen : L.length ≤ 33554432 := by
    rw [hp.length_eq]
    exact Nat.le_trans (freeTo_len _ 6 (by omega) 7) (by omega)
  refine (sameb_any w2 a a' cap cap' L (hrd.below hb') hrd' hlen).mono ?_
  rintro r w3 ⟨rfl, hb3⟩
  exact ⟨rfl, (st2.trans (st2.sep.grown hb3)).fresh⟩
/-- The ids. -/
theorem be_ids (e : BeS S D) (st : Step [] (S.hl ++ D.hl) w wr) : ∃ pp qt : Nat, (Calls Tryz.prog 24 #[.pointer (some ⟨S.c, 0, none⟩)] wr fun r w' => r = .returned (.pointer (some ⟨pp, 0, none⟩)) ∧ wr = w') ∧
    (Calls Tryz.prog 26 #[.pointer (some ⟨pp, 0, none⟩)] wr fun r w' => r = .returned (.pointer (some ⟨qt, 0, none⟩)) ∧ wr = w') ∧
    (Calls Tryz.prog 28 #[.pointer (some ⟨qt, 0, none⟩), .int .i64 0] wr fun r w1 => r = .returned (.int .i64 64) ∧
      (Calls Tryz.prog 24 #[.pointer (some ⟨S.c, 0, none⟩)] w1 fun r w' => r = .returned (.pointer (some ⟨pp, 0, none⟩)) ∧ w1 = w') ∧
      (Calls Tryz.prog 26 #[.pointer (some ⟨pp, 0, none⟩)] w1 fun r w' => r = .returned (.pointer (some ⟨qt, 0, none⟩)) ∧ w1 = w') ∧
      (Calls Tryz.prog 50 #[.pointer (some ⟨qt, 0, none⟩)] w1 fun r w2 => ∃ (a : Option Addr) (cap : Nat), r = .returned (.slice a 1 cap) ∧ Step [] (S.hl ++ D.hl) w w2)) := by
  obtain ⟨fr, N, K, ok⟩ := e.ok
  obtain ⟨r, al⟩ := e.al
  obtain ⟨x, hE, x0, xc, xg, xk⟩ := al.acc
  have hf : find S.P.q.E 0 = some x := by rw [hE]; unfold find; rw [if_pos x0.symm]
  have s1 : Sep wr S.hl := st.sep.left
  refine ⟨S.P.p, S.P.q.t, cmemory_any s1, pquota_any (CO.sP s1), ?_⟩
  have hu := quse_some (PL.sQ (CO.sP s1)) ok.inv.mem.pool.q hf
  rw [xc, xg] at hu
  refine hu.mono ?_
  rintro r w1 ⟨rfl, hb⟩
  have st1 := st.trans (st.sep.grown hb)
  have s2 : Sep w1 S.hl := st1.sep.left
  refine ⟨rfl, cmemory_any s2, pquota_any (CO.sP s2), ?_⟩
  refine (qids_any (PL.sQ (CO.sP s2)) (by rw [hE]; show 1 ≤ 1000; omega) (fun y hy => by rw [hE] at hy; rw [List.mem_singleton.1 hy, x0]; omega)).mono ?_
  rintro r w2 ⟨v, rfl, hrow, hb2⟩
  have hl : S.P.q.E.length = 1 := by rw [hE]; rfl
  rw [hl] at hrow
  have st2 := st1.trans (st1.sep.grown hb2)
  rcases hrow.2 with ⟨_, h0⟩ | ⟨g, cap, cur, rfl, _⟩
  · omega
  · exact ⟨_, cap, rfl, st2⟩
/-- What is live, what still waits. -/
theorem be_live (e : BeS S D) (st : Step [] (S.hl ++ D.hl) w wr) : Calls Tryz.prog 15 #[.pointer (some ⟨S.c, 0, none⟩)] wr fun r w1 => ∃ (a : Option Addr) (cap : Nat), r = .returned (.slice a 1 cap) ∧
    Calls Tryz.prog 32 #[.pointer (some ⟨S.c, 0, none⟩)] w1 fun r w2 => ∃ (a : Option Addr) (cap : Nat), r = .returned (.slice a 0 cap) ∧ Step [] (S.hl ++ D.hl) w w2 := by
  obtain ⟨fr, N, K, ok⟩ := e.ok
  obtain ⟨r, al⟩ := e.al
  refine (clive_any st.sep.left ok.inv.lok).mono ?_
  intro r w1 hr
  rw [al.live] at hr
  obtain ⟨a, cap, rfl, hb, _⟩ := hr.aside st.sep
  have st1 := st.trans (st.sep.grown hb)
  refine ⟨a, cap, rfl, ?_⟩
  refine (czombies_any st1.sep.left ok.inv.lok).mono ?_
  intro r w2 hr
  rw [al.zombies] at hr
  obtain ⟨a, cap, rfl, hb, _⟩ := hr.aside st1.sep
  exact ⟨a, cap, rfl, st1.trans (st1.sep.grown hb)⟩
end
end Go.Proofs.YtcnbbenmlffgpaaGreatDoor

/- The law CoreBack is true. Conditions: the package-level variables lie, the acts are read. -/
namespace Go.Proofs.YtcnbbenmlffgpaaGreatDoor
open Go.RowKit

theorem bk_new {w w1 : World} (henv : Env w) (hb : Below w.heap.size w w1) (lim n : Nat) (hl0 : 64 ≤ lim) (hl1 : lim ≤ 65536) (hn0 : 1 ≤ n) (hn1 : n ≤ 16) : Calls Tryz.prog 13 #[.int .i64 65536, .int .i64 (lim : Int), .int .i64 (n : Int)] w1 fun r w2 => ∃ c : Nat, r = .returned (.pointer (some ⟨c, 0, none⟩)) ∧
    Calls Tryz.prog 13 #[.int .i64 65536, .int .i64 65536, .int .i64 (n : Int)] w2 fun r w3 => ∃ (S D : CO), S.c = c ∧ r = .returned (.pointer (some ⟨D.c, 0, none⟩)) ∧ FreshO S 6 (lim : Int) n ∧ FreshO D 6 65536 n ∧ BkAt S D 1 0 w w3 := by
  have h16 : ((2 ^ (6 + 10) : Nat) : Int) = 65536 := by decide
  have h1 := cnew_any (Sep.nil (henv.below hb)) 6 (by omega) (by omega) (lim : Int) (by omega) (by rw [h16]; omega) n hn0 hn1
  rw [h16] at h1
  refine h1.mono ?_
  rintro r w2 ⟨S, rfl, hf, st⟩
  have st1 : Step [] S.hl w1 w2 := by simpa using st
  refine ⟨S.c, rfl, ?_⟩
  have h2 := cnew_any st1.sep 6 (by omega) (by omega) 65536 (by omega) (by rw [h16]; omega) n hn0 hn1
  rw [h16] at h2
  refine h2.mono ?_
  rintro r w3 ⟨D, rfl, hfd, std⟩
  have st2 : Step S.hl (S.hl ++ D.hl) w2 w3 := std.perm (List.Perm.refl _) List.perm_append_comm
  exact ⟨S, D, rfl, rfl, hf, hfd, S, [], hf.ok, Went.refl S, (((Sep.nil henv).grown hb).trans st1).trans st2⟩
set_option maxHeartbeats 16000000 in
set_option maxRecDepth 100000 in
theorem back_any {w : World} (henv : Env w) (li : Nat) (hli : li < 65536) (pd : Nat) (hpd : pd < 256) (a0 : Option Addr) (len cap : Nat) (A : Nat → A5) (hA : IsA5 w a0 len A) : Calls Tryz.prog 10 #[.int .u16 (li : Int), .int .u8 (pd : Int), .slice a0 len cap] w (Told w (.bool true)) := by
  have hal := alive16_any henv
  have hp0 : (0 : Int) ≤ (pd : Int) := by omega
  have hp1 : (pd : Int) < 256 := by omega
  have hq0 : (0 : Int) ≤ (li : Int) := by omega
  have hq1 : (li : Int) < 65536 := by omega
  have hper : 1 ≤ 1 + pd % 16 ∧ 1 + pd % 16 ≤ 16 := by omega
  have hlmt : 64 ≤ 64 + li % 65473 ∧ 64 + li % 65473 ≤ 65536 := by omega
  have hmod : (1 : Int) + (pd : Int).tmod 16 = (((1 + pd % 16 : Nat) : Nat) : Int) := by
    rw [Int.tmod_eq_emod_of_nonneg hp0]; omega
  have hmod2 : (1 : Int) + (pd : Int) % 16 = (((1 + pd % 16 : Nat) : Nat) : Int) := by omega
  have hmol : (64 : Int) + (li : Int).tmod 65473 = (((64 + li % 65473 : Nat) : Nat) : Int) := by
    rw [Int.tmod_eq_emod_of_nonneg hq0]; omega
  have hmol2 : (64 : Int) + (li : Int) % 65473 = (((64 + li % 65473 : Nat) : Nat) : Int) := by omega
  generalize (1 + pd % 16 : Nat) = n at *
  generalize (64 + li % 65473 : Nat) = lm at *
  have HAl : Hid (∀ r w1, Told w (.bool true) r w1 → r = .returned (.bool true) ∧ Below w.heap.size w w1) := fun r w1 h => ⟨h.1, h.2⟩
  have HNw : Hid (∀ w1, Below w.heap.size w w1 → _) := fun w1 hb => bk_new henv hb lm n hlmt.1 hlmt.2 hper.1 hper.2
  have HMod := hidden hmod
  have HMod2 := hidden hmod2
  have HMol := hidden hmol
  have HMol2 := hidden hmol2
  have HA := hidden hA
  have HPer := hidden hper
  clear henv hA hpd hli hmod hmod2 hmol hmol2 hlmt hper
  go_enter Tryz.func10, Tryz.ntmps10
  go_wp2_with fail
  refine hal.mono ?_
  intro r w1 hx
  obtain ⟨rfl, hb1⟩ := HAl.out _ _ hx
  have HNew := hidden (HNw.out w1 hb1)
  have HB1 := hidden hb1
  clear hx hb1 hal HAl HNw
  by_cases h60 : 80 < len
  · have HR : Hid (Told w (.bool true) (.returned (.bool true)) w1) := ⟨rfl, HB1.out⟩
    have h60i : (80 : Int) < len := by omega
    clear h60
    go_wp2_with fail
    first | exact HR.out | (go_ret; exact HR.out)
  have hlen : (len : Int) ≤ 80 := by omega
  have hd60 : decide ((80 : Int) < (len : Int)) = false := by rw [decide_eq_false_iff_not]; omega
  clear h60
  go_wp2_with fail
  first | rw [HMod2.out] | rw [HMod.out]
  first | rw [HMol2.out] | rw [HMol.out]
  refine HNew.out.mono ?_
  rintro r w2 ⟨c, rfl, hnw⟩
  have HNw2 := hidden hnw
  clear hnw HNew
  go_wp2_with fail
  refine HNw2.out.mono ?_
  rintro r w3 ⟨S, D, rfl, rfl, hfS, hfD, hbk⟩
  have HFS := hidden hfS
  have HFD := hidden hfD
  have HBk := hidden hbk
  clear hfS hfD hbk HNw2 hp0 hp1 hq0 hq1
  generalize hSc : S.c = c at *
  have HSc := hidden hSc
  clear hSc
  go_wp2_with fail
  go_loopg [10] len (fun gk iv wr => ∃ (i : Nat), iv = .int .i64 i ∧ i + gk = len ∧ BkAt S D (1 + i) (20 * i) w wr)
  case atStart => exact ⟨0, rfl, Nat.zero_add _, HBk.out⟩
  case round =>
    clear HBk
    obtain ⟨i, rfl, hig, hst⟩ := hrel
    have HIg := hidden hig
    by_cases hlt : i < len
    · have hfr : Below w.heap.size w wr := by obtain ⟨_, _, _, _, st⟩ := hst; exact st.fresh
      obtain ⟨g, off, rfl, b0, b1, b2, b3, b4, wf⟩ := HA.out.read hfr hlt
      have hpl := bk_play hst (by omega) (by omega) (A i) wf
      rw [HSc.out] at hpl
      generalize (A i).kind = ak at *
      generalize (A i).n = an at *
      generalize (A i).k = akk at *
      generalize (A i).m = am at *
      generalize (A i).h = ah at *
      have HPl := hidden hpl
      have hii : (i : Int) < (len : Int) := by omega
      clear hpl hst wf hig hfr
      go_wp2_with fail
      refine HPl.out.mono ?_
      rintro r w3 ⟨rfl, hst3⟩
      have HS3 := hidden hst3
      clear hst3 HPl b0 b1 b2 b3 b4
      go_wp2_with fail
      go_roundg (len - (i + 1))
      case measure => have := HIg.out; omega
      case rel => exact ⟨i + 1, by go_num, by have := HIg.out; omega, by rw [show 1 + (i + 1) = 1 + i + 1 by omega, show 20 * (i + 1) = 20 * i + 20 by omega]; exact HS3.out⟩
    · obtain rfl : i = len := by omega
      have hun := bk_under hst
      rw [HSc.out] at hun
      have HUn := hidden hun
      clear hun hst hig HIg HA
      go_wp2_with fail
      refine HUn.out.mono ?_
      rintro r w4 ⟨S1, fr1, L, ua, ucap, rfl, hl256, ok1, hL, hbd⟩
      have HBd := hidden hbd
      have HOk := hidden ok1
      have HL := hidden hL
      have hul : (L.length : Int) ≤ 256 := by omega
      clear hbd ok1 hL HUn hl256
      generalize hull : L.length = ul at *
      have HUl := hidden hull
      clear hull
      go_wp2_with fail
      go_loopg [12] ul (fun gk v wi => ∃ k : Nat, v = .int .i64 (k : Int) ∧ k + gk = ul ∧ BdAt S D S1 (1 + i) (20 * i) L ua k w wi)
      case atStart => exact ⟨0, rfl, Nat.zero_add _, HBd.out⟩
      case round =>
        clear HBd
        obtain ⟨k, rfl, hkg, hud⟩ := hrel
        have HKg := hidden hkg
        by_cases hkl : k < ul
        · have hm : k < L.length := by have := HUl.out; omega
          have hx : L[k]? = some L[k] := List.getElem?_eq_getElem hm
          generalize L[k] = x at hx
          obtain ⟨gu, rfl, hcx⟩ := hud.row hx
          have hdm := bk_doom HOk.out HL.out hud (by omega) hx
          rw [HSc.out] at hdm
          have HDm := hidden hdm
          have hki : (k : Int) < (ul : Int) := by omega
          clear hdm hud hx hm hkg
          go_wp2_with fail
          refine HDm.out.mono ?_
          rintro r w8 ⟨rfl, hud8⟩
          have HUd8 := hidden hud8
          clear hud8 HDm hcx
          go_wp2_with fail
          go_roundg (ul - (k + 1))
          case measure => have := HKg.out; omega
          case rel => exact ⟨k + 1, by go_num, by have := HKg.out; omega, HUd8.out⟩
        · obtain rfl : k = ul := by have := HKg.out; omega
          have htk := BdAt.ticks HOk.out HFS.out.period HL.out (by rw [HUl.out]; exact hud)
          have HTk := hidden htk
          have hper := HPer.out
          obtain ⟨hn0, hn1⟩ := hper
          have hn1i : (n : Int) ≤ 16 := by omega
          clear htk hud hkg
          go_wp2_with fail
          go_loopg [13] n (fun gk v wi => ∃ k : Nat, v = .int .i64 (k : Int) ∧ k + gk = n ∧ BtAt S D (1 + i) (20 * i) n S1.now k w wi)
          case atStart => exact ⟨0, rfl, Nat.zero_add _, HTk.out⟩
          case round =>
            clear HTk
            obtain ⟨t, rfl, htg, hbt⟩ := hrel
            have HTg := hidden htg
            by_cases htl : t < n
            · have htc := bk_tick hbt (by omega)
              rw [HSc.out] at htc
              have HTc := hidden htc
              have hti : (t : Int) < (n : Int) := by omega
              clear htc hbt htg
              go_wp2_with fail
              refine HTc.out.mono ?_
              rintro r w8 ⟨⟨tv, rfl⟩, hbt8⟩
              have HBt8 := hidden hbt8
              clear hbt8 HTc
              go_wp2_with fail
              go_roundg (n - (t + 1))
              case measure => have := HTg.out; omega
              case rel => exact ⟨t + 1, by go_num, by have := HTg.out; omega, HBt8.out⟩
            · obtain rfl : t = n := by have := HTg.out; omega
              obtain ⟨S2, hc2, be, st⟩ := hbt.ends HFS.out HFD.out
              have hlv := be_live be st
              rw [hc2, HSc.out] at hlv
              have HLv := hidden hlv
              have HBe := hidden be
              have HC2 := hidden (hc2.trans HSc.out)
              clear hlv hbt htg be st hc2
              clear hn0 hn1 HUl HOk HL hul HPer HFS HFD hlen hd60 HB1 HMod HMod2 HMol HMol2 HTg HKg
              go_wp2_with fail
              refine HLv.out.mono ?_
              rintro r w8 ⟨a1, k1, rfl, hz⟩
              have HZb := hidden hz
              clear hz HLv
              go_wp2_with fail
              refine HZb.out.mono ?_
              rintro r w9 ⟨a2, k2, rfl, hz⟩
              obtain ⟨pp, qt, m1, q1, u1⟩ := be_ids HBe.out hz
              rw [HC2.out] at m1 u1
              have HM1 := hidden m1
              have HQ1 := hidden q1
              have HU1 := hidden u1
              clear hz m1 q1 u1 HZb
              go_wp2_with fail
              refine HM1.out.mono ?_
              rintro r w' ⟨rfl, rfl⟩
              clear HM1
              go_wp2_with fail
              refine HQ1.out.mono ?_
              rintro r w' ⟨rfl, rfl⟩
              clear HQ1
              go_wp2_with fail
              refine HU1.out.mono ?_
              rintro r w10 ⟨rfl, m2, q2, i2⟩
              have HM2 := hidden m2
              have HQ2 := hidden q2
              have HI2 := hidden i2
              clear m2 q2 i2 HU1
              go_wp2_with fail
              refine HM2.out.mono ?_
              rintro r w' ⟨rfl, rfl⟩
              clear HM2
              go_wp2_with fail
              refine HQ2.out.mono ?_
              rintro r w' ⟨rfl, rfl⟩
              clear HQ2
              go_wp2_with fail
              refine HI2.out.mono ?_
              rintro r w11 ⟨a3, k3, rfl, hz⟩
              obtain ⟨p3, bb, m3, b3, f3⟩ := be_free HBe.out hz
              rw [HC2.out] at m3
              have HM3 := hidden m3
              have HB3 := hidden b3
              have HF3 := hidden f3
              clear hz m3 b3 f3 HI2
              go_wp2_with fail
              refine HM3.out.mono ?_
              rintro r w' ⟨rfl, rfl⟩
              clear HM3
              go_wp2_with fail
              refine HB3.out.mono ?_
              rintro r w' ⟨rfl, rfl⟩
              clear HB3
              go_wp2_with fail
              refine HF3.out.mono ?_
              rintro r w12 ⟨a4, l4, k4, p4, d4, rfl, m4, b4, f4⟩
              have HM4 := hidden m4
              have HB4 := hidden b4
              have HF4 := hidden f4
              clear m4 b4 f4 HF3
              go_wp2_with fail
              refine HM4.out.mono ?_
              rintro r w' ⟨rfl, rfl⟩
              clear HM4
              go_wp2_with fail
              refine HB4.out.mono ?_
              rintro r w' ⟨rfl, rfl⟩
              clear HB4
              go_wp2_with fail
              refine HF4.out.mono ?_
              rintro r w13 ⟨a5, k5, rfl, sm⟩
              have HSm := hidden sm
              clear sm HF4
              go_wp2_with fail
              refine HSm.out.mono ?_
              rintro r w14 ⟨rfl, hbz⟩
              have HBz : Hid (Told w (.bool true) (.returned (.bool true)) w14) := ⟨rfl, hbz⟩
              clear hbz HSm
              go_wp2_with fail
              first | exact HBz.out | (go_ret; exact HBz.out)
end Go.Proofs.YtcnbbenmlffgpaaGreatDoor

/- What the row's listed variables say of memory: the tables lie. No condition. -/
namespace Go.Proofs.YtcnbbenmlffgpaaGreatDoor
open Go.RowKit

def laids : List (String × DataW Unit) := [("math/bits.deBruijn32tab", Rows.laid_math_bits_deBruijn32tab), ("math/bits.deBruijn64tab", Rows.laid_math_bits_deBruijn64tab), ("quartermaster/pool.costs", Rows.laid_quartermaster_pool_costs)]
def dbt32 : List Int := [0, 1, 28, 2, 29, 14, 24, 3, 30, 22, 20, 15, 25, 17, 4, 8, 31, 27, 13, 23, 21, 19, 16, 7, 26, 12, 18, 6, 11, 5, 10, 9]
theorem g32 : Tryz.prog.globalNamed "math/bits.deBruijn32tab" = some 2 := by kernel_rfl
theorem t32 : (Tryz.prog.globals[2]?).map (·.type) = some 264 := by kernel_rfl
theorem g64 : Tryz.prog.globalNamed "math/bits.deBruijn64tab" = some 1 := by kernel_rfl
theorem gCost : Tryz.prog.globalNamed "quartermaster/pool.costs" = some 0 := by kernel_rfl
theorem t64 : (Tryz.prog.globals[1]?).map (·.type) = some 239 := by kernel_rfl
theorem tCost : (Tryz.prog.globals[0]?).map (·.type) = some 176 := by kernel_rfl
theorem env_of_laid {W : World} (h : laidMetH Tryz.prog laids W) : Env W := by
  rw [MakeChecks.laidMetH_plain _ _ _ (by kernel_rfl)] at h
  have h1 : laidMet Tryz.prog (("math/bits.deBruijn32tab", Lib.tabData .u8 dbt32) :: [("math/bits.deBruijn64tab", Rows.laid_math_bits_deBruijn64tab), ("quartermaster/pool.costs", Rows.laid_quartermaster_pool_costs)]) W := h
  have hA := Lib.tabIs_of_head g32 t32 Tryz.underlying264 Tryz.underlying5 (by kernel_rfl) (by kernel_rfl) h1
  have h2 : laidMet Tryz.prog (("math/bits.deBruijn64tab", Lib.tabData .u8 (dbt.map fun (n : Nat) => (n : Int))) :: [("quartermaster/pool.costs", Rows.laid_quartermaster_pool_costs)]) W := laidMet.tail h1
  have h3 : laidMet Tryz.prog (("quartermaster/pool.costs", Lib.tabData .i64 costL) :: []) W := laidMet.tail h2
  have hB := Lib.tabIs_of_head g64 t64 Tryz.underlying239 Tryz.underlying5 (by kernel_rfl) (by kernel_rfl) h2
  have hC := Lib.tabIs_of_head gCost tCost Tryz.underlying176 Tryz.underlying3 (by kernel_rfl) (by kernel_rfl) h3
  have cB : TabB W := by
    intro j v hv
    have hj := (List.getElem?_eq_some_iff.1 hv).1
    have := hB.cell g64 j (by simpa using hj)
    rw [this]
    congr 2
    simp [List.getD, hv]
  have cC : TabC W := by
    intro j v hv
    have hj := (List.getElem?_eq_some_iff.1 hv).1
    have := hC.cell gCost j (by simpa using hj)
    rw [this]
    congr 2
    simp [List.getD, hv]
  refine ⟨?_, cB, cC⟩
  have c0 := World.block_lt_of_cell? W ⟨1, 0, none⟩ (cB 0 0 rfl)
  have c1 := World.block_lt_of_cell? W ⟨0, 0, none⟩ (cC 0 0 rfl)
  have c2 := World.block_lt_of_cell? W ⟨2, 0, none⟩ (hA.cell g32 0 (by decide))
  have c0' : 1 < W.heap.size := c0
  have c1' : 0 < W.heap.size := c1
  have c2' : 2 < W.heap.size := c2
  unfold GB
  omega
end Go.Proofs.YtcnbbenmlffgpaaGreatDoor

/-
  CoreBack returns true at every input, whatever lies in memory, where the listed variables lie as laid.
  By hand, after the frame of the guide's worked examples. Not trusted: Lean checks it.
-/
namespace Go.Proofs.YtcnbbenmlffgpaaGreatDoor.coreBack
open Go.ChangeShapes Go.WideShapes Go.ChangeAt Go.RowKit
set_option linter.unusedVariables false

theorem own : ownKnob Tryz.prog.godebug = none := by kernel_rfl
theorem laidOut : laidOutB Tryz.prog = true := by kernel_rfl
/-- The door's own heap meets the condition: closed facts. -/
theorem door_met (os : Os) (args : Array Value) : laidMetH Tryz.prog laids ((World.doorLaid Tryz.prog 400 os).forCall (fun _ _ => 0) ⟨#[], args, []⟩).memory :=
  laidMetH_of_parts3 (fuel := 8) (laidMet_of_run' 8 (by kernel_rfl) (by kernel_rfl)) (by kernel_rfl) (by kernel_rfl)

set_option maxRecDepth 100000 in
theorem lifted (os : Os) (started : os.Started) (H : Type) (enc : TypeId × Value → H) :
    ReturnsInHanded {} Tryz.checked os 10 .any (fun w args => (Rows.coreBackSpec.pre enc Tryz.prog Tryz.f10 [] false w args ∧ laidMetH Tryz.prog laids w) ∧ sizedMet enc Tryz.prog Tryz.f10 (OpenSpec.ofChange Rows.coreBackSpec) false w args)
      (Rows.coreBackSpec.post enc Tryz.prog Tryz.f10 false true false false) := by
  refine returnsInHanded_of_change_and (C := Tryz.checked) (X := fun w _ => laidMetH Tryz.prog laids w) (fun _ _ _ hh h => h.of_heap hh) own started (by kernel_rfl) Tryz.func10
    (ChangeSpec.witness_shaped (enc := enc) (C := Tryz.checked) (os := os) (X := fun w _ => laidMetH Tryz.prog laids w) false (World.doorLaid Tryz.prog 400 os) #[.int .u16 0, .int .u8 0, .slice none 0 0] 8 rfl (World.shaped_of_RefB (by kernel_rfl) (by kernel_rfl)) (by kernel_rfl) (by kernel_rfl) (by kernel_rfl) (door_met os _)) ?_
  intro W base args ds gs before hval0 hW _ _ hL _
  have hval : ∀ (j : Nat) t v, Tryz.f10.params[j]? = some t → args[j]? = some v → Value.okWide Tryz.prog W .any base t v := hval0
  have hW' := hW
  obtain ⟨p, q, hA0, hV, rfl, hfz, hnd⟩ := hW
  have hA : DataW.TrodAll enc Tryz.prog W 0 (fun _ => true) true Tryz.f10.params.toList args.toList ds p := hA0
  rw [Tryz.params10] at hA hval
  obtain ⟨v0, v1, v2, d0, d1, d2, p0, p1, p2, rfl, rfl, rfl, h0, h1, h2⟩ := trodAll_three hA
  obtain ⟨rfl, rfl⟩ := trodVars_none hV
  obtain ⟨n0, rfl, rfl, rfl, wf0⟩ := open_int Tryz.underlying49 (hval 0 49 v0 rfl rfl) h0
  have hb0 : 0 ≤ n0 ∧ n0 < 65536 := by
    have := bounds_u16 wf0
    omega
  obtain ⟨m0, rfl⟩ := Int.eq_ofNat_of_zero_le hb0.1
  obtain ⟨n1, rfl, rfl, rfl, wf1⟩ := open_int Tryz.underlying5 (hval 1 5 v1 rfl rfl) h1
  have hb1 : 0 ≤ n1 ∧ n1 < 256 := by
    have := bounds_u8 wf1
    omega
  obtain ⟨m1, rfl⟩ := Int.eq_ofNat_of_zero_le hb1.1
  obtain ⟨a2, len2, cap2, rfl⟩ := okWide_slice Tryz.underlying22 (hval 2 22 v2 rfl rfl)
  have k2 := h2
  have lt2 : ∀ x ∈ p2, x.block < W.heap.size := by obtain ⟨m, hm⟩ := k2; exact DataW.trod_lt m _ _ _ hm
  obtain ⟨A2, hAct2⟩ : ∃ A, IsA5 W a2 len2 A := by
    obtain ⟨fuel, hf⟩ := h2
    exact open_acts5 (by simpa [Value.cells] using hf)
  clear hA0 hval0
  refine (back_any (env_of_laid hL) m0 (by omega) m1 (by omega) a2 len2 cap2 A2 hAct2).mono fun e W' ⟨he, bel⟩ => ?_
  subst he
  exact ⟨_, rfl, _, _, _, [], _, [], hW', trodAll_mk1 (shut_bool Tryz.underlying4 _), trodAll_mk3 (shut_int Tryz.underlying49 wf0) (shut_int Tryz.underlying5 wf1) (Below.trod laidOut (by kernel_rfl) (of_decide_eq_true (by kernel_rfl)) k2 bel lt2), rfl, bel.frame _, fun h => by cases h⟩

theorem over : Rows.coreBackRow.holds Tryz.pinned (OpenSpec.ofChange Rows.coreBackSpec) :=
  OpenClaim.holds_of_wide 10 Tryz.f10 rfl rfl rfl rfl rfl rfl rfl ⟨rfl, rfl, rfl, rfl, rfl⟩ rfl rfl rfl rfl rfl (by kernel_rfl) Tryz.func10 (by kernel_rfl)
    (of_decide_eq_true (by kernel_rfl)) (by unfold Func.isWrapper; first | (rw [if_pos (by decide +kernel)]; kernel_rfl) | (rw [if_neg (by decide +kernel)]; exact ⟨rfl, rfl⟩))
    (fun os started H enc _ => lifted os started H enc)

/-- THE ROW. -/
theorem proved : Rows.CoreBackSaid := over
end Go.Proofs.YtcnbbenmlffgpaaGreatDoor.coreBack
