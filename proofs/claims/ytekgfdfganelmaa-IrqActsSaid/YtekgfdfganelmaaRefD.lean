/- Walks of the document's functions that only read: Of, First. Condition: no list is longer than 1048576. -/
import Derived.Test.YtekgfdfganelmaaRefC
import Derived.Deep.QuietTactic
import Derived.BigQuiet
import Derived.IntWalk
import Derived.OwnWalk
namespace Go.Proofs.Ytekgfdfganelmaa
open Go.RowKit

theorem RRep.drewN {w : World} {r : Nat} {g : RG} (h : RRep w r g) (n : Nat) : RRep (w.drewN n) r g := h.same fun _ _ => rfl
theorem quiet_back {P : Program} {f : FuncId} {args : Array Value} {w : World} {n : Nat} {v : Value}
    (h : Calls P f args (w.drewN n) fun e w' => e = .returned v ∧ w.drewN n = w') : Calls P f args (w.drewN n) fun e w'' => e = .returned v ∧ ∃ m, w'' = w.drewN m :=
  h.mono fun _ _ ⟨he, hm⟩ => ⟨he, n, hm.symm⟩
def ofV (L : List Rc) (id : Int) : Value := match atI L id with
  | none => .tuple #[.int .i64 0, .int .i64 (-1), .int .i64 (-1)]
  | some k => .tuple #[.int .i64 (nth L k).lost, .int .i64 (nth L k).line, .int .i64 (nth L k).thread]

set_option maxHeartbeats 1000000 in
theorem rOf_any {w : World} {r : Nat} {g : RG} (h : RRep w r g) (id : Int) (hlen : g.L.length ≤ 1048576) :
    Calls Try.prog 26 #[.pointer (some ⟨r, 0, none⟩), .int .i64 id] w fun e w' => e = .returned (ofV g.L id) ∧ ∃ n, w' = w.drewN n := by
  have k1 := rAt_any h id hlen
  obtain ⟨a, cap, hv, hA⟩ := h.open_recs
  have h0 : w.cell? ⟨r, 0, none⟩ = some (.slice a g.L.length cap) := by rw [← hv]; exact h.ctl.cell 0 _ rfl
  generalize g.L = L at h0 hA hlen k1 ⊢
  clear hv h
  unfold ofV
  cases hk : atI L id with
  | none =>
    rw [hk] at k1
    simp only [numOf] at k1
    clear hk hA h0 hlen
    go_enter Try.func26, Try.ntmps26
    go_wp2_with fail
    refine k1.mono ?_
    rintro e w' ⟨rfl, rfl⟩
    clear k1
    go_wp2_with fail
    go_ret3
    exact ⟨rfl, 0, rfl⟩
  | some k =>
    rw [hk] at k1
    simp only [numOf] at k1
    obtain ⟨hkl, _⟩ := atI_lt hk
    obtain ⟨gb, rfl, _, c1, c2, c3, _⟩ := hA k hkl
    clear hA hk
    dsimp only
    generalize (nth L k).thread = th at c2 ⊢
    generalize (nth L k).line = li at c1 ⊢
    generalize (nth L k).lost = lo at c3 ⊢
    generalize L.length = n at h0 hkl hlen
    go_enter Try.func26, Try.ntmps26
    go_wp2_with fail
    refine k1.mono ?_
    rintro e w' ⟨rfl, rfl⟩
    clear k1
    go_wp2_with fail
    go_quiet (fail)
    go_wp2_with fail
    go_ret3
    exact ⟨rfl, _, rfl⟩

def fstB (L : List Rc) (row : List Int) (t : Int) (x : Int) : Bool := rdyB L row x && (match atI L x with | none => false | some k => (nth L k).thread == t)
def fstV (L : List Rc) (row : List Int) (t : Int) : Int := (row.find? (fstB L row t)).getD (-1)
theorem fst_some {L : List Rc} {row : List Int} {t : Int} {i : Nat} (hi : i < row.length) (h : fstB L row t (row[i]?.getD 0) = true) (hp : ∀ j, j < i → fstB L row t (row[j]?.getD 0) = false) : fstV L row t = row[i]?.getD 0 := by
  unfold fstV
  have e : row[i]?.getD 0 = row[i] := by simp [List.getElem?_eq_getElem hi]
  have : row.find? (fstB L row t) = some row[i] := by
    rw [List.find?_eq_some_iff_getElem]
    refine ⟨by rw [e] at h; exact h, i, hi, rfl, fun j hj => ?_⟩
    have := hp j hj
    rw [List.getElem?_eq_getElem (by omega)] at this
    simpa using this
  rw [this, e]; rfl
theorem fst_none {L : List Rc} {row : List Int} {t : Int} (hp : ∀ j, j < row.length → fstB L row t (row[j]?.getD 0) = false) : fstV L row t = -1 := by
  unfold fstV
  have : row.find? (fstB L row t) = none := by
    rw [List.find?_eq_none]
    intro x hx
    obtain ⟨j, hj, rfl⟩ := List.getElem_of_mem hx
    have := hp j hj
    rw [List.getElem?_eq_getElem hj] at this
    simpa using this
  rw [this]; rfl

set_option maxHeartbeats 4000000 in
theorem rFirst_any {w : World} {r : Nat} {g : RG} (h : RRep w r g) (t : Int) (hlen : g.L.length ≤ 1048576) (hlen2 : g.row.length ≤ 1048576) :
    Calls Try.prog 28 #[.pointer (some ⟨r, 0, none⟩), .int .i64 t] w fun e w' => e = .returned (.int .i64 (fstV g.L g.row t)) ∧ ∃ n, w' = w.drewN n := by
  have H : Hid (∀ m, RRep (w.drewN m) r g) := fun m => h.drewN m
  obtain ⟨a, cap, hv, hA0⟩ := h.open_recs
  obtain ⟨b, capb, hvb, hB0⟩ := h.open_row
  have HA : Hid (RecsAt w a g.L) := hA0
  have HB : Hid (IntsAt w b g.row) := hB0
  have h0 : w.cell? ⟨r, 0, none⟩ = some (.slice a g.L.length cap) := by rw [← hv]; exact h.ctl.cell 0 _ rfl
  have h1 : w.cell? ⟨r, 1, none⟩ = some (.slice b g.row.length capb) := by rw [← hvb]; exact h.ctl.cell 1 _ rfl
  generalize hnl : g.L.length = nl at h0
  generalize hn : g.row.length = n at h1
  have HN : Hid (g.row.length = n) := hn
  have HNL : Hid (g.L.length = nl) := hnl
  have hlen3 : n ≤ 1048576 := by omega
  have hlen4 : nl ≤ 1048576 := by omega
  have HL : Hid (g.L.length ≤ 1048576 ∧ g.row.length ≤ 1048576) := ⟨hlen, hlen2⟩
  clear h hA0 hB0 hv hvb hn hnl hlen hlen2
  go_enter Try.func28, Try.ntmps28
  go_wp2_with fail
  go_loopw [5] (fun iv wr => ∃ i : Nat, iv = .int .i64 i ∧ i ≤ n ∧ (∀ j, j < i → fstB g.L g.row t (g.row[j]?.getD 0) = false) ∧ ∃ m, wr = w.drewN m) (fun iv _ => n - (intOf iv).toNat)
  case atStart => exact ⟨0, rfl, Nat.zero_le _, (by intro j hj; omega), 0, rfl⟩
  case round =>
    obtain ⟨i, rfl, hi, hpre, m, hm⟩ := hrel
    have Hp : Hid (∀ j, j < i → fstB g.L g.row t (g.row[j]?.getD 0) = false) := hpre
    have HM : Hid (∃ m, wr = w.drewN m) := ⟨m, hm⟩
    have h0' : wr.cell? ⟨r, 0, none⟩ = some (.slice a nl cap) := by rw [hm]; exact h0
    have h1' : wr.cell? ⟨r, 1, none⟩ = some (.slice b n capb) := by rw [hm]; exact h1
    have HR : Hid (∀ q, RRep (wr.drewN q) r g) := fun q => by rw [hm, World.drewN_drewN]; exact H.out _
    have HA' : Hid (RecsAt wr a g.L) := by rw [hm]; exact HA.out
    have HB' : Hid (IntsAt wr b g.row) := by rw [hm]; exact HB.out
    clear hpre hm h0 h1
    by_cases hlt : i < n
    · obtain ⟨gb, rfl, c0⟩ := HB'.out i (by rw [HN.out]; exact hlt)
      generalize hx : g.row[i]?.getD 0 = x at c0
      have Hx : Hid (g.row[i]?.getD 0 = x) := hx
      clear hx
      cases hr : rdyB g.L g.row x with
      | false =>
        have Q47 : ∀ q, Calls Try.prog 47 #[.pointer (some ⟨r, 0, none⟩), .int .i64 x] (wr.drewN q) fun e w'' => e = .returned (.bool false) ∧ ∃ m, w'' = wr.drewN m := fun q => by
          have := quiet_back (rReady_any (HR.out q) x HL.out.1 HL.out.2); rw [hr] at this; exact this
        have HF : Hid (fstB g.L g.row t x = false) := by show _ = _; unfold fstB; rw [hr]; rfl
        clear hr
        go_wp2_with fail
        go_quiet ((go_at_call 47; exact Q47 _))
        clear Q47
        go_wp2_with fail
        go_roundw
        case rel =>
          refine ⟨i + 1, by go_num, by omega, fun j hj => ?_, ?_⟩
          · by_cases e : j = i
            · subst e; rw [Hx.out]; exact HF.out
            · exact Hp.out j (by omega)
          · obtain ⟨m, hm⟩ := HM.out
            exact ⟨_, by rw [hm, World.drewN_drewN]⟩
        case measure => simp [intOf]; omega
      | true =>
        have hrs : ∃ k, atI g.L x = some k := by
          unfold rdyB at hr
          cases hk : atI g.L x with
          | none => rw [hk] at hr; simp at hr
          | some k => exact ⟨k, rfl⟩
        obtain ⟨k, hk⟩ := hrs
        obtain ⟨hkl, _⟩ := atI_lt hk
        obtain ⟨ga, rfl, _, _, c2, _, _⟩ := HA'.out k hkl
        have Q47 : ∀ q, Calls Try.prog 47 #[.pointer (some ⟨r, 0, none⟩), .int .i64 x] (wr.drewN q) fun e w'' => e = .returned (.bool true) ∧ ∃ m, w'' = wr.drewN m := fun q => by
          have := quiet_back (rReady_any (HR.out q) x HL.out.1 HL.out.2); rw [hr] at this; exact this
        have Q46 : ∀ q, Calls Try.prog 46 #[.pointer (some ⟨r, 0, none⟩), .int .i64 x] (wr.drewN q) fun e w'' => e = .returned (.int .i64 k) ∧ ∃ m, w'' = wr.drewN m := fun q => by
          have := quiet_back (rAt_any (HR.out q) x HL.out.1); rw [hk] at this; exact this
        have HF : Hid (fstB g.L g.row t x = ((nth g.L k).thread == t)) := by show _ = _; unfold fstB; rw [hr, hk]; simp
        rw [HNL.out] at hkl
        have hk0 : (0 : Int) ≤ (k : Int) := by omega
        have hk1 : (k : Int) < (nl : Int) := by omega
        generalize (nth g.L k).thread = th at c2 HF
        clear hr hk
        by_cases ht : th = t
        · subst ht
          go_wp2_with fail
          go_quiet ((first | (go_at_call 47; exact Q47 _) | (go_at_call 46; exact Q46 _)))
          clear Q47 Q46
          go_wp2_with fail
          go_ret
          refine ⟨?_, ?_⟩
          · rw [fst_some (i := i) (by rw [HN.out]; exact hlt) (by rw [Hx.out, HF.out]; simp) Hp.out, Hx.out]; rfl
          · obtain ⟨m, hm⟩ := HM.out
            exact ⟨_, by rw [hm, World.drewN_drewN]⟩
        · have htb : (th == t) = false := by simpa using ht
          go_wp2_with fail
          go_quiet ((first | (go_at_call 47; exact Q47 _) | (go_at_call 46; exact Q46 _)))
          clear Q47 Q46
          go_wp2_with fail
          go_roundw
          case rel =>
            refine ⟨i + 1, by go_num, by omega, fun j hj => ?_, ?_⟩
            · by_cases e : j = i
              · subst e; rw [Hx.out, HF.out]; exact htb
              · exact Hp.out j (by omega)
            · obtain ⟨m, hm⟩ := HM.out
              exact ⟨_, by rw [hm, World.drewN_drewN]⟩
          case measure => simp [intOf]; omega
    · obtain rfl : i = n := by omega
      go_wp2_with fail
      go_ret
      exact ⟨by rw [fst_none (by rw [HN.out]; exact Hp.out)]; rfl, HM.out⟩
end Go.Proofs.Ytekgfdfganelmaa
