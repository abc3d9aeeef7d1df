/- CoreUnder returns true at every input: what is under a factory is just what was made through it, and dooms in that order. No condition. Part of its proof. -/
import Derived.Test.YtcnbbenmlffgpaaGreatDoorCu18
import Derived.Deep.Cut
import Derived.Test.YtcnbbenmlffgpaaGreatDoorCu01
import Derived.Lib.LaidTab
import Derived.LaidMore
import Derived.MakeChecks
import Derived.Stop.LaidErr
import Derived.Test.YtcnbbenmlffgpaaGreatDoorRows
import Derived.Test.YtcnbbenmlffgpaaGreatDoorCu17
import Derived.WalkKit
import Derived.ProofKit
import Derived.OpenShut
import Derived.ShutString
import Derived.Below
import Derived.Stop.Joined
/- CoreUnder, one call behind the other. Conditions: the blocks hold what CO.hl says. -/
namespace Go.Proofs.YtcnbbenmlffgpaaGreatDoor
open Go.RowKit

/-- Two arrays of Booleans. -/
def BH (bo bi : Nat) (fo fi : Nat → Bool) : HL := [(bo, isC 37 (bools fo)), (bi, isC 37 (bools fi))]
/-- The core, two arrays, two rows of handles. -/
structure UnI (S : CO) (LV : List Nat) (va : Option Addr) (L : List Nat) (ua : Option Addr) (bo bi : Nat) (fo fi : Nat → Bool) (w wr : World) : Prop where
  st : Step [] (S.hl ++ BH bo bi fo fi) w wr
  va : Aside (S.hl ++ BH bo bi fo fi) LV va wr
  ua : Aside (S.hl ++ BH bo bi fo fi) L ua wr
section
variable {S : CO} {LV L : List Nat} {va ua : Option Addr} {bo bi : Nat} {fo fi : Nat → Bool} {w wr : World}
theorem UnI.sep (h : UnI S LV va L ua bo bi fo fi w wr) : Sep wr S.hl := h.st.sep.left
theorem UnI.fresh (h : UnI S LV va L ua bo bi fo fi w wr) : Below w.heap.size w wr := h.st.fresh
theorem UnI.grown (h : UnI S LV va L ua bo bi fo fi w wr) {w' : World} (hb : Below wr.heap.size wr w') : UnI S LV va L ua bo bi fo fi w w' :=
  ⟨h.st.trans (h.st.sep.grown hb), h.va.grown hb, h.ua.grown hb⟩
theorem UnI.cellO (h : UnI S LV va L ua bo bi fo fi w wr) {k : Nat} (hk : k < 256) : wr.cell? ⟨bo, k, none⟩ = some (.bool (fo k)) := (h.st.sep.cells (b := bo) (T := 37) (cs := bools fo) (by simp [BH])).cell k _ (bools_get fo hk)
theorem UnI.cellI (h : UnI S LV va L ua bo bi fo fi w wr) {k : Nat} (hk : k < 256) : wr.cell? ⟨bi, k, none⟩ = some (.bool (fi k)) := (h.st.sep.cells (b := bi) (T := 37) (cs := bools fi) (by simp [BH])).cell k _ (bools_get fi hk)
theorem UnI.freeO (h : UnI S LV va L ua bo bi fo fi w wr) (k : Nat) : wr.frozen? ⟨bo, k, none⟩ = false := (h.st.sep.cells (b := bo) (T := 37) (cs := bools fo) (by simp [BH])).free k
theorem UnI.freeI (h : UnI S LV va L ua bo bi fo fi w wr) (k : Nat) : wr.frozen? ⟨bi, k, none⟩ = false := (h.st.sep.cells (b := bi) (T := 37) (cs := bools fi) (by simp [BH])).free k
theorem UnI.setO (h : UnI S LV va L ua bo bi fo fi w wr) (k : Nat) : UnI S LV va L ua bo bi (fun j => if j = k then true else fo j) fi w (wr.setCell ⟨bo, k, none⟩ (.bool true)) := by
  have := Sep.set (A := S.hl) (b := bo) (T := 37) (cs := bools fo) (B := [(bi, isC 37 (bools fi))]) h.st.sep k (.bool true)
  rw [bools_set] at this
  exact ⟨h.st.trans this, h.va.step this, h.ua.step this⟩
theorem UnI.setI (h : UnI S LV va L ua bo bi fo fi w wr) (k : Nat) : UnI S LV va L ua bo bi fo (fun j => if j = k then true else fi j) w (wr.setCell ⟨bi, k, none⟩ (.bool true)) := by
  have hs : Sep wr ((S.hl ++ [(bo, isC 37 (bools fo))]) ++ (bi, isC 37 (bools fi)) :: []) := by
    have := h.st.sep
    unfold BH at this
    simpa using this
  have := Sep.set (A := S.hl ++ [(bo, isC 37 (bools fo))]) (b := bi) (T := 37) (cs := bools fi) (B := []) hs k (.bool true)
  rw [bools_set] at this
  have st : Step (S.hl ++ BH bo bi fo fi) (S.hl ++ BH bo bi fo (fun j => if j = k then true else fi j)) wr (wr.setCell ⟨bi, k, none⟩ (.bool true)) := by
    unfold BH
    simpa using this
  exact ⟨h.st.trans st, h.va.step st, h.ua.step st⟩
theorem UnI.row (h : UnI S LV va L ua bo bi fo fi w wr) {j x : Nat} (hj : L[j]? = some x) : ∃ g, ua = some ⟨g, 0, none⟩ ∧ wr.cell? ⟨g, j, none⟩ = some (.int .u32 (x : Int)) := by
  obtain ⟨g, h1, _, _, h4⟩ := h.ua j x hj
  exact ⟨g, h1, h4⟩
theorem UnI.live (h : UnI S LV va L ua bo bi fo fi w wr) {j x : Nat} (hj : LV[j]? = some x) : ∃ g, va = some ⟨g, 0, none⟩ ∧ wr.cell? ⟨g, j, none⟩ = some (.int .u32 (x : Int)) := by
  obtain ⟨g, h1, _, _, h4⟩ := h.va j x hj
  exact ⟨g, h1, h4⟩
/-- The arrays are made. -/
theorem UnI.start (st : Step [] S.hl w wr) (hv : Aside S.hl LV va wr) (hu : Aside S.hl L ua wr) : UnI S LV va L ua wr.heap.size (wr.heap.size + 1) (fun _ => false) (fun _ => false) w ((wr.alloc (.cells (bools fun _ => false).toArray 37)).alloc (.cells (bools fun _ => false).toArray 37)) := by
  have s1 := st.sep.new 37 (bools fun _ => false)
  have s2 := s1.sep.new 37 (bools fun _ => false)
  have hsz : (wr.alloc (.cells (bools fun _ => false).toArray 37)).heap.size = wr.heap.size + 1 := by simp
  rw [hsz] at s2
  have hp : ((wr.heap.size + 1, isC 37 (bools fun _ => false)) :: (wr.heap.size, isC 37 (bools fun _ => false)) :: S.hl).Perm (S.hl ++ BH wr.heap.size (wr.heap.size + 1) (fun _ => false) (fun _ => false)) := by
    refine perm_count fun a => ?_
    simp only [BH, hc_append, hc_cons, hc_nil]; omega
  have st3 := (s1.trans s2).perm (List.Perm.refl _) hp
  exact ⟨st.trans st3, hv.step st3, hu.step st3⟩
end
def kindOwn (q : Pl) : Value := if q.kind = 1 then .tuple #[.int .i64 (q.own : Int), .int .i64 0] else .tuple #[.int .i64 0, .int .i64 10]
section
variable {S : CO} {fr : List Nat} {N K : Nat} {LV L : List Nat} {va ua : Option Addr} {bo bi : Nat} {fo fi : Nat → Bool} {w wr : World}
theorem own_any (h : Sep wr S.hl) (ok : S.Ok fr N K) {x : Nat} (hx : x < 4294967296) {q : Pl} (hq : pget S.l 1 x = some q) : Calls Tryz.prog 16 #[.pointer (some ⟨S.c, 0, none⟩), .int .u32 (x : Int)] wr fun r w' => r = .returned (kindOwn q) ∧ Below wr.heap.size wr w' := by
  unfold kindOwn
  by_cases hk : q.kind = 1
  · rw [if_pos hk]
    exact cown_some h ok hx hq hk
  · rw [if_neg hk]
    exact cown_err (by decide) (cof_other h ok.inv.lok hx 1 hq (by decide) (by omega))
theorem un_of (h : UnI S LV va L ua bo bi fo fi w wr) (ok : S.Ok fr N K) {x : Nat} (hx : x < 4294967296) {q : Pl} (hq : pget S.l 1 x = some q) : Calls Tryz.prog 18 #[.pointer (some ⟨S.c, 0, none⟩), .int .u32 (x : Int), .int .i64 0] wr fun r w' => r = .returned (.tuple #[.agg #[.int .i64 (q.kind : Int), .int .i64 (q.at_ : Int), .int .i64 (q.fac : Int)], .int .i64 0]) ∧ UnI S LV va L ua bo bi fo fi w w' :=
  (cof_some h.sep ok.inv.lok hx 0 hq (.inl rfl)).mono fun r w' ⟨e, hb⟩ => ⟨e, h.grown hb⟩
theorem un_own (h : UnI S LV va L ua bo bi fo fi w wr) (ok : S.Ok fr N K) {x : Nat} (hx : x < 4294967296) {q : Pl} (hq : pget S.l 1 x = some q) : Calls Tryz.prog 16 #[.pointer (some ⟨S.c, 0, none⟩), .int .u32 (x : Int)] wr fun r w' => r = .returned (kindOwn q) ∧ UnI S LV va L ua bo bi fo fi w w' :=
  (own_any h.sep ok hx hq).mono fun r w' ⟨e, hb⟩ => ⟨e, h.grown hb⟩
end
theorem pget_lt {S : CO} {fr : List Nat} {N K : Nat} (ok : S.Ok fr N K) {s x : Nat} {p : Pl} (hp : pget S.l s x = some p) : x < 4294967296 := by
  obtain ⟨a1, a2, _⟩ := pget_some.1 hp
  have := (ok.inv.lok.2 p (List.mem_of_getElem? a1)).2
  unfold nm at a2; omega
theorem fac_lt {S : CO} {fr : List Nat} {N K : Nat} (ok : S.Ok fr N K) {x : Nat} {p : Pl} (hp : pget S.l 1 x = some p) : p.fac < N ∧ (p.kind = 1 → p.own < N) := by
  have hi : p.is = true := Pl.is_iff.2 (.inl (pget_some.1 hp).2.2)
  have hn := ok.next
  refine ⟨?_, fun hk => ?_⟩
  · obtain ⟨e, he⟩ := ok.inv.tre.fac p (pget_mem hp) hi
    have := (ok.inv.mem.pool.q.fa _ e he).2.2.2.2.2.2
    omega
  · obtain ⟨e, he⟩ := ok.inv.tre.acc (pget_mem hp) hi hk
    have := (ok.inv.mem.pool.q.fa _ e he).2.2.2.2.2.2
    omega
/-- What a round of the first loop finds. -/
theorem un_round {S : CO} {fr : List Nat} {N K : Nat} (ok : S.Ok fr N K) (hN : N ≤ 255) {h : Nat} {p : Pl} (hp : pget S.l 1 h = some p) (hk : p.kind = 1) {L : List Nat} (hL : L = under S.l S.P.q.next.toNat h) {j x : Nat} (hj : L[j]? = some x) :
    ∃ q, pget S.l 1 x = some q ∧ x < 4294967296 ∧ x ≠ h ∧ x ≠ 0 ∧ isF (L.drop (j + 1)) (x % 256) = false ∧ q.fac < 255 ∧ (q.kind = 1 → q.own < 255) ∧ (q.fac = p.own ∨ ownsF S.l (L.drop (j + 1)) q.fac = true) := by
  have t := ok.inv.tree
  have hlt := (List.getElem?_eq_some_iff.1 hj).1
  have hsp : under S.l S.P.q.next.toNat h = L.take j ++ x :: L.drop (j + 1) := by
    rw [← hL]
    have e := (List.getElem?_eq_some_iff.1 hj).2
    rw [← e, List.getElem_cons_drop, List.take_append_drop]
  obtain ⟨q, h1, h2, h3, h4, _, _, h6⟩ := under_row t hp hk hsp
  have hf := fac_lt ok h1
  exact ⟨q, h1, pget_lt ok h1, h2, h3, isF_false h4, by omega, fun hq => by have := hf.2 hq; omega, h6.imp id fun h => ownsF_iff.2 h⟩
/-- What a round of the second loop finds. -/
theorem un_live {S : CO} {fr : List Nat} {N K : Nat} (ok : S.Ok fr N K) {h : Nat} {p : Pl} (hp : pget S.l 1 h = some p) (hk : p.kind = 1) {L : List Nat} (hL : L = under S.l S.P.q.next.toNat h) {x : Nat} {q : Pl} (hq : pget S.l 1 x = some q) :
    (q.fac = p.own ∨ ownsF S.l L q.fac = true) → x ≠ 0 → x ≠ h → isF L (x % 256) = true := fun hf h0 hne => by
  have t := ok.inv.tree
  have := under_all t hp hk hq h0 hne (hf.imp id fun h => by
    rw [hL] at h
    exact ownsF_iff.1 h)
  rw [hL]
  exact isF_true this
/-- Dooming one behind the other, all under a factory. -/
def UdAt (S0 : CO) (N K : Nat) (L : List Nat) (ua : Option Addr) (i : Nat) (w wr : World) : Prop := ∃ (S : CO) (fr : List Nat), S.c = S0.c ∧ S.Ok fr N K ∧ Dmd S0.l (L.take i) S.l ∧ Step [] S.hl w wr ∧ Aside S.hl L ua wr
theorem ud_doom {S0 : CO} {fr0 : List Nat} {N0 K0 N K : Nat} (ok0 : S0.Ok fr0 N0 K0) {h : Nat} {p : Pl} (hp : pget S0.l 1 h = some p) (hk : p.kind = 1) {L : List Nat} (hL : L = under S0.l S0.P.q.next.toNat h) {ua : Option Addr} {j x : Nat} {w wr : World} (hu : UdAt S0 N K L ua j w wr) (hK : K ≤ 1048576) (hj : L[j]? = some x) :
    Calls Tryz.prog 19 #[.pointer (some ⟨S0.c, 0, none⟩), .int .u32 (x : Int)] wr fun r w' => r = .returned (.int .i64 0) ∧ UdAt S0 N K L ua (j + 1) w w' := by
  obtain ⟨S, fr, ec, ok, d, st, hsd⟩ := hu
  have t := ok0.inv.tree
  have hsp : under S0.l S0.P.q.next.toNat h = L.take j ++ x :: L.drop (j + 1) := by
    rw [← hL]
    have e := (List.getElem?_eq_some_iff.1 hj).2
    rw [← e, List.getElem_cons_drop, List.take_append_drop]
  obtain ⟨q, h1, h2, h3, h4, h5, h6, h7⟩ := under_row t hp hk hsp
  have hxA : x ∉ L.take j := fun hm => h5 x hm rfl
  have hl0 : S0.l.length ≤ 256 := by rw [ok0.inv.lok.1]; exact Nat.le_refl _
  have hl1 : S.l.length ≤ 256 := by rw [ok.inv.lok.1]; exact Nat.le_refl _
  have hkids := d.none_left hl0 hl1 h6
  have hx : pget S.l 1 x = some q := by rw [d x, if_neg hxA]; exact h1
  have := cdoom_any st.sep ok hK (pget_lt ok hx)
  rw [ec] at this
  refine this.mono ?_
  rintro r w' (⟨e, _⟩ | ⟨_, e, _⟩ | ⟨_, _, e, _⟩ | ⟨p', rv, hp', h0, hk', hov, rfl, st'⟩)
  · rw [hx] at e; cases e
  · exact absurd e h3
  · exact absurd hkids e
  · refine ⟨rfl, _, fr, ?_, ok.doomed hp' h0 hk' hov, ?_, st.trans st', hsd.step st'⟩
    · exact ec
    · have : L.take (j + 1) = L.take j ++ [x] := by rw [List.take_add_one, hj]; rfl
      rw [this]
      exact d.step (dmd_set hp')
theorem ud_end {S0 : CO} {fr0 : List Nat} {N0 K0 N K : Nat} (ok0 : S0.Ok fr0 N0 K0) {h : Nat} {p : Pl} (hp : pget S0.l 1 h = some p) (hk : p.kind = 1) {L : List Nat} (hL : L = under S0.l S0.P.q.next.toNat h) {ua : Option Addr} {w wr : World} (hu : UdAt S0 N K L ua L.length w wr) (hK : K ≤ 1048576) :
    Calls Tryz.prog 17 #[.pointer (some ⟨S0.c, 0, none⟩), .int .u32 (h : Int)] wr fun r w' => (∃ a cap, r = .returned (.slice a 0 cap)) ∧ Below w.heap.size w w' ∧ (h ≠ 0 → Calls Tryz.prog 19 #[.pointer (some ⟨S0.c, 0, none⟩), .int .u32 (h : Int)] w' fun r w2 => r = .returned (.int .i64 0) ∧ Below w.heap.size w w2) := by
  obtain ⟨S, fr, ec, ok, d, st, hsd⟩ := hu
  rw [List.take_length] at d
  have t0 := ok0.inv.tree
  have t := ok.inv.tree
  have hl0 : S0.l.length ≤ 256 := by rw [ok0.inv.lok.1]; exact Nat.le_refl _
  have hl1 : S.l.length ≤ 256 := by rw [ok.inv.lok.1]; exact Nat.le_refl _
  have hhL : h ∉ L := fun hm => by
    rw [hL] at hm
    exact ((mem_under t0).1 hm).2 rfl
  have hkm : ∀ y ∈ kids S0.l h, y ∈ L := fun y hy => by
    obtain ⟨p1, q, a1, a2, a3, a4, a5⟩ := (mem_kids hl0).1 hy
    rw [hp] at a1; cases a1
    rw [hL]
    refine under_all t0 hp hk a3 a4 (fun e => ?_) (.inl a5)
    subst e
    rw [hp] at a3; cases a3
    have := t0.rise y p hp a4 hk
    omega
  have hkids := d.none_left hl0 hl1 hkm
  have hx : pget S.l 1 h = some p := by rw [d h, if_neg hhL]; exact hp
  have h32 := pget_lt ok hx
  have := cunder_any st.sep ok h32
  rw [ec, (under_nil t).2 hkids] at this
  refine this.mono ?_
  intro r w' hr
  obtain ⟨a, cap, rfl, hb, _⟩ := hr.shape
  have st2 := st.trans (st.sep.grown hb)
  refine ⟨⟨a, cap, rfl⟩, st2.fresh, fun h0 => ?_⟩
  have := cdoom_any st2.sep ok hK h32
  rw [ec] at this
  refine this.mono ?_
  rintro r w2 (⟨e, _⟩ | ⟨_, e, _⟩ | ⟨_, _, e, _⟩ | ⟨p', rv, _, _, _, _, rfl, st'⟩)
  · rw [hx] at e; cases e
  · exact absurd e h0
  · exact absurd hkids e
  · exact ⟨rfl, (st2.trans st').fresh⟩
theorem UnI.ud {S : CO} {fr : List Nat} {N K : Nat} {LV L : List Nat} {va ua : Option Addr} {bo bi : Nat} {fo fi : Nat → Bool} {w wr : World} (h : UnI S LV va L ua bo bi fo fi w wr) (ok : S.Ok fr N K) : UdAt S N K L ua 0 w wr :=
  ⟨S, fr, rfl, ok, by rw [List.take_zero]; exact Dmd.nil _, h.st.drop (List.sublist_append_left _ _), fun j x hj => by
    obtain ⟨g, h1, h2, h3, h4⟩ := h.ua j x hj
    exact ⟨g, h1, fun hk => h2 (by rw [keys_append]; exact List.mem_append_left _ hk), h3, h4⟩⟩
theorem un_doomh {S : CO} {fr : List Nat} {N K : Nat} {LV L : List Nat} {va ua : Option Addr} {bo bi : Nat} {fo fi : Nat → Bool} {w wr : World} (hu : UnI S LV va L ua bo bi fo fi w wr) (ok : S.Ok fr N K) (hK : K ≤ 1048576) {h : Nat} {p : Pl} (hp : pget S.l 1 h = some p) (h0 : h ≠ 0) (hL : L = under S.l S.P.q.next.toNat h) (hne : L ≠ []) :
    Calls Tryz.prog 19 #[.pointer (some ⟨S.c, 0, none⟩), .int .u32 (h : Int)] wr fun r w' => r = .returned (.int .i64 12) ∧ UdAt S N K L ua 0 w w' := by
  have hkids : kids S.l h ≠ [] := fun e => hne (by rw [hL]; exact (under_nil ok.inv.tree).2 e)
  obtain ⟨S', fr', ec, ok', d, st, hsd⟩ := hu.ud ok
  refine (cdoom_any hu.sep ok hK (pget_lt ok hp)).mono ?_
  rintro r w' (⟨e, _⟩ | ⟨_, e, _⟩ | ⟨_, _, _, rfl, st'⟩ | ⟨p', rv, _, _, e, _⟩)
  · rw [hp] at e; cases e
  · exact absurd e h0
  · have st0 : Step [] S.hl w wr := hu.st.drop (List.sublist_append_left _ _)
    have hsd0 : Aside S.hl L ua wr := fun j x hj => by
      obtain ⟨g, h1, h2, h3, h4⟩ := hu.ua j x hj
      exact ⟨g, h1, fun hk => h2 (by rw [keys_append]; exact List.mem_append_left _ hk), h3, h4⟩
    exact ⟨rfl, S, fr, rfl, ok, by rw [List.take_zero]; exact Dmd.nil _, st0.trans st', hsd0.step st'⟩
  · exact absurd e hkids
theorem UdAt.row {S0 : CO} {N K : Nat} {L : List Nat} {ua : Option Addr} {i : Nat} {w wr : World} (h : UdAt S0 N K L ua i w wr) {j x : Nat} (hj : L[j]? = some x) : ∃ g, ua = some ⟨g, 0, none⟩ ∧ wr.cell? ⟨g, j, none⟩ = some (.int .u32 (x : Int)) := by
  obtain ⟨S, fr, _, _, _, _, hsd⟩ := h
  obtain ⟨g, h1, _, _, h4⟩ := hsd j x hj
  exact ⟨g, h1, h4⟩
end Go.Proofs.YtcnbbenmlffgpaaGreatDoor

/- The law CoreUnder is true. Conditions: the package-level variables lie, the acts are read. -/
namespace Go.Proofs.YtcnbbenmlffgpaaGreatDoor
open Go.RowKit

/-- Behind the acts: the core, what is live, the factory that was chosen. -/
theorem un_begin {c N K : Nat} {w wr : World} (h : CoreAt c N K w wr) : Calls Tryz.prog 15 #[.pointer (some ⟨c, 0, none⟩)] wr fun r w' => ∃ (S : CO) (fr : List Nat) (LV : List Nat) (g cap : Nat), S.c = c ∧ S.Ok fr N K ∧ LV = allL S.l 1 ∧ r = .returned (.slice (some ⟨g, 0, none⟩) LV.length cap) ∧ 0 < LV.length ∧ LV.length ≤ 256 ∧ (∀ x ∈ LV, x < 4294967296 ∧ ∃ p, pget S.l 1 x = some p) ∧ Step [] S.hl w w' ∧ Aside S.hl LV (some ⟨g, 0, none⟩) w' := by
  obtain ⟨S, fr, ec, ok, st⟩ := h
  have := clive_any st.sep ok.inv.lok
  rw [ec] at this
  refine this.mono ?_
  intro r w' hr
  obtain ⟨a, cap, rfl, hb, hsd⟩ := hr.aside st.sep
  obtain ⟨l1, l2, l3⟩ := live_some ok
  obtain ⟨g, rfl, _⟩ := hsd 0 _ (List.getElem?_eq_getElem (by omega))
  exact ⟨S, fr, allL S.l 1, g, cap, ec, ok, rfl, rfl, by omega, l2, l3, st.trans (st.sep.grown hb), hsd⟩
theorem un_factory {S : CO} {fr : List Nat} {N K : Nat} {LV : List Nat} {va : Option Addr} {w wr : World} (ok : S.Ok fr N K) (st : Step [] S.hl w wr) (hv : Aside S.hl LV va wr) {x : Nat} (hx : x < 4294967296) {p : Pl} (hp : pget S.l 1 x = some p) :
    Calls Tryz.prog 16 #[.pointer (some ⟨S.c, 0, none⟩), .int .u32 (x : Int)] wr fun r w' => r = .returned (kindOwn p) ∧
      Calls Tryz.prog 17 #[.pointer (some ⟨S.c, 0, none⟩), .int .u32 (x : Int)] w' fun r w2 => ∃ (L : List Nat) (ua : Option Addr) (cap : Nat), L = under S.l S.P.q.next.toNat x ∧ L.length ≤ 256 ∧ r = .returned (.slice ua L.length cap) ∧ Step [] S.hl w w2 ∧ Aside S.hl LV va w2 ∧ Aside S.hl L ua w2 := by
  refine (own_any st.sep ok hx hp).mono ?_
  rintro r w' ⟨rfl, hb⟩
  have st1 := st.trans (st.sep.grown hb)
  refine ⟨rfl, (cunder_any st1.sep ok hx).mono ?_⟩
  intro r w2 hr
  obtain ⟨a, cap, rfl, hb2, hsd⟩ := hr.aside st1.sep
  refine ⟨_, a, cap, rfl, ?_, rfl, st1.trans (st1.sep.grown hb2), (hv.grown hb).grown hb2, hsd⟩
  have h1 := pre_len ok.inv.tree x
  rw [pre_split ok.inv.tree x, List.length_cons, List.length_reverse] at h1
  omega
set_option maxHeartbeats 16000000 in
set_option maxRecDepth 100000 in
theorem coreUnder_any {w : World} (henv : Env w) (a0 : Option Addr) (len cap : Nat) (A : Nat → A5) (hA : IsA5 w a0 len A) (pd : Nat) (hpd : pd < 256) : Calls Tryz.prog 3 #[.slice a0 len cap, .int .u8 (pd : Int)] w (Told w (.bool true)) := by
  have hal := alive16_any henv
  have h16 : ((2 ^ (6 + 10) : Nat) : Int) = 65536 := by decide
  have HAl : Hid (∀ r w1, Told w (.bool true) r w1 → r = .returned (.bool true) ∧ Below w.heap.size w w1 ∧ Calls Tryz.prog 13 #[.int .i64 65536, .int .i64 65536, .int .i64 2] w1 fun r w2 => ∃ c : Nat, r = .returned (.pointer (some ⟨c, 0, none⟩)) ∧ CoreAt c 1 0 w w2) := by
    rintro r w1 ⟨rfl, hb⟩
    have := cnew_any (Sep.nil (henv.below hb)) 6 (by omega) (by omega) 65536 (by omega) (by rw [h16]; omega) 2 (by omega) (by omega)
    rw [h16] at this
    refine ⟨rfl, hb, this.mono ?_⟩
    rintro r w2 ⟨S, rfl, hf, st⟩
    have st1 : Step [] S.hl w1 w2 := by simpa using st
    have st2 : Step [] S.hl w w2 := ((Sep.nil henv).grown hb).trans st1
    exact ⟨S.c, rfl, hf.at st2⟩
  have hp0 : (0 : Int) ≤ (pd : Int) := by omega
  have HA := hidden hA
  have HPd := hidden hpd
  clear henv hA h16 hpd
  go_enter Tryz.func3, Tryz.ntmps3
  go_wp2_with fail
  refine hal.mono ?_
  intro r w1 hx
  obtain ⟨rfl, hb1, hnew⟩ := HAl.out _ _ hx
  have HNew := hidden hnew
  have HB1 := hidden hb1
  clear hx hb1 hnew hal HAl
  by_cases h60 : 80 < len
  · have HR : Hid (Told w (.bool true) (.returned (.bool true)) w1) := ⟨rfl, HB1.out⟩
    have h60i : (80 : Int) < len := by omega
    clear h60
    go_wp2_with fail
    first | exact HR.out | (go_ret; exact HR.out)
  have hlen : (len : Int) ≤ 80 := by omega
  have hd60 : decide ((80 : Int) < (len : Int)) = false := by rw [decide_eq_false_iff_not]; omega
  clear h60
  go_wp2_with fail
  refine HNew.out.mono ?_
  rintro r w2 ⟨c, rfl, hst0⟩
  have HS0 := hidden hst0
  clear hst0 HNew
  go_wp2_with fail
  go_loopg [6] len (fun gk iv wr => ∃ (i : Nat), iv = .int .i64 i ∧ i + gk = len ∧ CoreAt c (1 + i) (20 * i) w wr)
  case atStart => exact ⟨0, rfl, Nat.zero_add _, HS0.out⟩
  case round =>
    clear HS0
    obtain ⟨i, rfl, hig, hst⟩ := hrel
    have HIg := hidden hig
    by_cases hlt : i < len
    · obtain ⟨g, off, rfl, b0, b1, b2, b3, b4, wf⟩ := HA.out.read hst.fresh hlt
      have hpl := coreAt_play hst (by omega) (by omega) (A i) wf
      generalize (A i).kind = ak at *
      generalize (A i).n = an at *
      generalize (A i).k = akk at *
      generalize (A i).m = am at *
      generalize (A i).h = ah at *
      have HPl := hidden hpl
      have hii : (i : Int) < (len : Int) := by omega
      clear hpl hst wf hig
      go_wp2_with fail
      refine HPl.out.mono ?_
      rintro r w3 ⟨rfl, hst3⟩
      have HS3 := hidden hst3
      clear hst3 HPl b0 b1 b2 b3 b4
      go_wp2_with fail
      go_roundg (len - (i + 1))
      case measure => have := HIg.out; omega
      case rel => exact ⟨i + 1, by go_num, by have := HIg.out; omega, by rw [show 1 + (i + 1) = 1 + i + 1 by omega, show 20 * (i + 1) = 20 * i + 20 by omega]; exact HS3.out⟩
    · obtain rfl : i = len := by omega
      have hbg := un_begin hst
      have HBg := hidden hbg
      clear hbg hst hig HIg
      go_wp2_with fail
      refine HBg.out.mono ?_
      rintro r w4 ⟨S, fr, LV, g, cap, rfl, ok, hLV, rfl, hl0, hl256, hlv, st, hsd⟩
      have ok2 : S.Ok fr 81 1600 := ok.mono (by omega) (by omega)
      have hj : pd % LV.length < LV.length := Nat.mod_lt _ hl0
      have hjx : LV[pd % LV.length]? = some (LV[pd % LV.length]) := List.getElem?_eq_getElem hj
      generalize LV[pd % LV.length] = h at hjx
      obtain ⟨h32, p, hp⟩ := hlv h (List.mem_of_getElem? hjx)
      obtain ⟨g', e1, _, _, hcx⟩ := hsd _ _ hjx
      cases e1
      have hfc := un_factory ok2 st hsd h32 hp
      have hmod : (pd : Int).tmod (LV.length : Int) = ((pd % LV.length : Nat) : Int) := by
        rw [Int.tmod_eq_emod_of_nonneg hp0]; rfl
      have HFc := hidden hfc
      have HOk := hidden ok2
      have HP := hidden hp
      have HLv := hidden hlv
      clear hfc ok ok2 st hsd hLV hlv hp hjx HBg HA
      generalize hlnn : LV.length = ln at *
      have HLn := hidden hlnn
      clear hlnn
      generalize pd % ln = j at *
      have hw1 : IntKind.i64.wrap ((j : Nat) : Int) = (j : Int) := Go.IntWalk.i64_in _ (by omega)
      have hui : (0 : Int) < (ln : Int) := by omega
      have hun : ((ln : Int) == 0) = false := by simp; omega
      have hun3 : ¬ (ln : Int) = 0 := by omega
      have hun2 : ¬ ln = 0 := by omega
      have hji : (j : Int) < (ln : Int) := by omega
      have hj0 : (0 : Int) ≤ (j : Int) := by omega
      have hpd2 : (pd : Int) < 256 := by have := HPd.out; omega
      have hl2i : (ln : Int) ≤ 256 := by omega
      go_wp2_with fail
      refine HFc.out.mono ?_
      rintro r w5 ⟨rfl, hun⟩
      have HUn := hidden hun
      clear hun
      clear HFc
      try clear hcx
      try clear hmod
      try clear hw1
      try clear hj
      by_cases hk : p.kind = 1
      · have hko : kindOwn p = .tuple #[.int .i64 (p.own : Int), .int .i64 0] := by unfold kindOwn; rw [if_pos hk]
        rw [hko]
        have HK1 := hidden hk
        clear hko hk
        go_wp2_with fail
        refine HUn.out.mono ?_
        rintro r w6 ⟨L, ua, ucap, hL, hl, rfl, st, hv, hu⟩
        have h0 := UnI.start st hv hu
        have HU0 := hidden h0
        have HL := hidden hL
        clear h0 st hv hu hL HUn
        generalize hull : L.length = ul at *
        have HUl := hidden hull
        have hul : (ul : Int) ≤ 256 := by omega
        clear hull hl
        go_upto_region 18 with fail
        have hz := zero_bools
        generalize hZ : (bools fun _ => false).toArray = Z at *
        have HZ := hidden hZ
        clear hZ
        iterate 12 (first | refine wpList_allocZ rfl 37 rfl _ rfl w6.heap.size rfl Z hz ?_ | refine wpList_allocZ rfl 37 rfl _ rfl (w6.heap.size + 1) (by simp) Z hz ?_ | go_step)
        generalize hw7 : (w6.alloc (.cells Z 37)).alloc (.cells Z 37) = w7 at *
        generalize hbi : w6.heap.size + 1 = bi at *
        generalize hbo : w6.heap.size = bo at *
        clear hw7 hbi hbo hz HZ
        go_wp2_with fail
        go_loopg [14] ul (fun gk v wi => v = .int .i64 ((gk : Int) - 1) ∧ gk ≤ ul ∧ UnI S LV (some ⟨g, 0, none⟩) L ua bo bi (ownsF S.l (L.drop gk)) (isF (L.drop gk)) w wi)
        case atStart => exact ⟨by go_num, Nat.le_refl _, by rw [← HUl.out, List.drop_length]; exact HU0.out⟩
        case round =>
          clear HU0
          obtain ⟨rfl, hgu, hun⟩ := hrel
          rcases Nat.eq_zero_or_eq_succ_pred gk with h0 | hs
          · subst h0
            rw [List.drop_zero] at hun
            have HUn := hidden hun
            clear hun
            have e0 : (((0 : Nat) : Int) - 1) = -1 := rfl
            rw [e0]
            clear e0 hgu
            go_wp2_with fail
            go_loopg [20] ln (fun gk v wi => ∃ j : Nat, v = .int .i64 (j : Int) ∧ j + gk = ln ∧ UnI S LV (some ⟨g, 0, none⟩) L ua bo bi (ownsF S.l L) (isF L) w wi)
            case atStart => exact ⟨0, rfl, Nat.zero_add _, HUn.out⟩
            case round =>
              clear HUn
              obtain ⟨j, rfl, hjg, hun⟩ := hrel
              have HJg := hidden hjg
              by_cases hjl : j < ln
              · have hm : j < LV.length := by have := HLn.out; omega
                have hx : LV[j]? = some LV[j] := List.getElem?_eq_getElem hm
                generalize LV[j] = x at hx
                obtain ⟨hx32, q, hq⟩ := HLv.out x (List.mem_of_getElem? hx)
                obtain ⟨gv, e2, hcx⟩ := hun.live hx
                cases e2
                have hof := un_of hun HOk.out hx32 hq
                have hand := and_place x hx32
                have hfl := un_live HOk.out HP.out HK1.out HL.out hq
                have hfac := (fac_lt HOk.out hq).1
                have HX := hidden hx
                have HFl := hidden hfl
                have HOf := hidden hof
                have hji : (j : Int) < (ln : Int) := by omega
                have hxmn : x % 256 < 256 := by omega
                have hxm : ((x % 256 : Nat) : Int) < 256 := by omega
                have hxm0 : (0 : Int) ≤ ((x % 256 : Nat) : Int) := by omega
                clear hof hun hx hq hx32 hfl hm hjg
                go_wp2_with fail
                refine HOf.out.mono ?_
                rintro r w8 ⟨rfl, hun8⟩
                have hun8a := hun8.grown ((Below.refl _ _).alloc (Nat.le_refl _) (.cells #[.int .i64 (q.kind : Int), .int .i64 (q.at_ : Int), .int .i64 (q.fac : Int)] 39))
                have ci := hun8a.cellI (k := x % 256) hxmn
                have co := hun8a.cellO (k := q.fac) (by omega)
                obtain ⟨gv', e2, cr⟩ := hun8a.live HX.out
                cases e2
                have b2 := (Cells.new w8 39 [.int .i64 (q.kind : Int), .int .i64 (q.at_ : Int), .int .i64 (q.fac : Int)]).cell 2 _ rfl
                have HUn8 := hidden hun8a
                have hf1 : ((q.fac : Nat) : Int) < 256 := by omega
                have hf0 : (0 : Int) ≤ ((q.fac : Nat) : Int) := by omega
                have hf2 : q.fac < 256 := by omega
                have tg : decide ((0 : Int) ≤ ((q.fac : Nat) : Int)) = true := by rw [decide_eq_true_eq]; exact hf0
                have tl : decide (((q.fac : Nat) : Int) < 256) = true := by simpa using hf1
                clear hun8 hun8a hcx HOf hfac
                cases hD : ownsF S.l L q.fac with
                | false =>
                  rw [hD] at co HFl
                  by_cases hfo : q.fac = p.own
                  · have tt : (((q.fac : Nat) : Int) == ((p.own : Nat) : Int)) = true := by simp; omega
                    have HFo := hidden hfo
                    clear hfo
                    by_cases hx0 : x = 0
                    · subst hx0
                      go_wp2_with fail
                      go_roundg (ln - (j + 1))
                      case measure => have := HJg.out; omega
                      case rel => exact ⟨j + 1, by go_num, by have := HJg.out; omega, HUn8.out⟩
                    · have t2 : (((x : Nat) : Int) != 0) = true := by simp; omega
                      by_cases hxh : x = h
                      · subst hxh
                        have t3 : (((x : Nat) : Int) != ((x : Nat) : Int)) = false := by simp
                        go_wp2_with fail
                        go_roundg (ln - (j + 1))
                        case measure => have := HJg.out; omega
                        case rel => exact ⟨j + 1, by go_num, by have := HJg.out; omega, HUn8.out⟩
                      · have t3 : (((x : Nat) : Int) != ((h : Nat) : Int)) = true := by simp; omega
                        rw [HFl.out (.inl HFo.out) hx0 hxh] at ci
                        go_wp2_with fail
                        go_roundg (ln - (j + 1))
                        case measure => have := HJg.out; omega
                        case rel => exact ⟨j + 1, by go_num, by have := HJg.out; omega, HUn8.out⟩
                  · have tt : (((q.fac : Nat) : Int) == ((p.own : Nat) : Int)) = false := by simp; omega
                    go_wp2_with fail
                    go_roundg (ln - (j + 1))
                    case measure => have := HJg.out; omega
                    case rel => exact ⟨j + 1, by go_num, by have := HJg.out; omega, HUn8.out⟩
                | true =>
                  rw [hD] at co HFl
                  have hcase : (((q.fac : Nat) : Int) == ((p.own : Nat) : Int)) = true ∨ (((q.fac : Nat) : Int) == ((p.own : Nat) : Int)) = false := by
                    cases (((q.fac : Nat) : Int) == ((p.own : Nat) : Int)) <;> simp
                  rcases hcase with tt | tt
                  all_goals
                    by_cases hx0 : x = 0
                    · subst hx0
                      go_wp2_with fail
                      go_roundg (ln - (j + 1))
                      case measure => have := HJg.out; omega
                      case rel => exact ⟨j + 1, by go_num, by have := HJg.out; omega, HUn8.out⟩
                    · have t2 : (((x : Nat) : Int) != 0) = true := by simp; omega
                      by_cases hxh : x = h
                      · subst hxh
                        have t3 : (((x : Nat) : Int) != ((x : Nat) : Int)) = false := by simp
                        go_wp2_with fail
                        go_roundg (ln - (j + 1))
                        case measure => have := HJg.out; omega
                        case rel => exact ⟨j + 1, by go_num, by have := HJg.out; omega, HUn8.out⟩
                      · have t3 : (((x : Nat) : Int) != ((h : Nat) : Int)) = true := by simp; omega
                        rw [HFl.out (.inr rfl) hx0 hxh] at ci
                        go_wp2_with fail
                        go_roundg (ln - (j + 1))
                        case measure => have := HJg.out; omega
                        case rel => exact ⟨j + 1, by go_num, by have := HJg.out; omega, HUn8.out⟩
              · have HUn := hidden hun
                clear hun hjg
                obtain rfl : j = ln := by have := HJg.out; omega
                go_upto_region 40 with fail
                go_cut [230] from 218 to 230 (fun v wx => v = .bool false ∧ UdAt S 81 1600 L ua 0 w wx)
                case first =>
                  by_cases h00 : h = 0
                  · subst h00
                    have HUd := hidden (HUn.out.ud HOk.out)
                    go_wp2_with fail
                    go_meet
                    exact ⟨rfl, HUd.out⟩
                  · have t2 : (((h : Nat) : Int) != 0) = true := by simp; omega
                    by_cases hul0 : ul = 0
                    · subst hul0
                      have HUd := hidden (HUn.out.ud HOk.out)
                      go_wp2_with fail
                      go_meet
                      exact ⟨rfl, HUd.out⟩
                    · have HDm := hidden (un_doomh HUn.out HOk.out (by omega) HP.out h00 HL.out (fun e => hul0 (by rw [← HUl.out, e]; rfl)))
                      have hul2 : (0 : Int) < (ul : Int) := by omega
                      go_wp2_with fail
                      refine HDm.out.mono ?_
                      rintro r w8 ⟨rfl, hud⟩
                      have HUd := hidden hud
                      clear hud
                      go_wp2_with fail
                      go_meet
                      exact ⟨rfl, HUd.out⟩
                case rest =>
                  obtain ⟨rfl, hud⟩ := hcut
                  have HUd := hidden hud
                  clear hud HUn
                  go_wp2_with fail
                  go_loopg [24] ul (fun gk v wi => ∃ k : Nat, v = .int .i64 (k : Int) ∧ k + gk = ul ∧ UdAt S 81 1600 L ua k w wi)
                  case atStart => exact ⟨0, rfl, Nat.zero_add _, HUd.out⟩
                  case round =>
                    clear HUd
                    obtain ⟨k, rfl, hkg, hud⟩ := hrel
                    have HKg := hidden hkg
                    by_cases hkl : k < ul
                    · have hm : k < L.length := by have := HUl.out; omega
                      have hx : L[k]? = some L[k] := List.getElem?_eq_getElem hm
                      generalize L[k] = x at hx
                      obtain ⟨gu, rfl, hcx⟩ := hud.row hx
                      have hdm := ud_doom HOk.out HP.out HK1.out HL.out hud (by omega) hx
                      have HDm := hidden hdm
                      have hki : (k : Int) < (ul : Int) := by omega
                      clear hdm hud hx hm hkg
                      go_wp2_with fail
                      refine HDm.out.mono ?_
                      rintro r w8 ⟨rfl, hud8⟩
                      have HUd8 := hidden hud8
                      clear hud8 HDm hcx
                      go_wp2_with fail
                      go_roundg (ul - (k + 1))
                      case measure => have := HKg.out; omega
                      case rel => exact ⟨k + 1, by go_num, by have := HKg.out; omega, HUd8.out⟩
                    · obtain rfl : k = ul := by have := HKg.out; omega
                      have hen := ud_end HOk.out HP.out HK1.out HL.out (by rw [HUl.out]; exact hud) (by omega)
                      have HEn := hidden hen
                      clear hen hud hkg
                      go_wp2_with fail
                      refine HEn.out.mono ?_
                      rintro r w8 ⟨⟨ea, ecap, rfl⟩, hb8, hd8⟩
                      by_cases h00 : h = 0
                      · subst h00
                        have HR : Hid (Told w (.bool true) (.returned (.bool true)) w8) := ⟨rfl, hb8⟩
                        clear hb8 hd8 HEn
                        go_wp2_with fail
                        first | exact HR.out | (go_ret; exact HR.out)
                      · have t2 : (((h : Nat) : Int) == 0) = false := by simp; omega
                        have HD8 := hidden (hd8 h00)
                        clear hb8 hd8 HEn
                        go_wp2_with fail
                        refine HD8.out.mono ?_
                        rintro r w9 ⟨rfl, hb9⟩
                        have HR : Hid (Told w (.bool true) (.returned (.bool true)) w9) := ⟨rfl, hb9⟩
                        clear hb9 HD8
                        go_wp2_with fail
                        first | exact HR.out | (go_ret; exact HR.out)
          · generalize gk.pred = m at hs
            subst hs
            have hm : m < L.length := by have := HUl.out; omega
            have hx : L[m]? = some L[m] := List.getElem?_eq_getElem hm
            have hdr : L.drop m = L[m] :: L.drop (m + 1) := List.drop_eq_getElem_cons hm
            generalize L[m] = x at hx hdr
            obtain ⟨q, hq, hx32, hxh, hx0, hF, hfac, hown, hor⟩ := un_round HOk.out (by omega) HP.out HK1.out HL.out hx
            obtain ⟨gu, rfl, hcx⟩ := hun.row hx
            have hof := un_of hun HOk.out hx32 hq
            have hand := and_place x hx32
            have HDr := hidden hdr
            have HX := hidden hx
            have HQ := hidden hq
            have HX32 := hidden hx32
            have HFa := hidden hF
            have HFac := hidden hfac
            have HOwn := hidden hown
            have HOr := hidden hor
            have HOf := hidden hof
            have e1 : (((m + 1 : Nat) : Int) - 1) = (m : Int) := by omega
            rw [e1]
            have hmu : (m : Int) < (ul : Int) := by omega
            have hm0 : (0 : Int) ≤ (m : Int) := by omega
            have t1 : (((x : Nat) : Int) == ((h : Nat) : Int)) = false := by simp; omega
            have t2 : (((x : Nat) : Int) == 0) = false := by simp; omega
            have hxm : ((x % 256 : Nat) : Int) < 256 := by omega
            have hxm0 : (0 : Int) ≤ ((x % 256 : Nat) : Int) := by omega
            have hxmn : x % 256 < 256 := by omega
            clear hof hun hx hdr hq hx32 hxh hx0 hF hfac hown hor e1 hm
            go_wp2_with fail
            refine HOf.out.mono ?_
            rintro r w8 ⟨rfl, hun8⟩
            have hun8a := hun8.grown ((Below.refl _ _).alloc (Nat.le_refl _) (.cells #[.int .i64 (q.kind : Int), .int .i64 (q.at_ : Int), .int .i64 (q.fac : Int)] 39))
            have ci := hun8a.cellI (k := x % 256) hxmn
            rw [HFa.out] at ci
            have cf := hun8a.freeI (x % 256)
            obtain ⟨gu', e2, cr⟩ := hun8a.row HX.out
            cases e2
            have hun9 := hun8a.setI (x % 256)
            have hbi8 : bi < w8.heap.size := (hun8.st.sep.cells (b := bi) (T := 37) (cs := bools (isF (L.drop (m + 1)))) (by simp [BH])).lt
            have hb9 := (Cells.new w8 39 [.int .i64 (q.kind : Int), .int .i64 (q.at_ : Int), .int .i64 (q.fac : Int)]).set_other ⟨bi, x % 256, none⟩ (.bool true) (by show w8.heap.size ≠ bi; omega)
            have b2 := hb9.cell 2 _ rfl
            have HUn9 := hidden hun9
            have HB2 := hidden b2
            clear hun8 hun8a hun9 hbi8 hb9 b2 hcx HOf
            go_upto_region 28 with fail
            generalize hw9 : (w8.alloc (.cells #[.int .i64 (q.kind : Int), .int .i64 (q.at_ : Int), .int .i64 (q.fac : Int)] 39)).setCell ⟨bi, x % 256, none⟩ (.bool true) = w9 at *
            have HW9 := hidden hw9
            have hfac2 : ((q.fac : Nat) : Int) < 255 := by have := HFac.out; omega
            have hfac0 : (0 : Int) ≤ ((q.fac : Nat) : Int) := by omega
            have co := HUn9.out.cellO (k := q.fac) (by have := HFac.out; omega)
            have c2 := HB2.out
            clear hw9 ci cf cr
            go_cut [135] from 115 to 135 (fun v wx => v = .bool false ∧ wx = w9)
            case first =>
              by_cases hfo : q.fac = p.own
              · have tt : (((q.fac : Nat) : Int) != ((p.own : Nat) : Int)) = false := by simp; omega
                go_wp2_with fail
                go_meet
                exact ⟨rfl, rfl⟩
              · have tt : (((q.fac : Nat) : Int) != ((p.own : Nat) : Int)) = true := by simp; omega
                have td : decide (((q.fac : Nat) : Int) < 0) = false := by rw [decide_eq_false_iff_not]; omega
                have td2 : decide ((255 : Int) < ((q.fac : Nat) : Int)) = false := by rw [decide_eq_false_iff_not]; omega
                have hfac3 : ((q.fac : Nat) : Int) < 256 := by omega
                have hfac4 : q.fac < 256 := by omega
                rw [HOr.out.resolve_left hfo] at co
                go_wp2_with fail
                go_meet
                exact ⟨rfl, rfl⟩
            case rest =>
              obtain ⟨rfl, rfl⟩ := hcut
              have how := un_own HUn9.out HOk.out HX32.out HQ.out
              obtain ⟨gu', e2, cr⟩ := HUn9.out.row HX.out
              cases e2
              have HOw := hidden how
              clear how co c2 hfac2 hfac0
              go_wp2_with fail
              refine HOw.out.mono ?_
              rintro r w10 ⟨rfl, hun10⟩
              have hun10' : UnI S LV (some ⟨g, 0, none⟩) L (some ⟨gu, 0, none⟩) bo bi (ownsF S.l (L.drop (m + 1))) (isF (L.drop m)) w w10 := by
                rw [HDr.out, isF_cons]; exact hun10
              by_cases hqk : q.kind = 1
              · have hko : kindOwn q = .tuple #[.int .i64 (q.own : Int), .int .i64 0] := by unfold kindOwn; rw [if_pos hqk]
                rw [hko]
                have hon := HOwn.out hqk
                have hok : ownK S.l x = some q.own := ownK_some.2 ⟨q, HQ.out, hqk, rfl⟩
                have hs := hun10'.setO q.own
                rw [← ownsF_some hok, ← HDr.out] at hs
                have co := hun10'.cellO (k := q.own) (by omega)
                have cf := hun10'.freeO q.own
                have HS := hidden hs
                have ho1 : ((q.own : Nat) : Int) < 256 := by omega
                have ho2 : (0 : Int) ≤ ((q.own : Nat) : Int) := by omega
                have ho3 : q.own < 256 := by omega
                clear hko hqk hun10 hun10' hon hok hs HOw cr
                go_wp2_with fail
                go_roundg m
                case measure => omega
                case rel => exact ⟨by go_num, by omega, HS.out⟩
              · have hko : kindOwn q = .tuple #[.int .i64 0, .int .i64 10] := by unfold kindOwn; rw [if_neg hqk]
                rw [hko]
                have hok : ownK S.l x = none := by
                  cases hc : ownK S.l x with
                  | none => rfl
                  | some a =>
                    obtain ⟨r, h1, h2, _⟩ := ownK_some.1 hc
                    rw [HQ.out] at h1; cases h1
                    exact absurd h2 hqk
                rw [← ownsF_none hok, ← HDr.out] at hun10'
                have HS := hidden hun10'
                clear hko hqk hun10 hun10' hok HOw cr
                go_wp2_with fail
                go_roundg m
                case measure => omega
                case rel => exact ⟨by go_num, by omega, HS.out⟩
      · have hko : kindOwn p = .tuple #[.int .i64 0, .int .i64 10] := by unfold kindOwn; rw [if_neg hk]
        rw [hko]
        have HK1 := hidden hk
        clear hko hk
        go_wp2_with fail
        refine HUn.out.mono ?_
        rintro r w6 ⟨L, ua, ucap, hL, hl, rfl, st, hv, hu⟩
        have hnil : L.length = 0 := by
          rw [hL, (under_nil HOk.out.inv.tree).2 (kids_none fun q hq => by rw [HP.out] at hq; cases hq; exact HK1.out)]; rfl
        have HR : Hid (Told w (.bool true) (.returned (.bool true)) w6) := ⟨rfl, st.fresh⟩
        rw [hnil]
        clear hL hl st hv hu hnil HUn
        go_wp2_with fail
        first | exact HR.out | (go_ret; exact HR.out)
end Go.Proofs.YtcnbbenmlffgpaaGreatDoor

/- What the row's listed variables say of memory: the tables lie. No condition. -/
namespace Go.Proofs.YtcnbbenmlffgpaaGreatDoor
open Go.RowKit

def laids : List (String × DataW Unit) := [("math/bits.deBruijn32tab", Rows.laid_math_bits_deBruijn32tab), ("math/bits.deBruijn64tab", Rows.laid_math_bits_deBruijn64tab), ("quartermaster/pool.costs", Rows.laid_quartermaster_pool_costs)]
def dbt32 : List Int := [0, 1, 28, 2, 29, 14, 24, 3, 30, 22, 20, 15, 25, 17, 4, 8, 31, 27, 13, 23, 21, 19, 16, 7, 26, 12, 18, 6, 11, 5, 10, 9]
theorem g32 : Tryz.prog.globalNamed "math/bits.deBruijn32tab" = some 2 := by kernel_rfl
theorem t32 : (Tryz.prog.globals[2]?).map (·.type) = some 264 := by kernel_rfl
theorem g64 : Tryz.prog.globalNamed "math/bits.deBruijn64tab" = some 1 := by kernel_rfl
theorem gCost : Tryz.prog.globalNamed "quartermaster/pool.costs" = some 0 := by kernel_rfl
theorem t64 : (Tryz.prog.globals[1]?).map (·.type) = some 239 := by kernel_rfl
theorem tCost : (Tryz.prog.globals[0]?).map (·.type) = some 176 := by kernel_rfl
theorem env_of_laid {W : World} (h : laidMetH Tryz.prog laids W) : Env W := by
  rw [MakeChecks.laidMetH_plain _ _ _ (by kernel_rfl)] at h
  have h1 : laidMet Tryz.prog (("math/bits.deBruijn32tab", Lib.tabData .u8 dbt32) :: [("math/bits.deBruijn64tab", Rows.laid_math_bits_deBruijn64tab), ("quartermaster/pool.costs", Rows.laid_quartermaster_pool_costs)]) W := h
  have hA := Lib.tabIs_of_head g32 t32 Tryz.underlying264 Tryz.underlying5 (by kernel_rfl) (by kernel_rfl) h1
  have h2 : laidMet Tryz.prog (("math/bits.deBruijn64tab", Lib.tabData .u8 (dbt.map fun (n : Nat) => (n : Int))) :: [("quartermaster/pool.costs", Rows.laid_quartermaster_pool_costs)]) W := laidMet.tail h1
  have h3 : laidMet Tryz.prog (("quartermaster/pool.costs", Lib.tabData .i64 costL) :: []) W := laidMet.tail h2
  have hB := Lib.tabIs_of_head g64 t64 Tryz.underlying239 Tryz.underlying5 (by kernel_rfl) (by kernel_rfl) h2
  have hC := Lib.tabIs_of_head gCost tCost Tryz.underlying176 Tryz.underlying3 (by kernel_rfl) (by kernel_rfl) h3
  have cB : TabB W := by
    intro j v hv
    have hj := (List.getElem?_eq_some_iff.1 hv).1
    have := hB.cell g64 j (by simpa using hj)
    rw [this]
    congr 2
    simp [List.getD, hv]
  have cC : TabC W := by
    intro j v hv
    have hj := (List.getElem?_eq_some_iff.1 hv).1
    have := hC.cell gCost j (by simpa using hj)
    rw [this]
    congr 2
    simp [List.getD, hv]
  refine ⟨?_, cB, cC⟩
  have c0 := World.block_lt_of_cell? W ⟨1, 0, none⟩ (cB 0 0 rfl)
  have c1 := World.block_lt_of_cell? W ⟨0, 0, none⟩ (cC 0 0 rfl)
  have c2 := World.block_lt_of_cell? W ⟨2, 0, none⟩ (hA.cell g32 0 (by decide))
  have c0' : 1 < W.heap.size := c0
  have c1' : 0 < W.heap.size := c1
  have c2' : 2 < W.heap.size := c2
  unfold GB
  omega
end Go.Proofs.YtcnbbenmlffgpaaGreatDoor

/-
  CoreUnder returns true at every input, whatever lies in memory, where the listed variables lie as laid.
  By hand, after the frame of the guide's worked examples. Not trusted: Lean checks it.
-/
namespace Go.Proofs.YtcnbbenmlffgpaaGreatDoor.coreUnder
open Go.ChangeShapes Go.WideShapes Go.ChangeAt Go.RowKit
set_option linter.unusedVariables false

theorem own : ownKnob Tryz.prog.godebug = none := by kernel_rfl
theorem laidOut : laidOutB Tryz.prog = true := by kernel_rfl
/-- The door's own heap meets the condition: closed facts. -/
theorem door_met (os : Os) (args : Array Value) : laidMetH Tryz.prog laids ((World.doorLaid Tryz.prog 400 os).forCall (fun _ _ => 0) ⟨#[], args, []⟩).memory :=
  laidMetH_of_parts3 (fuel := 8) (laidMet_of_run' 8 (by kernel_rfl) (by kernel_rfl)) (by kernel_rfl) (by kernel_rfl)

set_option maxRecDepth 100000 in
theorem lifted (os : Os) (started : os.Started) (H : Type) (enc : TypeId × Value → H) :
    ReturnsInHanded {} Tryz.checked os 3 .any (fun w args => (Rows.coreUnderSpec.pre enc Tryz.prog Tryz.f3 [] false w args ∧ laidMetH Tryz.prog laids w) ∧ sizedMet enc Tryz.prog Tryz.f3 (OpenSpec.ofChange Rows.coreUnderSpec) false w args)
      (Rows.coreUnderSpec.post enc Tryz.prog Tryz.f3 false true false false) := by
  refine returnsInHanded_of_change_and (C := Tryz.checked) (X := fun w _ => laidMetH Tryz.prog laids w) (fun _ _ _ hh h => h.of_heap hh) own started (by kernel_rfl) Tryz.func3
    (ChangeSpec.witness_shaped (enc := enc) (C := Tryz.checked) (os := os) (X := fun w _ => laidMetH Tryz.prog laids w) false (World.doorLaid Tryz.prog 400 os) #[.slice none 0 0, .int .u8 0] 8 rfl (World.shaped_of_RefB (by kernel_rfl) (by kernel_rfl)) (by kernel_rfl) (by kernel_rfl) (by kernel_rfl) (door_met os _)) ?_
  intro W base args ds gs before hval0 hW _ _ hL _
  have hval : ∀ (j : Nat) t v, Tryz.f3.params[j]? = some t → args[j]? = some v → Value.okWide Tryz.prog W .any base t v := hval0
  have hW' := hW
  obtain ⟨p, q, hA0, hV, rfl, hfz, hnd⟩ := hW
  have hA : DataW.TrodAll enc Tryz.prog W 0 (fun _ => true) true Tryz.f3.params.toList args.toList ds p := hA0
  rw [Tryz.params3] at hA hval
  obtain ⟨v0, v1, d0, d1, p0, p1, rfl, rfl, rfl, h0, h1⟩ := trodAll_two hA
  obtain ⟨rfl, rfl⟩ := trodVars_none hV
  obtain ⟨a0, len0, cap0, rfl⟩ := okWide_slice Tryz.underlying22 (hval 0 22 v0 rfl rfl)
  have k0 := h0
  have lt0 : ∀ x ∈ p0, x.block < W.heap.size := by obtain ⟨m, hm⟩ := k0; exact DataW.trod_lt m _ _ _ hm
  obtain ⟨A0, hAct0⟩ : ∃ A, IsA5 W a0 len0 A := by
    obtain ⟨fuel, hf⟩ := h0
    exact open_acts5 (by simpa [Value.cells] using hf)
  obtain ⟨n1, rfl, rfl, rfl, wf1⟩ := open_int Tryz.underlying5 (hval 1 5 v1 rfl rfl) h1
  have hb1 : 0 ≤ n1 ∧ n1 < 256 := by
    have := bounds_u8 wf1
    omega
  obtain ⟨m1, rfl⟩ := Int.eq_ofNat_of_zero_le hb1.1
  clear hA0 hval0
  refine (coreUnder_any (env_of_laid hL) a0 len0 cap0 A0 hAct0 m1 (by omega)).mono fun e W' ⟨he, bel⟩ => ?_
  subst he
  exact ⟨_, rfl, _, _, _, [], _, [], hW', trodAll_mk1 (shut_bool Tryz.underlying4 _), trodAll_mk2 (Below.trod laidOut (by kernel_rfl) (of_decide_eq_true (by kernel_rfl)) k0 bel lt0) (shut_int Tryz.underlying5 wf1), rfl, bel.frame _, fun h => by cases h⟩

theorem over : Rows.coreUnderRow.holds Tryz.pinned (OpenSpec.ofChange Rows.coreUnderSpec) :=
  OpenClaim.holds_of_wide 3 Tryz.f3 rfl rfl rfl rfl rfl rfl rfl ⟨rfl, rfl, rfl, rfl, rfl⟩ rfl rfl rfl rfl rfl (by kernel_rfl) Tryz.func3 (by kernel_rfl)
    (of_decide_eq_true (by kernel_rfl)) (by unfold Func.isWrapper; first | (rw [if_pos (by decide +kernel)]; kernel_rfl) | (rw [if_neg (by decide +kernel)]; exact ⟨rfl, rfl⟩))
    (fun os started H enc _ => lifted os started H enc)

/-- THE ROW. -/
theorem proved : Rows.CoreUnderSaid := over
end Go.Proofs.YtcnbbenmlffgpaaGreatDoor.coreUnder
