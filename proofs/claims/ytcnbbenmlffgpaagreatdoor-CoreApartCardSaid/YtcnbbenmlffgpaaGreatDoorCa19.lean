/- CoreApart returns true at every input. No condition. Part of its proof. -/
import Derived.Test.YtcnbbenmlffgpaaGreatDoorCa18
import Derived.Deep.LoopGhost
import Derived.Deep.Cut
import Derived.Deep.CutRange
set_option linter.unusedVariables false
/- quartermasterref07.Same: are a row of handles and one of numbers the same? Conditions: the cells are read. -/
namespace Go.Proofs.YtcnbbenmlffgpaaGreatDoor
open Go.RowKit

/-- A slice holds these numbers. -/
def Reads (w : World) (a : Option Addr) (L : List Nat) : Prop := ∀ (j x : Nat), L[j]? = some x → ∃ g, a = some ⟨g, 0, none⟩ ∧ g < w.heap.size ∧ w.cell? ⟨g, j, none⟩ = some (.int .u32 (x : Int))
theorem Reads.below {w w' : World} {a : Option Addr} {L : List Nat} (h : Reads w a L) (hb : Below w.heap.size w w') : Reads w' a L := fun j x hj => by
  obtain ⟨g, h1, h2, h3⟩ := h j x hj
  exact ⟨g, h1, Nat.lt_of_lt_of_le h2 hb.size, (World.cell?_of_block (w := w) (hb.block g h2)).trans h3⟩
theorem Aside.reads {H : HL} {w : World} {a : Option Addr} {L : List Nat} (h : Aside H L a w) : Reads w a L := fun j x hj => by
  obtain ⟨g, h1, _, h3, h4⟩ := h j x hj
  exact ⟨g, h1, h3, h4⟩
set_option maxHeartbeats 1000000 in
theorem sameh_any (w : World) (a b : Option Addr) (ca cb : Nat) (xs ys : List Nat) (ha : Reads w a xs) (hb : Reads w b ys) (hl : xs.length ≤ 65536) (hl2 : ys.length ≤ 65536) :
    Calls Tryz.prog 38 #[.slice a xs.length ca, .slice b ys.length cb] w (Told w (.bool (decide (xs = ys)))) := by
  by_cases hlen : xs.length = ys.length
  · have HX := hidden ha
    have HY := hidden hb
    have HL : Hid (xs.length = ys.length) := hlen
    rw [← hlen]
    clear ha hb hlen hl2
    generalize hn : xs.length = n at hl
    have HN : Hid (xs.length = n) := hn
    clear hn
    go_enter Tryz.func38, Tryz.ntmps38
    go_wp2_with fail
    go_loopg [5] n (fun gk i wr => ∃ k : Nat, k + gk = n ∧ i = .int .i64 k ∧ (∀ j, j < k → xs[j]? = ys[j]?) ∧ Below w.heap.size w wr)
    case atStart => exact ⟨0, Nat.zero_add _, rfl, by intro j hj; omega, Below.refl _ _⟩
    case round =>
      obtain ⟨k, hk, rfl, hpre, hch⟩ := hrel
      have Hp : Hid (∀ j, j < k → xs[j]? = ys[j]?) := hpre
      clear hpre
      by_cases hlt : k < n
      · have ex : xs[k]? = some (xs[k]'(by rw [HN.out]; exact hlt)) := List.getElem?_eq_getElem _
        have ey : ys[k]? = some (ys[k]'(by rw [← HL.out, HN.out]; exact hlt)) := List.getElem?_eq_getElem _
        generalize xs[k]'(by rw [HN.out]; exact hlt) = x at ex
        generalize ys[k]'(by rw [← HL.out, HN.out]; exact hlt) = y at ey
        obtain ⟨g1, rfl, hg1, cx0⟩ := HX.out k x ex
        obtain ⟨g2, rfl, hg2, cy0⟩ := HY.out k y ey
        have cx := (World.cell?_of_block (w := w) (hch.block g1 hg1)).trans cx0
        have cy := (World.cell?_of_block (w := w) (hch.block g2 hg2)).trans cy0
        have Hxk := hidden ex
        have Hyk := hidden ey
        have hki : (k : Int) < (n : Int) := by omega
        have hn6 : (n : Int) ≤ 65536 := by omega
        clear ex ey cx0 cy0 hg1 hg2
        by_cases hxy : x = y
        · subst hxy
          have hb1 : (((x : Nat) : Int) != ((x : Nat) : Int)) = false := by simp
          go_wp2
          go_region
          all_goals go_wp2
          all_goals go_roundg (n - (k + 1))
          all_goals first
            | omega
            | (refine ⟨k + 1, by omega, by go_num, fun j hj => ?_, hch.drew⟩
               by_cases e : j = k
               · subst e; rw [Hxk.out, Hyk.out]
               · exact Hp.out j (by omega))
        · have hb1 : (((x : Nat) : Int) != ((y : Nat) : Int)) = true := by simp; omega
          have Hxy := hidden hxy
          clear hxy
          go_wp2
          go_region
          all_goals go_wp2
          all_goals go_ret
          all_goals
            have hne : ¬ (xs = ys) := by
              rintro rfl
              have := Hxk.out.symm.trans Hyk.out
              exact Hxy.out (Option.some.inj this)
            exact ⟨by simp [hne], hch.drew⟩
      · have heq : Hid (xs = ys) := by
          refine List.ext_getElem? fun j => ?_
          by_cases hj : j < k
          · exact Hp.out j hj
          · rw [List.getElem?_eq_none (by have := HN.out; omega), List.getElem?_eq_none (by have := HN.out; have := HL.out; omega)]
        go_wp2
        go_ret
        exact ⟨by simp [heq.out], hch⟩
  · have hne : ¬ (xs = ys) := fun e => hlen (by rw [e])
    have hb1 : ((xs.length : Int) != ys.length) = true := by simp; omega
    clear ha hb
    have HR : Hid (Told w (.bool (decide (xs = ys))) (.returned (.bool false)) w) := ⟨by simp [hne], Below.refl _ _⟩
    clear hlen hne
    generalize xs.length = n1 at *
    generalize ys.length = n2 at *
    go_enter Tryz.func38, Tryz.ntmps38
    go_wp2_with fail
    go_ret
    exact HR.out
/-! Which way a Make goes. -/
/-- All that a Make wants is there. -/
structure Able (S : CO) (f : Pl) (e : En Fa) (n : Nat) (lim : Int) (i : Nat) (p : Pl) : Prop where
  kind : f.kind = 1
  may : n = 8 ∨ 1 ≤ n ∧ n ≤ 5
  acc : find S.P.q.E f.own = some e
  cost : ((costK n : Nat) : Int) ≤ leftOf e
  page : S.P.d.ps.length < 2 ^ S.P.d.top
  place : Fst S.l i p
  lim : n = 1 → 0 ≤ lim ∧ lim ≤ leftOf e - 64 ∧ S.P.q.E.length < 32
theorem MakeR.able {S : CO} {fr : List Nat} {h : Nat} {n : Nat} {lim : Int} {w w' : World} {r : Ending} (m : MakeR S fr h (n : Int) lim w r w') {f : Pl} (hf : pget S.l 1 h = some f) {e : En Fa} {i : Nat} {p : Pl} (a : Able S f e n lim i p) :
    ∃ b x P' fr', r = two (nm i p) 0 ∧ MadeOk S fr f e n b lim x i p P' fr' ∧ Step S.hl (S.made f n b x i p P').hl w w' := by
  rcases m with ⟨h0, _⟩ | ⟨f', hf', hm⟩
  · rw [hf] at h0; cases h0
  · rw [hf] at hf'; cases hf'
    rcases hm with ⟨h0, _⟩ | ⟨_, hc, _⟩ | ⟨n', e', hn, _, _, _, he, hk⟩
    · exact absurd a.kind h0
    · exfalso
      have := a.may
      rcases hc with h1 | ⟨h1, h2⟩
      · apply h1; omega
      · have := a.lim (by omega); omega
    · have : n' = n := by omega
      subst this
      rw [a.acc] at he; cases he
      rcases hk with ⟨h0, _⟩ | ⟨_, h0, _⟩ | ⟨_, er, P', hc, _⟩ | ⟨i', p', b, x, P', fr', h1, h2, h3, _, rfl, hm, st⟩
      · have := a.cost; omega
      · have := h0.len; have := a.page; omega
      · exfalso
        obtain ⟨p1, p2, p3⟩ := a.place
        rcases hc with ⟨_, h1 | ⟨h1, h2⟩⟩ | ⟨_, h1, h2⟩
        · exact h1 p (List.mem_of_getElem? p1) p2
        · have := a.lim h1; omega
        · have := a.lim h1; omega
      · obtain ⟨p1, p2, p3⟩ := a.place
        have hi : i' = i := by
          rcases Nat.lt_trichotomy i' i with h | h | h
          · exact absurd h2 (p3 i' p' h h1)
          · exact h
          · exact absurd p2 (h3 i p h p1)
        subst hi
        rw [p1] at h1; cases h1
        exact ⟨b, x, P', fr', rfl, hm, st⟩
/-- The account has too little left. -/
theorem MakeR.low {S : CO} {fr : List Nat} {h : Nat} {n : Nat} {lim : Int} {w w' : World} {r : Ending} (m : MakeR S fr h (n : Int) lim w r w') {f : Pl} (hf : pget S.l 1 h = some f) (hk : f.kind = 1) (hn : n = 8 ∨ 1 ≤ n ∧ n ≤ 5) (hl : n = 1 → 0 ≤ lim) {e : En Fa} (he : find S.P.q.E f.own = some e) (hc : leftOf e < ((costK n : Nat) : Int)) :
    r = two 0 5 ∧ Step S.hl S.hl w w' := by
  rcases m with ⟨h0, _⟩ | ⟨f', hf', hm⟩
  · rw [hf] at h0; cases h0
  · rw [hf] at hf'; cases hf'
    rcases hm with ⟨h0, _⟩ | ⟨_, hc, _⟩ | ⟨n', e', hn', _, _, _, he', hk⟩
    · exact absurd hk h0
    · exfalso
      rcases hc with h1 | ⟨h1, h2⟩
      · apply h1; omega
      · have := hl (by omega); omega
    · have : n' = n := by omega
      subst this
      rw [he] at he'; cases he'
      rcases hk with ⟨_, rfl, st⟩ | ⟨h0, _⟩ | ⟨h0, _⟩ | ⟨i', p', b, x, P', fr', h1, h2, h3, h0, _⟩
      · exact ⟨rfl, st⟩
      · omega
      · omega
      · omega
end Go.Proofs.YtcnbbenmlffgpaaGreatDoor

/- A core of which nothing is left but the first factory. No condition. -/
namespace Go.Proofs.YtcnbbenmlffgpaaGreatDoor
open Go.RowKit

theorem fmp_alone {β : Type} (f : Pl → Option β) {l : List Pl} {r : Pl} (h0 : l[0]? = some r) (h : ∀ (i : Nat) (p : Pl), l[i]? = some p → i ≠ 0 → f p = none) : l.filterMap f = (f r).toList := by
  cases l with
  | nil => simp at h0
  | cons x t =>
    have : x = r := by simpa using h0
    subst this
    have ht : t.filterMap f = [] := by
      rw [List.filterMap_eq_nil_iff]
      intro p hp
      obtain ⟨i, hi⟩ := List.mem_iff_getElem?.1 hp
      exact h (i + 1) p (by rw [List.getElem?_cons_succ]; exact hi) (by omega)
    cases hf : f x with
    | none => rw [List.filterMap_cons_none hf, ht]; rfl
    | some b => rw [List.filterMap_cons_some hf, ht]; rfl
theorem sum_alone {l : List Pl} {r : Pl} (f : Pl → Int) (h0 : l[0]? = some r) (h : ∀ (i : Nat) (p : Pl), l[i]? = some p → i ≠ 0 → f p = 0) : (l.map f).sum = f r := by
  cases l with
  | nil => simp at h0
  | cons x t =>
    have : x = r := by simpa using h0
    subst this
    have ht : (t.map f).sum = 0 := by
      have : ∀ p ∈ t, f p = 0 := fun p hp => by
        obtain ⟨i, hi⟩ := List.mem_iff_getElem?.1 hp
        exact h (i + 1) p (by rw [List.getElem?_cons_succ]; exact hi) (by omega)
      clear h h0
      induction t with
      | nil => rfl
      | cons y s ih =>
        rw [List.map_cons, List.sum_cons, this y (by simp), ih fun p hp => this p (by simp [hp])]; rfl
    rw [List.map_cons, List.sum_cons, ht]; omega
/-- Nothing is there but the first factory. -/
structure Alone (S : CO) (r : Pl) : Prop where
  root : S.l[0]? = some r
  kind : r.kind = 1
  acc : ∃ e, S.P.q.E = [e] ∧ e.id = 0 ∧ e.q.charged = 64 ∧ e.q.given = 0 ∧ e.q.kids = 0
  live : allL S.l 1 = [0]
  zombies : allL S.l 2 = []
  used : ∀ k, 1 ≤ k → k ≤ 5 → S.P.usedOf k = if k = 1 then [r.at_] else []
theorem CO.Ok.alone {S : CO} {fr : List Nat} {N K : Nat} (ok : S.Ok fr N K) (h1 : ∀ x p, pget S.l 1 x = some p → x = 0) (h2 : S.ts = []) : ∃ r, Alone S r ∧ fr = [] := by
  obtain ⟨r, r1, r2, r3, r4, r5, r6⟩ := ok.inv.que.root
  have hlen := ok.inv.len
  have hl : S.l.length ≤ 256 := by rw [hlen]; exact Nat.le_refl _
  have hno : ∀ (i : Nat) (p : Pl), S.l[i]? = some p → i ≠ 0 → p.is = false := fun i p hp hi => by
    have hi256 : i < 256 := by have := (List.getElem?_eq_some_iff.1 hp).1; omega
    cases his : p.is with
    | false => rfl
    | true =>
      exfalso
      rcases Pl.is_iff.1 his with hs | hs
      · have := h1 (nm i p) p (pget_some.2 ⟨by rw [nm_mod hi256]; exact hp, by rw [nm_mod hi256], hs⟩)
        unfold nm at this; omega
      · have := (ok.inv.que.has (nm i p)).2 ⟨p, pget_some.2 ⟨by rw [nm_mod hi256]; exact hp, by rw [nm_mod hi256], hs⟩⟩
        rw [h2] at this; cases this
  have his : r.is = true := Pl.is_iff.2 (.inl r4)
  have hats : ∀ k, atsOf S.l k = (atsF k r).toList := fun k => fmp_alone (atsF k) r1 fun i p hp hi => atsF_none k (hno i p hp hi)
  have hown : ownsOf S.l = [0] := by
    have := fmp_alone ownF r1 fun i p hp hi => by simp [ownF, hno i p hp hi]
    rw [ownF_some his r2, r6] at this
    exact this
  have hused : ∀ k, 1 ≤ k → k ≤ 5 → S.P.usedOf k = if k = 1 then [r.at_] else [] := fun k k1 k5 => by
    have h := ok.inv.mem.ats k k1 k5
    rw [hats] at h
    by_cases e : k = 1
    · subst e
      have : atsF 1 r = some r.at_ := by rw [← r2]; exact atsF_some his
      rw [this] at h
      rw [if_pos rfl]
      exact (List.singleton_perm.1 h).symm
    · rw [atsF_ne (by rw [r2]; exact fun h => e h.symm)] at h
      rw [if_neg e]
      exact List.nil_perm.1 h
  have hfr : fr = [] := by
    have h := ok.inv.mem.frs
    rw [hats, atsF_ne (by rw [r2]; decide)] at h
    exact List.map_eq_nil_iff.1 (List.nil_perm.1 h)
  have hE : ∃ e, S.P.q.E = [e] ∧ e.id = 0 := by
    have h := ok.inv.tre.ids
    rw [hown] at h
    have hmap : S.P.q.E.map En.id = [0] := List.perm_singleton.1 h
    cases hc : S.P.q.E with
    | nil => rw [hc] at hmap; cases hmap
    | cons e t =>
      rw [hc] at hmap
      simp only [List.map_cons, List.cons.injEq, List.map_eq_nil_iff] at hmap
      exact ⟨e, by rw [hmap.2], hmap.1⟩
  obtain ⟨e, hE, he0⟩ := hE
  have hfe : find S.P.q.E 0 = some e := by rw [hE]; simp [find, he0]
  have hcs : costSum S.l 0 = 64 := by
    have := sum_alone (costP 0) r1 fun i p hp hi => costP_none 0 (hno i p hp hi)
    unfold costSum
    rw [this, costP_some 0 his, r3, r2]
    rfl
  have hpar : e.q.parent = -1 := by
    have := (ok.inv.tre.par r (List.mem_of_getElem? r1) his r2 e (by rw [r6]; exact hfe)).1 r6
    exact this
  have hgs := givSum_zero (E := S.P.q.E) (a := 0) fun x hx => by
    rw [hE, List.mem_singleton] at hx
    rw [hx, hpar]; decide
  have hch := ok.inv.tre.charged 0 e hfe
  have hgv := ok.inv.tre.given 0 e hfe
  refine ⟨r, ⟨r1, r2, ⟨e, hE, he0, by rw [hch, hcs]; rfl, by rw [hgv.1]; exact hgs.1, by rw [hgv.2]; exact hgs.2⟩, ?_, ?_, hused⟩, hfr⟩
  · have hs := all_sorted hl 1
    have h0 : 0 ∈ allL S.l 1 := (mem_all hl).2 ⟨r, pget_some.2 ⟨r1, by simp [nm, r5], r4⟩⟩
    have hall : ∀ x ∈ allL S.l 1, x = 0 := fun x hx => by
      obtain ⟨p, hp⟩ := (mem_all hl).1 hx
      exact h1 x p hp
    cases hc : allL S.l 1 with
    | nil => rw [hc] at h0; cases h0
    | cons x t =>
      rw [hc] at hs hall
      have hx := hall x (by simp)
      cases t with
      | nil => rw [hx]
      | cons y u =>
        have hy := hall y (by simp)
        have := (List.pairwise_cons.1 hs).1 y (by simp)
        rw [hx, hy] at this; omega
  · have hall : ∀ x, x ∉ allL S.l 2 := fun x hx => by
      have := (ok.inv.que.has x).2 ((mem_all hl).1 hx)
      rw [h2] at this; cases this
    exact List.eq_nil_iff_forall_not_mem.2 hall
end Go.Proofs.YtcnbbenmlffgpaaGreatDoor

/- The core's example, as the law's package has it: what its calls come to, one behind the other. Conditions: the blocks hold what CO.hl says. -/
namespace Go.Proofs.YtcnbbenmlffgpaaGreatDoor
open Go.RowKit

def la1 (a : Nat) : List Pl := (newL 64).set 1 ⟨1, a, 0, 1, 0, 1⟩
def la2 (a b x : Nat) : List Pl := (la1 a).set 2 ⟨2, b, 1, 1, 0, x⟩
def la3 (a b x : Nat) : List Pl := (la2 a b x).set 2 ⟨2, b, 1, 2, 0, x⟩
def la4 (a b x : Nat) : List Pl := (la3 a b x).set 1 ⟨1, a, 0, 2, 0, 1⟩
def AC1 (S : CO) : Prop := ∃ a b, S.l = la1 a ∧ S.ts = [] ∧ S.now = 0 ∧ S.period = 2 ∧ S.P.d.top = 6 ∧ S.P.d.ps.length ≤ 2 ∧ find S.P.q.E 1 = some ⟨1, b, ⟨1000, 0, 0, 0, 0⟩⟩
def AC2 (S : CO) : Prop := ∃ a b x d, S.l = la2 a b x ∧ S.ts = [] ∧ S.now = 0 ∧ S.period = 2 ∧ find S.P.q.E 1 = some ⟨1, d, ⟨1000, 128, 0, 0, 0⟩⟩
def AC3 (S : CO) : Prop := ∃ a b x, S.l = la3 a b x ∧ S.ts = [(2, 2)] ∧ S.now = 0 ∧ S.period = 2
def AC4 (S : CO) : Prop := ∃ a b x, S.l = la4 a b x ∧ S.ts = [(2, 2), (1, 2)] ∧ S.now = 0 ∧ S.period = 2
def AC5 (S : CO) : Prop := (∀ x, x ≠ 0 → pget S.l 1 x = none) ∧ S.ts = [(2, 2), (1, 2)] ∧ S.now = 1
def AC6 (S : CO) : Prop := (∀ x, x ≠ 0 → pget S.l 1 x = none) ∧ S.ts = []
/-- The example's core, some way on; rows of handles beside it. -/
def AQ (c : Nat) (C : CO → Prop) (N K : Nat) (L1 : List Nat) (u1 : Option Addr) (L2 : List Nat) (u2 : Option Addr) (w0 wr : World) : Prop := ∃ S fr, S.c = c ∧ S.Ok fr N K ∧ C S ∧ Step [] S.hl w0 wr ∧ Aside S.hl L1 u1 wr ∧ Aside S.hl L2 u2 wr
theorem AQ.grown {c : Nat} {C : CO → Prop} {N K : Nat} {L1 L2 : List Nat} {u1 u2 : Option Addr} {w0 wr wr' : World} (h : AQ c C N K L1 u1 L2 u2 w0 wr) (hb : Below wr.heap.size wr wr') : AQ c C N K L1 u1 L2 u2 w0 wr' := by
  obtain ⟨S, fr, e, ok, hc, st, a1, a2⟩ := h
  exact ⟨S, fr, e, ok, hc, st.trans (st.sep.grown hb), a1.grown hb, a2.grown hb⟩
theorem aside_nil (H : HL) (w : World) : Aside H [] none w := fun j x h => by simp at h
theorem la1_get (a : Nat) : pget (la1 a) 1 1 = some ⟨1, a, 0, 1, 0, 1⟩ := by kernel_rfl
theorem la2_get (a b x : Nat) : pget (la2 a b x) 1 1 = some ⟨1, a, 0, 1, 0, 1⟩ ∧ pget (la2 a b x) 1 2 = some ⟨2, b, 1, 1, 0, x⟩ ∧ pget (la2 a b x) 1 0 = some ⟨1, 64, 0, 1, 0, 0⟩ := ⟨by kernel_rfl, by kernel_rfl, by kernel_rfl⟩
theorem la2_kids (a b x : Nat) : kids (la2 a b x) 0 = [1] ∧ kids (la2 a b x) 1 = [2] ∧ kids (la2 a b x) 2 = [] := ⟨by kernel_rfl, by kernel_rfl, by kernel_rfl⟩
theorem la3_get (a b x : Nat) : pget (la3 a b x) 1 1 = some ⟨1, a, 0, 1, 0, 1⟩ := by kernel_rfl
theorem la3_kids (a b x : Nat) : kids (la3 a b x) 1 = [] := by kernel_rfl
theorem under_la2 {a b x N : Nat} (t : Tre (la2 a b x) N) : under (la2 a b x) N 0 = [2, 1] := by
  obtain ⟨h0, h1, h2⟩ := la2_kids a b x
  have e := under_eq t 0
  have e1 := pre_eq t 1
  have e2 := pre_eq t 2
  rw [h0] at e
  rw [h1] at e1
  rw [h2] at e2
  have : (under (la2 a b x) N 0).reverse = [1, 2] := by
    rw [e]
    show pre (la2 a b x) N 1 ++ [] = _
    rw [e1]
    show 1 :: (pre (la2 a b x) N 2 ++ []) ++ [] = _
    rw [e2]; rfl
  rw [← List.reverse_reverse (under (la2 a b x) N 0), this]; rfl
theorem la4_all (a b x : Nat) : allL (la4 a b x) 1 = [0] := by kernel_rfl
theorem fst_at {l : List Pl} {i : Nat} {p : Pl} (h : l[i]? = some p) (hp : p.st = 0) (ha : ∀ j, j < i → ∃ q, l[j]? = some q ∧ q.st ≠ 0) : Fst l i p := ⟨h, hp, fun j q hj hq => by
  obtain ⟨q', e1, e2⟩ := ha j hj
  rw [hq] at e1; cases e1; exact e2⟩
theorem al_make1 {c : Nat} {w0 wr : World} {S : CO} (ec : S.c = c) (hf : FreshO S 6 5000 2) (st : Step [] S.hl w0 wr) :
    Calls Tryz.prog 21 #[.pointer (some ⟨c, 0, none⟩), .int .u32 0, .int .i64 1, .int .i64 1000] wr fun r w' => r = .returned (.tuple #[.int .u32 1, .int .i64 0]) ∧ AQ c AC1 2 0 [] none [] none w0 w' := by
  obtain ⟨b, hq⟩ := hf.q
  have hfe : find S.P.q.E 0 = some ⟨0, b, ⟨5000, 64, 0, -1, 0⟩⟩ := by rw [hq]; rfl
  have := cmake_any st.sep hf.ok (by omega) (x := 0) (by omega) ((1 : Nat) : Int) 1000
  rw [ec] at this
  refine this.mono ?_
  intro r w' hr
  obtain ⟨a, x, P', fr', rfl, hm, st2⟩ := hr.able (f := ⟨1, 64, 0, 1, 0, 0⟩) (by rw [hf.l]; rfl) (e := ⟨0, b, ⟨5000, 64, 0, -1, 0⟩⟩) (i := 1) (p := noPl 0) ⟨rfl, by omega, hfe, (by decide : (64 : Int) ≤ 5000 - (64 + 0)), by rw [hf.ps, hf.top]; decide, by
    rw [hf.l]
    exact fst_at rfl rfl fun j hj => ⟨⟨1, 64, 0, 1, 0, 0⟩, by rw [show j = 0 by omega]; rfl, by decide⟩, fun _ => ⟨by decide, (by decide : (1000 : Int) ≤ 5000 - (64 + 0) - 64), by rw [hq]; exact (by decide : 1 < 32)⟩⟩
  have hi : S.l[1]? = some (noPl 0) := by rw [hf.l]; rfl
  obtain ⟨f1, f2, b', f3⟩ := hm.fac1 rfl
  rw [hf.next] at f1 f2
  have hx : x = 1 := by omega
  subst hx
  refine ⟨rfl, _, fr', ?_, hm.ok hf.ok hi, ⟨a, b', ?_, hf.ts, hf.now, hf.period, ?_, ?_, ?_⟩, st.trans st2, aside_nil _ _, aside_nil _ _⟩
  · exact ec
  · show S.l.set 1 _ = _; rw [hf.l]; rfl
  · show P'.d.top = 6; rw [hm.same.top, hf.top]
  · have := hm.few; rw [hf.ps] at this; exact this
  · show find P'.q.E 1 = _
    rw [f3, hq]; rfl
theorem al_make2 {c : Nat} {w0 wr : World} (h : AQ c AC1 2 0 [] none [] none w0 wr) :
    Calls Tryz.prog 21 #[.pointer (some ⟨c, 0, none⟩), .int .u32 1, .int .i64 2, .int .i64 0] wr fun r w' => r = .returned (.tuple #[.int .u32 2, .int .i64 0]) ∧ AQ c AC2 3 0 [] none [] none w0 w' := by
  obtain ⟨S, fr, ec, ok, ⟨a, b, hl, hts, hnow, hper, htop, hps, hfe⟩, st, _, _⟩ := h
  have := cmake_any st.sep ok (by omega) (x := 1) (by omega) ((2 : Nat) : Int) 0
  rw [ec] at this
  refine this.mono ?_
  intro r w' hr
  have hi : S.l[2]? = some (noPl 0) := by rw [hl]; rfl
  obtain ⟨a2, x, P', fr', rfl, hm, st2⟩ := hr.able (f := ⟨1, a, 0, 1, 0, 1⟩) (by rw [hl]; exact la1_get a) (e := ⟨1, b, ⟨1000, 0, 0, 0, 0⟩⟩) (i := 2) (p := noPl 0) ⟨rfl, by omega, hfe, (by decide : (128 : Int) ≤ 1000 - (0 + 0)), by rw [htop]; omega, by
    rw [hl]
    refine fst_at rfl rfl fun j hj => ?_
    have : j = 0 ∨ j = 1 := by omega
    rcases this with rfl | rfl
    · exact ⟨⟨1, 64, 0, 1, 0, 0⟩, rfl, by decide⟩
    · exact ⟨⟨1, a, 0, 1, 0, 1⟩, rfl, (by decide : (1 : Nat) ≠ 0)⟩, fun h => by omega⟩
  have f3 := hm.fac (by decide)
  refine ⟨rfl, _, fr', ?_, hm.ok ok hi, ⟨a, a2, x, b, ?_, hts, hnow, hper, ?_⟩, st.trans st2, aside_nil _ _, aside_nil _ _⟩
  · exact ec
  · show S.l.set 2 _ = _; rw [hl]; rfl
  · show find P'.q.E 1 = _
    rw [f3]
    exact find_upd_same hfe _
theorem al_make3 {c : Nat} {w0 wr : World} (h : AQ c AC2 3 0 [] none [] none w0 wr) :
    Calls Tryz.prog 21 #[.pointer (some ⟨c, 0, none⟩), .int .u32 1, .int .i64 8, .int .i64 0] wr fun r w' => r = .returned (.tuple #[.int .u32 0, .int .i64 5]) ∧ AQ c AC2 3 0 [] none [] none w0 w' := by
  obtain ⟨S, fr, ec, ok, hC, st, _, _⟩ := h
  obtain ⟨a, b, x, d, hl, hts, hnow, hper, hfe⟩ := hC
  have := cmake_any st.sep ok (by omega) (x := 1) (by omega) ((8 : Nat) : Int) 0
  rw [ec] at this
  refine this.mono ?_
  intro r w' hr
  obtain ⟨rfl, st2⟩ := hr.low (f := ⟨1, a, 0, 1, 0, 1⟩) (by rw [hl]; exact (la2_get a b x).1) rfl (by omega) (fun h => by omega) (e := ⟨1, d, ⟨1000, 128, 0, 0, 0⟩⟩) hfe (by decide : (1000 : Int) - (128 + 0) < 1024)
  exact ⟨rfl, S, fr, ec, ok, ⟨a, b, x, d, hl, hts, hnow, hper, hfe⟩, st.trans st2, aside_nil _ _, aside_nil _ _⟩
theorem al_own {c : Nat} {w0 wr : World} (h : AQ c AC2 3 0 [] none [] none w0 wr) :
    Calls Tryz.prog 16 #[.pointer (some ⟨c, 0, none⟩), .int .u32 1] wr fun r w' => r = .returned (.tuple #[.int .i64 1, .int .i64 0]) ∧ AQ c AC2 3 0 [] none [] none w0 w' := by
  have h' := h
  obtain ⟨S, fr, ec, ok, ⟨a, b, x, d, hl, hts, hnow, hper, hfe⟩, st, _, _⟩ := h
  have := cown_some st.sep ok (x := 1) (by omega) (p := ⟨1, a, 0, 1, 0, 1⟩) (by rw [hl]; exact (la2_get a b x).1) rfl
  rw [ec] at this
  refine this.mono ?_
  rintro r w' ⟨rfl, hb⟩
  exact ⟨rfl, h'.grown hb⟩
theorem al_under {c : Nat} {w0 wr : World} (h : AQ c AC2 3 0 [] none [] none w0 wr) :
    Calls Tryz.prog 17 #[.pointer (some ⟨c, 0, none⟩), .int .u32 0] wr fun r w' => ∃ u cap, r = .returned (.slice u 2 cap) ∧ AQ c AC2 3 0 [2, 1] u [] none w0 w' := by
  obtain ⟨S, fr, ec, ok, hC, st, _, _⟩ := h
  obtain ⟨a, b, x, d, hl, hts, hnow, hper, hfe⟩ := hC
  have := cunder_any st.sep ok (x := 0) (by omega)
  rw [ec] at this
  refine this.mono ?_
  intro r w' hr
  have t := ok.inv.tree
  have e : under S.l S.P.q.next.toNat 0 = [2, 1] := by
    rw [hl] at t ⊢; exact under_la2 t
  rw [e] at hr
  obtain ⟨u, cap, rfl, hb, hsd⟩ := hr.aside st.sep
  exact ⟨u, cap, rfl, S, fr, ec, ok, ⟨a, b, x, d, hl, hts, hnow, hper, hfe⟩, st.trans (st.sep.grown hb), hsd, aside_nil _ _⟩
theorem al_doomk {c : Nat} {u : Option Addr} {w0 wr : World} (h : AQ c AC2 3 0 [2, 1] u [] none w0 wr) :
    Calls Tryz.prog 19 #[.pointer (some ⟨c, 0, none⟩), .int .u32 1] wr fun r w' => r = .returned (.int .i64 12) ∧ AQ c AC2 3 0 [2, 1] u [] none w0 w' := by
  obtain ⟨S, fr, ec, ok, hC, st, a1, a2⟩ := h
  obtain ⟨a, b, x, d, hl, hts, hnow, hper, hfe⟩ := hC
  have := cdoom_any st.sep ok (by omega) (x := 1) (by omega)
  rw [ec] at this
  refine this.mono ?_
  rintro r w' (⟨h0, _⟩ | ⟨_, h0, _⟩ | ⟨_, _, _, rfl, st2⟩ | ⟨p, rv, _, _, h0, _⟩)
  · rw [hl, (la2_get a b x).1] at h0; cases h0
  · cases h0
  · exact ⟨rfl, S, fr, ec, ok, ⟨a, b, x, d, hl, hts, hnow, hper, hfe⟩, st.trans st2, a1.step st2, a2.step st2⟩
  · rw [hl, (la2_kids a b x).2.1] at h0; cases h0
theorem al_doom2 {c : Nat} {u : Option Addr} {w0 wr : World} (h : AQ c AC2 3 0 [2, 1] u [] none w0 wr) :
    Calls Tryz.prog 19 #[.pointer (some ⟨c, 0, none⟩), .int .u32 2] wr fun r w' => r = .returned (.int .i64 0) ∧ AQ c AC3 3 0 [2, 1] u [] none w0 w' := by
  obtain ⟨S, fr, ec, ok, ⟨a, b, x, d, hl, hts, hnow, hper, hfe⟩, st, a1, a2⟩ := h
  have := cdoom_any st.sep ok (by omega) (x := 2) (by omega)
  rw [ec] at this
  refine this.mono ?_
  rintro r w' (⟨h0, _⟩ | ⟨_, h0, _⟩ | ⟨_, _, h0, _⟩ | ⟨p, rv, hp, h0, hk, hov, rfl, st2⟩)
  · rw [hl, (la2_get a b x).2.1] at h0; cases h0
  · cases h0
  · rw [hl, (la2_kids a b x).2.2] at h0; exact absurd rfl h0
  · have ok2 := ok.doomed hp h0 hk hov
    rw [hl, (la2_get a b x).2.1] at hp; cases hp
    refine ⟨rfl, _, fr, ?_, ok2, ⟨a, b, x, ?_, ?_, hnow, hper⟩, st.trans st2, a1.step st2, a2.step st2⟩
    · exact ec
    · show S.l.set 2 _ = _; rw [hl]; rfl
    · show S.ts ++ [(2, S.now + S.period)] = _; rw [hts, hnow, hper]; rfl
theorem al_doom1 {c : Nat} {u : Option Addr} {w0 wr : World} (h : AQ c AC3 3 0 [2, 1] u [] none w0 wr) :
    Calls Tryz.prog 19 #[.pointer (some ⟨c, 0, none⟩), .int .u32 1] wr fun r w' => r = .returned (.int .i64 0) ∧ AQ c AC4 3 0 [2, 1] u [] none w0 w' := by
  obtain ⟨S, fr, ec, ok, ⟨a, b, x, hl, hts, hnow, hper⟩, st, a1, a2⟩ := h
  have := cdoom_any st.sep ok (by omega) (x := 1) (by omega)
  rw [ec] at this
  refine this.mono ?_
  rintro r w' (⟨h0, _⟩ | ⟨_, h0, _⟩ | ⟨_, _, h0, _⟩ | ⟨p, rv, hp, h0, hk, hov, rfl, st2⟩)
  · rw [hl, la3_get a b x] at h0; cases h0
  · cases h0
  · rw [hl, la3_kids a b x] at h0; exact absurd rfl h0
  · have ok2 := ok.doomed hp h0 hk hov
    rw [hl, la3_get a b x] at hp; cases hp
    refine ⟨rfl, _, fr, ?_, ok2, ⟨a, b, x, ?_, ?_, hnow, hper⟩, st.trans st2, a1.step st2, a2.step st2⟩
    · exact ec
    · show S.l.set 1 _ = _; rw [hl]; rfl
    · show S.ts ++ [(1, S.now + S.period)] = _; rw [hts, hnow, hper]; rfl
theorem al_left {c : Nat} {u : Option Addr} {w0 wr : World} (h : AQ c AC4 3 0 [2, 1] u [] none w0 wr) :
    Calls Tryz.prog 23 #[.pointer (some ⟨c, 0, none⟩), .int .u32 2] wr fun r w' => r = .returned (.int .i64 2) ∧ AQ c AC4 3 0 [2, 1] u [] none w0 w' := by
  have h' := h
  obtain ⟨S, fr, ec, ok, ⟨a, b, x, hl, hts, hnow, hper⟩, st, a1, a2⟩ := h
  have := cleft_any st.sep ok (by omega) (x := 2) (by omega)
  rw [ec, hts, hnow] at this
  refine this.mono ?_
  rintro r w' ⟨rfl, hb⟩
  exact ⟨rfl, h'.grown hb⟩
/-- The row that a Tick answers lies beside the core. -/
theorem row_aside {w0 w : World} {H : HL} {v : Value} {L : List Nat} (h : w.ownsRow w0.heap.size 32 1 v L.length (hands L)) (hk : ∀ b ∈ keys H, v.ownBlock ≠ some b) : ∃ (a : Option Addr) (cap : Nat), v = .slice a L.length cap ∧ Aside H L a w := by
  rcases h.2 with ⟨rfl, h0⟩ | ⟨g, cap, cur, rfl, hg, hgb, hn, hm, hs, htk⟩
  · refine ⟨none, 0, by rw [h0], fun j x hj => ?_⟩
    have := (List.getElem?_eq_some_iff.1 hj).1
    omega
  · refine ⟨_, cap, rfl, fun j x hj => ⟨g, rfl, fun hm' => hk g hm' rfl, lt_of_block hgb, ?_⟩⟩
    have hv := hands_at hj
    rw [← htk, List.getElem?_take] at hv
    split at hv
    · simp only [World.cell?, hgb, Option.isSome_none, Bool.false_eq_true, if_false]
      rw [← Array.getElem?_toList]; exact hv
    · cases hv
theorem al_tick1 {c : Nat} {u : Option Addr} {w0 wr : World} (h : AQ c AC4 3 0 [2, 1] u [] none w0 wr) :
    Calls Tryz.prog 20 #[.pointer (some ⟨c, 0, none⟩)] wr fun r w' => ∃ v cap, r = .returned (.slice v 0 cap) ∧ AQ c AC5 3 1 [2, 1] u [] none w0 w' := by
  obtain ⟨S, fr, ec, ok, ⟨a, b, x, hl, hts, hnow, hper⟩, st, a1, a2⟩ := h
  have := ctick_any st.sep ok (by omega)
  rw [ec] at this
  refine this.mono ?_
  rintro r w' ⟨rv, S', fr', v, rfl, hrow, hov, htk, ok', st2, hoff⟩
  have eN : dueN S = [] := by unfold dueN; rw [hts, hnow]; rfl
  have eT : dueT S = [(2, 2), (1, 2)] := by unfold dueT; rw [hts, hnow]; rfl
  rw [eN] at hrow htk
  obtain ⟨va, cap, rfl, _⟩ := row_aside (L := []) hrow hoff
  refine ⟨va, cap, rfl, S', fr', htk.c.trans ec, ok', ⟨fun y hy => ?_, ?_, ?_⟩, st.trans st2, a1.step st2, a2.step st2⟩
  · rw [htk.live]
    show pget S.l 1 y = none
    cases hp : pget S.l 1 y with
    | none => rfl
    | some p =>
      exfalso
      have hm := (mem_all (by rw [ok.inv.lok.1]; exact Nat.le_refl _)).2 ⟨p, hp⟩
      rw [hl, la4_all] at hm
      exact hy (by simpa using hm)
  · rw [htk.ts]; exact eT
  · rw [htk.now]; show S.now + 1 = 1; rw [hnow]
theorem al_tick2 {c : Nat} {u : Option Addr} {w0 wr : World} (h : AQ c AC5 3 1 [2, 1] u [] none w0 wr) :
    Calls Tryz.prog 20 #[.pointer (some ⟨c, 0, none⟩)] wr fun r w' => ∃ v cap, r = .returned (.slice v 2 cap) ∧ AQ c AC6 3 2 [2, 1] u [2, 1] v w0 w' := by
  obtain ⟨S, fr, ec, ok, ⟨hlv, hts, hnow⟩, st, a1, a2⟩ := h
  have := ctick_any st.sep ok (by omega)
  rw [ec] at this
  refine this.mono ?_
  rintro r w' ⟨rv, S', fr', v, rfl, hrow, hov, htk, ok', st2, hoff⟩
  have eN : dueN S = [2, 1] := by unfold dueN; rw [hts, hnow]; rfl
  have eT : dueT S = [] := by unfold dueT; rw [hts, hnow]; rfl
  rw [eN] at hrow htk
  obtain ⟨va, cap, rfl, hsd⟩ := row_aside (L := [2, 1]) hrow hoff
  refine ⟨va, cap, rfl, S', fr', htk.c.trans ec, ok', ⟨fun y hy => ?_, ?_⟩, st.trans st2, a1.step st2, hsd⟩
  · rw [htk.live]; exact hlv y hy
  · rw [htk.ts]; exact eT
theorem al_of {c : Nat} {u v : Option Addr} {w0 wr : World} (h : AQ c AC6 3 2 [2, 1] u [2, 1] v w0 wr) :
    Calls Tryz.prog 18 #[.pointer (some ⟨c, 0, none⟩), .int .u32 1, .int .i64 0] wr fun r w' => r = .returned (.tuple #[.agg #[.int .i64 0, .int .i64 0, .int .i64 0], .int .i64 8]) ∧ AQ c AC6 3 2 [2, 1] u [2, 1] v w0 w' := by
  have h' := h
  obtain ⟨S, fr, ec, ok, ⟨hlv, hts⟩, st, a1, a2⟩ := h
  have := cof_none st.sep ok.inv.lok (x := 1) (by omega) 0 (hlv 1 (by omega))
  rw [ec] at this
  refine this.mono ?_
  rintro r w' ⟨rfl, hb⟩
  exact ⟨rfl, h'.grown hb⟩
/-- Behind all: what is live, the use, and so on. -/
theorem al_end {c : Nat} {u v : Option Addr} {w0 wr : World} (h : AQ c AC6 3 2 [2, 1] u [2, 1] v w0 wr) :
    (Calls Tryz.prog 15 #[.pointer (some ⟨c, 0, none⟩)] wr fun r w' => (∃ a cap, r = .returned (.slice a 1 cap)) ∧ AQ c AC6 3 2 [2, 1] u [2, 1] v w0 w') ∧
    (Calls Tryz.prog 32 #[.pointer (some ⟨c, 0, none⟩)] wr fun r w' => (∃ a cap, r = .returned (.slice a 0 cap)) ∧ AQ c AC6 3 2 [2, 1] u [2, 1] v w0 w') ∧
    (Calls Tryz.prog 24 #[.pointer (some ⟨c, 0, none⟩)] wr fun r w' => ∃ p, r = .returned (.pointer (some ⟨p, 0, none⟩)) ∧ wr = w' ∧
      Calls Tryz.prog 26 #[.pointer (some ⟨p, 0, none⟩)] wr fun r w' => ∃ q, r = .returned (.pointer (some ⟨q, 0, none⟩)) ∧ wr = w' ∧
        Calls Tryz.prog 28 #[.pointer (some ⟨q, 0, none⟩), .int .i64 0] wr fun r w' => r = .returned (.int .i64 64) ∧ AQ c AC6 3 2 [2, 1] u [2, 1] v w0 w') ∧
    (Calls Tryz.prog 19 #[.pointer (some ⟨c, 0, none⟩), .int .u32 0] wr fun r w' => r = .returned (.int .i64 1) ∧ Below w0.heap.size w0 w') := by
  have h' := h
  obtain ⟨S, fr, ec, ok, ⟨hlv, hts⟩, st, a1, a2⟩ := h
  obtain ⟨r0, al, _⟩ := ok.alone (fun x p hp => by
    by_cases h0 : x = 0
    · exact h0
    · rw [hlv x h0] at hp; cases hp) hts
  obtain ⟨e, hE, he0, hch, hgv, _⟩ := al.acc
  have hfe : find S.P.q.E 0 = some e := by rw [hE]; simp [find, he0]
  refine ⟨?_, ?_, ?_, ?_⟩
  · have := clive_any st.sep ok.inv.lok
    rw [ec, al.live] at this
    refine this.mono ?_
    intro r w' hr
    obtain ⟨a, cap, rfl, hb, _⟩ := hr.shape
    exact ⟨⟨a, cap, rfl⟩, h'.grown hb⟩
  · have := czombies_any st.sep ok.inv.lok
    rw [ec, al.zombies] at this
    refine this.mono ?_
    intro r w' hr
    obtain ⟨a, cap, rfl, hb, _⟩ := hr.shape
    exact ⟨⟨a, cap, rfl⟩, h'.grown hb⟩
  · have := cmemory_any st.sep
    rw [ec] at this
    refine this.mono ?_
    rintro r w' ⟨rfl, rfl⟩
    refine ⟨_, rfl, rfl, ?_⟩
    refine (pquota_any (CO.sP st.sep)).mono ?_
    rintro r w' ⟨rfl, rfl⟩
    refine ⟨_, rfl, rfl, ?_⟩
    refine (quse_some (PL.sQ (CO.sP st.sep)) ok.inv.mem.pool.q hfe).mono ?_
    rintro r w' ⟨rfl, hb⟩
    exact ⟨by rw [hch, hgv]; rfl, h'.grown hb⟩
  · have := cdoom_any st.sep ok (by omega) (x := 0) (by omega)
    rw [ec] at this
    refine this.mono ?_
    rintro r w' (⟨h0, _⟩ | ⟨_, _, rfl, st2⟩ | ⟨_, h0, _⟩ | ⟨p, rv, _, h0, _⟩)
    · obtain ⟨r, r1, _, _, r4, r5, _⟩ := ok.inv.que.root
      rw [pget_some.2 ⟨r1, by simp [nm, r5], r4⟩] at h0; cases h0
    · exact ⟨rfl, (st.trans st2).fresh⟩
    · exact absurd rfl h0
    · exact absurd rfl h0
end Go.Proofs.YtcnbbenmlffgpaaGreatDoor

/- The walk of the core's example: it is true. Condition: the package-level variables lie. -/
namespace Go.Proofs.YtcnbbenmlffgpaaGreatDoor
open Go.RowKit

/-- Comparing a row with 2, 1, that was just built. -/
theorem al_same {w1 : World} {H : HL} {u : Option Addr} (hu : Aside H [2, 1] u w1) (ucap : Nat) : Calls Tryz.prog 38 #[.slice u 2 ucap, .slice (some ⟨w1.heap.size, 0, none⟩) 2 2] (w1.alloc (.cells #[.int .u32 2, .int .u32 1] 27)) fun r w' => r = .returned (.bool true) ∧ Below w1.heap.size w1 w' := by
  have hb : Below w1.heap.size w1 (w1.alloc (.cells #[.int .u32 2, .int .u32 1] 27)) := (Below.refl _ _).alloc (Nat.le_refl _) _
  have hc := Cells.new w1 27 [.int .u32 2, .int .u32 1]
  refine (sameh_any _ u (some ⟨w1.heap.size, 0, none⟩) ucap 2 [2, 1] [2, 1] (hu.reads.below hb) (fun j x hj => ⟨w1.heap.size, rfl, by simp, ?_⟩) (by decide) (by decide)).mono ?_
  · match j, hj with
    | 0, hj => cases hj; exact hc.cell 0 _ rfl
    | 1, hj => cases hj; exact hc.cell 1 _ rfl
    | k + 2, hj => simp at hj
  · rintro r w' ⟨rfl, hb2⟩
    exact ⟨by simp, hb.trans (hb2.mono (by simp))⟩
theorem AQ.same1 {c : Nat} {C : CO → Prop} {N K : Nat} {L2 : List Nat} {u u2 : Option Addr} {w0 wr : World} (h : AQ c C N K [2, 1] u L2 u2 w0 wr) (ucap : Nat) : Calls Tryz.prog 38 #[.slice u 2 ucap, .slice (some ⟨wr.heap.size, 0, none⟩) 2 2] (wr.alloc (.cells #[.int .u32 2, .int .u32 1] 27)) fun r w' => r = .returned (.bool true) ∧ AQ c C N K [2, 1] u L2 u2 w0 w' := by
  have h' := h
  obtain ⟨S, fr, ec, ok, hC, st, a1, a2⟩ := h
  exact (al_same a1 ucap).mono fun r w' ⟨e, hb⟩ => ⟨e, h'.grown hb⟩
theorem AQ.same2 {c : Nat} {C : CO → Prop} {N K : Nat} {L1 : List Nat} {u u2 : Option Addr} {w0 wr : World} (h : AQ c C N K L1 u [2, 1] u2 w0 wr) (ucap : Nat) : Calls Tryz.prog 38 #[.slice u2 2 ucap, .slice (some ⟨wr.heap.size, 0, none⟩) 2 2] (wr.alloc (.cells #[.int .u32 2, .int .u32 1] 27)) fun r w' => r = .returned (.bool true) ∧ AQ c C N K L1 u [2, 1] u2 w0 w' := by
  have h' := h
  obtain ⟨S, fr, ec, ok, hC, st, a1, a2⟩ := h
  exact (al_same a2 ucap).mono fun r w' ⟨e, hb⟩ => ⟨e, h'.grown hb⟩

set_option maxHeartbeats 8000000 in
set_option maxRecDepth 100000 in
theorem alive16_any {w : World} (h : Env w) : Calls Tryz.prog 12 #[] w (Told w (.bool true)) := by
  have h16 : ((2 ^ (6 + 10) : Nat) : Int) = 65536 := by decide
  have k1 := cnew_any (Sep.nil h) 6 (by omega) (by omega) 5000 (by omega) (by rw [h16]; omega) 2 (by omega) (by omega)
  rw [h16] at k1
  have HQ : Hid (∀ r w1, NewCO 6 5000 2 [] w r w1 → ∃ c, r = .returned (.pointer (some ⟨c, 0, none⟩)) ∧ Calls Tryz.prog 21 #[.pointer (some ⟨c, 0, none⟩), .int .u32 0, .int .i64 1, .int .i64 1000] w1 fun r w' => r = .returned (.tuple #[.int .u32 1, .int .i64 0]) ∧ AQ c AC1 2 0 [] none [] none w w') := by
    rintro r w1 ⟨S, rfl, hf, st⟩
    have st' : Step [] S.hl w w1 := by simpa using st
    exact ⟨S.c, rfl, al_make1 rfl hf st'⟩
  have HLow : Hid (∀ w1, Below w.heap.size w w1 → Calls Tryz.prog 13 #[.int .i64 65536, .int .i64 63, .int .i64 2] w1 fun r w' => r = .returned (.pointer none) ∧ Below w.heap.size w w') := fun w1 hb => by
    have := cnew_low (Sep.nil (h.below hb)) 6 (by omega) (by omega) 63 (by omega) (by omega) 2 (by omega) (by omega)
    rw [h16] at this
    refine this.mono ?_
    rintro r w' ⟨rfl, st⟩
    exact ⟨rfl, hb.trans (st.fresh.mono hb.size)⟩
  clear h h16
  go_enter Tryz.func12, Tryz.ntmps12
  go_wp2_with fail
  refine k1.mono ?_
  intro r w1 hx
  obtain ⟨c, rfl, hm⟩ := HQ.out _ _ hx
  have HM := hidden hm
  clear hx hm HQ k1
  go_wp2_with fail
  refine HM.out.mono ?_
  rintro r w2 ⟨rfl, hq⟩
  have H1 := hidden (al_make2 hq)
  clear hq HM
  go_wp2_with fail
  refine H1.out.mono ?_
  rintro r w3 ⟨rfl, hq⟩
  have H2 := hidden (al_make3 hq)
  clear hq H1
  go_wp2_with fail
  refine H2.out.mono ?_
  rintro r w4 ⟨rfl, hq⟩
  have H3 := hidden (al_own hq)
  clear hq H2
  go_wp2_with fail
  refine H3.out.mono ?_
  rintro r w5 ⟨rfl, hq⟩
  have H4 := hidden (al_under hq)
  clear hq H3
  go_wp2_with fail
  refine H4.out.mono ?_
  rintro r w6 ⟨u, ucap, rfl, hq⟩
  have H5 := hidden (al_doomk hq)
  clear hq H4
  go_wp2_with fail
  refine H5.out.mono ?_
  rintro r w7 ⟨rfl, hq⟩
  have H6 := hidden (al_doom2 hq)
  clear hq H5
  go_wp2_with fail
  refine H6.out.mono ?_
  rintro r w8 ⟨rfl, hq⟩
  have H7 := hidden (al_doom1 hq)
  clear hq H6
  go_wp2_with fail
  refine H7.out.mono ?_
  rintro r w9 ⟨rfl, hq⟩
  have H8 := hidden (al_left hq)
  clear hq H7
  go_wp2_with fail
  refine H8.out.mono ?_
  rintro r w10 ⟨rfl, hq⟩
  have H9 := hidden (al_tick1 hq)
  clear hq H8
  go_wp2_with fail
  refine H9.out.mono ?_
  rintro r w11 ⟨x1, xcap, rfl, hq⟩
  have H10 := hidden (al_tick2 hq)
  clear hq H9
  go_wp2_with fail
  refine H10.out.mono ?_
  rintro r w12 ⟨v, vcap, rfl, hq⟩
  have H11 := hidden (al_of hq)
  clear hq H10
  go_wp2_with fail
  refine H11.out.mono ?_
  rintro r w13 ⟨rfl, hq⟩
  have hq2 := hq.grown ((Below.refl _ _).alloc (Nat.le_refl _) (.cells #[.int .i64 0, .int .i64 0, .int .i64 0] 39))
  have hsz : (w13.alloc (.cells #[.int .i64 0, .int .i64 0, .int .i64 0] 39)).heap.size = w13.heap.size + 1 := by simp
  have hs1 := hq2.same1 ucap
  rw [hsz] at hs1
  have HS1 := hidden hs1
  clear hq hq2 hsz hs1 H11
  go_wp2_with fail
  refine HS1.out.mono ?_
  rintro r w14 ⟨rfl, hq⟩
  have HS2 := hidden (hq.same2 vcap)
  clear hq HS1
  go_wp2_with fail
  refine HS2.out.mono ?_
  rintro r w15 ⟨rfl, hq⟩
  have HE := hidden (al_end hq).1
  clear hq HS2
  go_wp2_with fail
  refine HE.out.mono ?_
  rintro r w16 ⟨⟨la, lcap, rfl⟩, hq⟩
  have HE2 := hidden (al_end hq).2.1
  clear hq HE
  go_wp2_with fail
  refine HE2.out.mono ?_
  rintro r w17 ⟨⟨za, zcap, rfl⟩, hq⟩
  have HE3 := hidden (al_end hq).2.2.1
  clear hq HE2
  go_wp2_with fail
  refine HE3.out.mono ?_
  rintro r w' ⟨pp, rfl, rfl, hx⟩
  have HE4 := hidden hx
  clear hx HE3
  go_wp2_with fail
  refine HE4.out.mono ?_
  rintro r w' ⟨qq, rfl, rfl, hx⟩
  have HE5 := hidden hx
  clear hx HE4
  go_wp2_with fail
  refine HE5.out.mono ?_
  rintro r w18 ⟨rfl, hq⟩
  have HE6 := hidden (al_end hq).2.2.2
  clear hq HE5
  go_wp2_with fail
  refine HE6.out.mono ?_
  rintro r w19 ⟨rfl, hb⟩
  have HL := hidden (HLow.out _ hb)
  clear hb HE6
  go_wp2_with fail
  refine HL.out.mono ?_
  rintro r w20 ⟨rfl, hb⟩
  have HR : Hid (Told w (.bool true) (.returned (.bool true)) w20) := ⟨rfl, hb⟩
  clear hb HL
  go_wp2_with fail
  first | exact HR.out | (go_ret; exact HR.out)
end Go.Proofs.YtcnbbenmlffgpaaGreatDoor

/- The walks of the law's ticks and play. Conditions: the blocks hold what CO.hl says. -/
namespace Go.Proofs.YtcnbbenmlffgpaaGreatDoor
open Go.RowKit

set_option maxHeartbeats 2000000 in
theorem ticks_any (w : World) (x : A5) (hx : x.Wf) : Calls Tryz.prog 57 #[.agg #[.int .i64 x.kind, .int .i64 x.n, .int .i64 x.k, .int .i64 x.m, .int .u32 x.h]] w (Told w (.int .i64 (ticksI x.n))) := by
  have HR : Hid (∀ o, Told w (.int .i64 (ticksI x.n)) (.returned (.int .i64 (ticksI x.n))) (w.alloc o)) := fun o => ⟨rfl, (Below.refl _ _).alloc (Nat.le_refl _) o⟩
  obtain ⟨hn1, hn2⟩ := hx.n
  have hb := Cells.new w 29 [.int .i64 x.kind, .int .i64 x.n, .int .i64 x.k, .int .i64 x.m, .int .u32 x.h]
  have b1 := hb.cell 1 _ rfl
  clear hb hx
  by_cases h0 : x.n < 0
  · have e : ticksI x.n = 1 := by unfold ticksI; rw [if_pos (.inl h0)]
    have hd : decide (x.n < 0) = true := by simpa using h0
    rw [e] at HR ⊢
    go_enter Tryz.func57, Tryz.ntmps57
    go_wp2_with fail
    first | exact HR.out _ | (go_ret; exact HR.out _)
  · by_cases h1 : 20 < x.n
    · have e : ticksI x.n = 1 := by unfold ticksI; rw [if_pos (.inr h1)]
      have hd : decide (x.n < 0) = false := by simpa using h0
      have hd2 : decide (20 < x.n) = true := by simpa using h1
      rw [e] at HR ⊢
      go_enter Tryz.func57, Tryz.ntmps57
      go_wp2_with fail
      first | exact HR.out _ | (go_ret; exact HR.out _)
    · have e : ticksI x.n = x.n := by unfold ticksI; rw [if_neg (by omega)]
      have hd : decide (x.n < 0) = false := by simpa using h0
      have hd2 : decide (20 < x.n) = false := by simpa using h1
      rw [e] at HR ⊢
      go_enter Tryz.func57, Tryz.ntmps57
      go_wp2_with fail
      first | exact HR.out _ | (go_ret; exact HR.out _)
set_option maxHeartbeats 8000000 in
set_option maxRecDepth 100000 in
theorem play_any {w : World} {S : CO} {fr : List Nat} {N K : Nat} (h : Sep w S.hl) (ok : S.Ok fr N K) (hN : N + 1 < 1048576) (hK : K + 20 < 1048575) (x : A5) (hx : x.Wf) :
    Calls Tryz.prog 14 #[.pointer (some ⟨S.c, 0, none⟩), .agg #[.int .i64 x.kind, .int .i64 x.n, .int .i64 x.k, .int .i64 x.m, .int .u32 x.h]] w fun r w' => r = .returned (.tuple #[]) ∧ Played S (N + 1) (K + 20) x.kind w w' := by
  have hl := play_live h ok ((Below.refl _ _).alloc (Nat.le_refl _) (.cells #[.int .i64 x.kind, .int .i64 x.n, .int .i64 x.k, .int .i64 x.m, .int .u32 x.h] 29))
  have hb := Cells.new w 29 [.int .i64 x.kind, .int .i64 x.n, .int .i64 x.k, .int .i64 x.m, .int .u32 x.h]
  obtain ⟨hn1, hn2⟩ := hx.n
  have HN := hidden hN
  have HK := hidden hK
  have HWf := hidden hx
  obtain ⟨kind, n, k, m, hh⟩ := x
  simp only at *
  clear h ok hx hN hK
  go_enter Tryz.func14, Tryz.ntmps14
  go_wp2_with fail
  refine hl.mono ?_
  rintro r w1 ⟨ln, g, cap, rfl, hln, hln2, hb1, hcells, hon⟩
  have hbk := hb1.block w.heap.size (by simp)
  have hc1 := hb.same hbk
  have d0 := hc1.cell 0 _ rfl
  have d1 := hc1.cell 1 _ rfl
  have d2 := hc1.cell 2 _ rfl
  have d3 := hc1.cell 3 _ rfl
  have d4 := hc1.cell 4 _ rfl
  have HOn := hidden hon
  have HCells := hidden hcells
  obtain ⟨x0, hx0, hc0⟩ := hcells 0 hln
  have HX0 := hidden hx0
  have hz1 : ((ln : Nat) : Int) ≠ 0 := by omega
  have hz2 : (((ln : Nat) : Int) == 0) = false := by simp; omega
  have hz3 : (0 : Int) < (ln : Int) := by omega
  clear hl hb1 hbk hb hc1 hcells hon hx0
  go_upto_if 19 with fail
  go_cut [5] from 14 to 75 (fun v wc => wc = w1 ∧ ∃ x : Nat, x < 4294967296 ∧ v = .int .u32 (x : Int))
  case first =>
    by_cases hn0 : 0 < n
    · have hj : (n % (ln : Int)).toNat < ln := by
        have h1 := Int.emod_nonneg n (b := (ln : Int)) (by omega)
        have h2 := Int.emod_lt_of_pos n (b := (ln : Int)) (by omega)
        omega
      obtain ⟨x, hx, hcx⟩ := HCells.out _ hj
      have HX := hidden hx
      have hmod : n.tmod (ln : Int) = (((n % (ln : Int)).toNat : Nat) : Int) := by
        rw [Int.tmod_eq_emod_of_nonneg (by omega), Int.toNat_of_nonneg (Int.emod_nonneg n (by omega))]
      generalize (n % (ln : Int)).toNat = j at *
      have hw1 : IntKind.i64.wrap ((j : Nat) : Int) = (j : Int) := Go.IntWalk.i64_in _ (by omega)
      have hji : (j : Int) < (ln : Int) := by omega
      have hj0 : (0 : Int) ≤ (j : Int) := by omega
      clear hx
      go_wp2_with fail
      go_meet
      case rel => exact ⟨rfl, x, HX.out, rfl⟩
    · have hnd : decide (0 < n) = false := by simpa using hn0
      go_wp2_with fail
      go_meet
      case rel => exact ⟨rfl, x0, HX0.out, rfl⟩
  case rest =>
    obtain ⟨rfl, x, hx, rfl⟩ := hcut
    clear hc0 HX0 HCells hz1 hz2 hz3 hln hln2
    have HX := hidden hx
    clear hx x0
    by_cases hk01 : kind = 0 ∨ kind = 1
    · have hm := play_make HOn.out HN.out HX.out k m
      have HM := hidden (hm.mono fun r w' (hr : (∃ a b : Value, r = .returned (.tuple #[a, b])) ∧ _) => (⟨hr.1, Played.of (hr.2.mono (Nat.le_refl _) (by omega)) kind⟩ : (∃ a b : Value, r = .returned (.tuple #[a, b])) ∧ Played S (N + 1) (K + 20) kind w w'))
      clear hm HOn
      rcases hk01 with rfl | rfl
      all_goals
        go_wp2_with fail
        refine HM.out.mono ?_
        rintro r w2 ⟨⟨a, b, rfl⟩, hq⟩
        have HQ := hidden hq
        clear hq HM
        go_wp2_with fail
        first | exact ⟨rfl, HQ.out⟩ | (go_end0; exact ⟨rfl, HQ.out⟩)
    · by_cases hk23 : kind = 2 ∨ kind = 3
      · have hm := play_doom HOn.out (by have := HK.out; omega) HX.out
        have HM := hidden (hm.mono fun r w' (hr : (∃ a : Value, r = .returned a) ∧ _) => (⟨hr.1, Played.of (hr.2.mono (by omega) (by omega)) kind⟩ : (∃ a : Value, r = .returned a) ∧ Played S (N + 1) (K + 20) kind w w'))
        clear hm HOn
        rcases hk23 with rfl | rfl
        all_goals
          go_wp2_with fail
          refine HM.out.mono ?_
          rintro r w2 ⟨⟨a, rfl⟩, hq⟩
          have HQ := hidden hq
          clear hq HM
          go_wp2_with fail
          first | exact ⟨rfl, HQ.out⟩ | (go_end0; exact ⟨rfl, HQ.out⟩)
      · have e0 : (kind == 0) = false := by simp; omega
        have e1 : (kind == 1) = false := by simp; omega
        have e2 : (kind == 2) = false := by simp; omega
        have e3 : (kind == 3) = false := by simp; omega
        by_cases hk4 : kind = 4
        · subst hk4
          have htk := ticks_any wc ⟨4, n, k, m, hh⟩ HWf.out
          obtain ⟨ht0, ht20⟩ := ticksI_le n
          generalize htz : ticksI n = z at *
          simp only at htk
          clear htz hn1 hn2
          go_wp2_with fail
          refine htk.mono ?_
          rintro r w2 ⟨rfl, hb2⟩
          have HOn2 := hidden (HOn.out.at.grown hb2)
          clear hb2 htk HOn d0 d1 d2 d3 d4
          obtain ⟨zn, rfl⟩ := Int.eq_ofNat_of_zero_le ht0
          have hz20 : zn ≤ 20 := by omega
          clear ht0
          go_wp2_with fail
          go_loopg [6] zn (fun gk iv wr => iv = .int .i64 (gk : Int) ∧ gk ≤ zn ∧ OnAt S N (K + (zn - gk)) w wr)
          case atStart => exact ⟨rfl, Nat.le_refl _, by rw [Nat.sub_self]; exact HOn2.out⟩
          case round =>
            obtain ⟨rfl, hgz, hon⟩ := hrel
            by_cases hg0 : gk = 0
            · subst hg0
              have HQ : Hid (Played S (N + 1) (K + 20) 4 w wr) := ⟨hon.mono (by omega) (by omega), fun h => absurd rfl h⟩
              clear hon
              go_wp2_with fail
              first | exact ⟨rfl, HQ.out⟩ | (go_end0; exact ⟨rfl, HQ.out⟩)
            · have htick := play_tick hon (by have := HK.out; omega)
              have HT := hidden htick
              have hgi : (0 : Int) < (gk : Int) := by omega
              have hg20 : (gk : Int) ≤ 20 := by omega
              clear htick hon
              go_wp2_with fail
              refine HT.out.mono ?_
              rintro r w3 ⟨⟨a, rfl⟩, hon3⟩
              have HOn3 := hidden hon3
              clear hon3 HT
              go_wp2_with fail
              go_roundg (gk - 1)
              case measure => omega
              case rel => exact ⟨by rw [show ((gk - 1 : Nat) : Int) = (gk : Int) - 1 by omega], by omega, by rw [show K + (zn - (gk - 1)) = K + (zn - gk) + 1 by omega]; exact HOn3.out⟩
        · by_cases hk5 : kind = 5
          · subst hk5
            have hun := play_under HOn.out HX.out
            have HU := hidden hun
            clear hun HOn
            go_wp2_with fail
            refine HU.out.mono ?_
            rintro r w2 ⟨L, ua, ucap, rfl, hll, hnm, hdo⟩
            have HDo := hidden hdo
            have HNm := hidden hnm
            clear hdo hnm HU d0 d1 d2 d3 d4
            generalize hln : L.length = ul at *
            have HLn := hidden hln
            clear hln
            go_wp2_with fail
            go_loopg [8] ul (fun gk iv wr => ∃ j : Nat, iv = .int .i64 (j : Int) ∧ j + gk = ul ∧ DoomAt S N K L ua w wr)
            case atStart => exact ⟨0, rfl, Nat.zero_add _, HDo.out⟩
            case round =>
              obtain ⟨j, rfl, hjg, hdo⟩ := hrel
              by_cases hjl : j < ul
              · have hLj : L[j]? = some (L[j]'(by rw [HLn.out]; exact hjl)) := List.getElem?_eq_getElem _
                have hnj := HNm.out (L[j]'(by rw [HLn.out]; exact hjl)) (List.getElem_mem _)
                generalize L[j]'(by rw [HLn.out]; exact hjl) = y at hLj hnj
                have hdm := doomAt_doom hdo (by have := HK.out; omega) hnj
                obtain ⟨S1, fr1, _, _, _, _, hsd⟩ := hdo
                obtain ⟨gu, rfl, _, _, hcy⟩ := hsd j y hLj
                have HDm := hidden hdm
                have HJg := hidden hjg
                have hjl2 : (j : Int) < (ul : Int) := by omega
                have hj256 : (j : Int) ≤ 256 := by omega
                clear hdm hsd hLj hnj hjg
                go_wp2_with fail
                refine HDm.out.mono ?_
                rintro r w3 ⟨⟨a, rfl⟩, hdo3⟩
                have HDo3 := hidden hdo3
                clear hdo3 HDm hcy
                go_wp2_with fail
                go_roundg (ul - (j + 1))
                case measure => have := HJg.out; omega
                case rel => exact ⟨j + 1, by go_num, by have := HJg.out; omega, HDo3.out⟩
              · have hdm := play_doom hdo.on (by have := HK.out; omega) HX.out
                have HDm := hidden (hdm.mono fun r w' (hr : (∃ a : Value, r = .returned a) ∧ _) => (⟨hr.1, Played.of (hr.2.mono (by omega) (by omega)) 5⟩ : (∃ a : Value, r = .returned a) ∧ Played S (N + 1) (K + 20) 5 w w'))
                clear hdm hdo
                go_wp2_with fail
                refine HDm.out.mono ?_
                rintro r w3 ⟨⟨a, rfl⟩, hq⟩
                have HQ := hidden hq
                clear hq HDm
                go_wp2_with fail
                first | exact ⟨rfl, HQ.out⟩ | (go_end0; exact ⟨rfl, HQ.out⟩)
          · have e4 : (kind == 4) = false := by simp; omega
            have e5 : (kind == 5) = false := by simp; omega
            have HQ : Hid (Played S (N + 1) (K + 20) kind w wc) := Played.of (HOn.out.mono (by omega) (by omega)) kind
            clear HOn hk01 hk23 hk4 hk5
            go_wp2_with fail
            first | exact ⟨rfl, HQ.out⟩ | (go_end0; exact ⟨rfl, HQ.out⟩)
end Go.Proofs.YtcnbbenmlffgpaaGreatDoor

/- What the laws on a core share: the state between two acts; acts that came in. No condition. -/
namespace Go.Proofs.YtcnbbenmlffgpaaGreatDoor
open Go.RowKit

/-- A core at c, new since w: so many makings, so many ticks at most. -/
def CoreAt (c N K : Nat) (w wr : World) : Prop := ∃ (S : CO) (fr : List Nat), S.c = c ∧ S.Ok fr N K ∧ Step [] S.hl w wr
theorem CoreAt.grown {c N K : Nat} {w wr wr' : World} (h : CoreAt c N K w wr) (hb : Below wr.heap.size wr wr') : CoreAt c N K w wr' := by
  obtain ⟨S, fr, ec, ok, st⟩ := h
  exact ⟨S, fr, ec, ok, st.trans (st.sep.grown hb)⟩
theorem CoreAt.fresh {c N K : Nat} {w wr : World} (h : CoreAt c N K w wr) : Below w.heap.size w wr := by
  obtain ⟨S, fr, ec, ok, st⟩ := h
  exact st.fresh
theorem FreshO.at {S : CO} {top period : Nat} {limit : Int} (h : FreshO S top limit period) {w wr : World} (st : Step [] S.hl w wr) : CoreAt S.c 1 0 w wr := ⟨S, [], rfl, h.ok, st⟩
def A5.val (x : A5) : Value := .agg #[.int .i64 x.kind, .int .i64 x.n, .int .i64 x.k, .int .i64 x.m, .int .u32 x.h]
theorem coreAt_play {c N K : Nat} {w wr : World} (h : CoreAt c N K w wr) (hN : N + 1 < 1048576) (hK : K + 20 < 1048575) (x : A5) (hx : x.Wf) : Calls Tryz.prog 14 #[.pointer (some ⟨c, 0, none⟩), .agg #[.int .i64 x.kind, .int .i64 x.n, .int .i64 x.k, .int .i64 x.m, .int .u32 x.h]] wr fun r w' => r = .returned (.tuple #[]) ∧ CoreAt c (N + 1) (K + 20) w w' := by
  obtain ⟨S, fr, ec, ok, st⟩ := h
  have := play_any st.sep ok hN hK x hx
  rw [ec] at this
  refine this.mono ?_
  rintro r w' ⟨rfl, ⟨S', fr', ok', wt, st'⟩, _⟩
  exact ⟨rfl, S', fr', wt.c.trans ec, ok', st.trans st'⟩
/-- An act's five numbers, read. -/
theorem IsA5.read {w wr : World} {a0 : Option Addr} {len : Nat} {A : Nat → A5} (h : IsA5 w a0 len A) (hb : Below w.heap.size w wr) {j : Nat} (hj : j < len) : ∃ g off, a0 = some ⟨g, off, none⟩ ∧ wr.cell? ⟨g, off + j * 5, none⟩ = some (.int .i64 (A j).kind) ∧ wr.cell? ⟨g, off + j * 5 + 1, none⟩ = some (.int .i64 (A j).n) ∧ wr.cell? ⟨g, off + j * 5 + 2, none⟩ = some (.int .i64 (A j).k) ∧ wr.cell? ⟨g, off + j * 5 + 3, none⟩ = some (.int .i64 (A j).m) ∧ wr.cell? ⟨g, off + j * 5 + 4, none⟩ = some (.int .u32 (A j).h) ∧ (A j).Wf := by
  obtain ⟨g, off, e, _, hc, wf⟩ := (h.below hb) j hj
  exact ⟨g, off, e, hc 0 _ rfl, hc 1 _ rfl, hc 2 _ rfl, hc 3 _ rfl, hc 4 _ rfl, wf⟩
theorem row_shape {w : World} {B n : Nat} {T : TypeId} {v : Value} {xs : List Value} (h : w.ownsRow B T 1 v n xs) : ∃ (a : Option Addr) (cap : Nat), v = .slice a n cap ∧ n ≤ cap := by
  rcases h.2 with ⟨rfl, h0⟩ | ⟨g, cap, cur, rfl, _, _, hn, _⟩
  · exact ⟨none, 0, by rw [h0], by omega⟩
  · exact ⟨_, cap, rfl, hn⟩
theorem row_isHs {w : World} {B : Nat} {v : Value} {L : List Nat} (h : w.ownsRow B 32 1 v L.length (hands L)) : ∃ (a : Option Addr) (cap : Nat), v = .slice a L.length cap ∧ IsHs B L a w ∧ (a = none → cap = 0) := by
  rcases h.2 with ⟨rfl, h0⟩ | ⟨g, cap, cur, rfl, hg, hgb, hn, hm, hs, htk⟩
  · refine ⟨none, 0, by rw [h0], ⟨fun j x hj => ?_⟩, fun _ => rfl⟩
    have := (List.getElem?_eq_some_iff.1 hj).1
    omega
  · refine ⟨_, cap, rfl, ⟨fun j x hj => ⟨g, rfl, hg, lt_of_block hgb, ?_⟩⟩, fun h => by cases h⟩
    have hv := hands_at hj
    rw [← htk, List.getElem?_take] at hv
    split at hv
    · simp only [World.cell?, hgb, Option.isSome_none, Bool.false_eq_true, if_false]
      rw [← Array.getElem?_toList]; exact hv
    · cases hv
end Go.Proofs.YtcnbbenmlffgpaaGreatDoor
