/- CoreApart returns true at every input. No condition. Part of its proof. -/
import Derived.Test.YtcnbbenmlffgpaaGreatDoorCa10
import Derived.Test.YtcnbbenmlffgpaaGreatDoorCa01
import Derived.Test.YtcnbbenmlffgpaaGreatDoorCa03
import Derived.Deep.QuietTactic
import Derived.Deep.RegionHeld3
import Derived.BigQuiet
import Derived.Laws.BitsAllLaws
import Derived.Laws.Rows
import Derived.Deep.AppendSrc
import Derived.Test.YtcnbbenmlffgpaaGreatDoorCa07
set_option linter.unusedVariables false
/- What the core keeps to stays so behind a making, a dooming and a freeing. No condition. -/
namespace Go.Proofs.YtcnbbenmlffgpaaGreatDoor
open Go.RowKit

/-- What of other classes is used stays. -/
theorem GotM.high {P P' : PL} {fr fr' : List Nat} {own : Int} {k a : Nat} (g : GotM P fr own k a P' fr') (ok : P.Ok fr) (hk : k = 8 ∨ k ≤ 5) : ∀ j, 6 ≤ j → (P'.usedOf j).Perm (P.usedOf j) := fun j hj => by
  by_cases e : j = k
  · have h8 : j = 8 := by omega
    rw [usedOf_big g.ok (by rw [h8]; rfl), usedOf_big ok (by rw [h8]; rfl)]
  · rw [g.other j e]
theorem BackM.high {P P' : PL} {fr fr' : List Nat} {own : Int} {k a : Nat} (g : BackM P fr own k a P' fr') (ok : P.Ok fr) (hk : k = 8 ∨ k ≤ 5) : ∀ j, 6 ≤ j → (P'.usedOf j).Perm (P.usedOf j) := fun j hj => by
  by_cases e : j = k
  · have h8 : j = 8 := by omega
    rw [usedOf_big g.ok (by rw [h8]; rfl), usedOf_big ok (by rw [h8]; rfl)]
  · rw [g.other j e]
/-- Nothing else is charged. -/
abbrev x0 : Int → Int := fun _ => 0
/-- Bytes of all objects stayed. -/
def KeptL (m m' : List Nat) (l : List Pl) : Prop := ∀ r ∈ l, r.is = true → Kept m m' r.at_ (costK r.kind)
theorem costK_8 : costK 8 = 1024 := rfl
theorem costK_ne {k : Nat} (h : k ≠ 8) : costK k = costN k := by unfold costK; rw [if_neg h]
/-- What lies apart from all that is used, and from all frames, leaves all objects' bytes. -/
theorem KeptL.of_apart {P : PL} {l : List Pl} {fr : List Nat} (m : MemI P l fr) {a n : Nat} {m' : List Nat} (hm : ∀ b k, b + k ≤ a ∨ a + n ≤ b → Kept P.a.mem m' b k)
    (h : (∀ j b, b ∈ P.usedOf j → a + n ≤ b ∨ b + costN j ≤ a) ∧ ∀ x ∈ fr, a + n ≤ 1024 * x ∨ 1024 * x + 1024 ≤ a) : KeptL P.a.mem m' l := fun r hr his => by
  by_cases h8 : r.kind = 8
  · obtain ⟨g, hg, e⟩ := m.frame hr his h8
    have := h.2 g hg
    rw [h8, costK_8]
    exact hm _ _ (by omega)
  · have hu := m.used hr his h8
    have := h.1 _ _ hu
    rw [costK_ne h8]
    exact hm _ _ (by omega)
theorem Inv.kind {P : PL} {l : List Pl} {fr : List Nat} {xc : Int → Int} {zs : List Nat} (v : Inv P l fr xc zs) {s h : Nat} {p : Pl} (hp : pget l s h = some p) (hs : s = 1 ∨ s = 2) : p.kind = 8 ∨ (1 ≤ p.kind ∧ p.kind ≤ 5) :=
  v.mem.kind p (pget_mem hp) (Pl.is_iff.2 (by have := (pget_some.1 hp).2.2; omega))
theorem st_set {l : List Pl} {i : Nat} {q : Pl} (h : ∀ p ∈ l, p.st ≤ 2 ∧ p.age ≤ 1048575) (hq : q.st ≤ 2 ∧ q.age ≤ 1048575) : ∀ p ∈ l.set i q, p.st ≤ 2 ∧ p.age ≤ 1048575 := fun p hp => by
  rcases mem_of_set hp with rfl | hp
  · exact hq
  · exact h p hp
theorem GotM.keptL {P P' : PL} {l : List Pl} {fr fr' : List Nat} {own : Int} {k a : Nat} (g : GotM P fr own k a P' fr') (m : MemI P l fr) : KeptL P.a.mem P'.a.mem l :=
  KeptL.of_apart m (n := costK k) (a := a) (fun b j h => by
    rw [g.mem]
    exact kept_put (by rw [List.length_replicate]; exact g.room.1) (by rw [List.length_replicate]; exact h)) (g.apart m.pool)
theorem Inv.addN {P P' : PL} {l : List Pl} {fr fr' : List Nat} {xc : Int → Int} {zs : List Nat} (v : Inv P l fr xc zs) {i k a h : Nat} {p f : Pl} (g : GotM P fr f.own k a P' fr') (hi : l[i]? = some p) (hp : p.st = 0) (hk : k = 8 ∨ (2 ≤ k ∧ k ≤ 5)) (hf : pget l 1 h = some f) (hfk : f.kind = 1) :
    Inv P' (l.set i ⟨k, a, f.own, 1, p.age, 0⟩) fr' xc zs := by
  have hpn : p.is = false := Pl.not_is.2 ⟨by omega, by omega⟩
  obtain ⟨e, q1, q2, q3⟩ := g.q
  refine ⟨by rw [List.length_set]; exact v.len, st_set v.st ⟨by show (1 : Nat) ≤ 2; omega, (v.st p (List.mem_of_getElem? hi)).2⟩, ?_, ?_, ?_⟩
  · exact v.mem.add (q := ⟨k, a, f.own, 1, p.age, 0⟩) (g.grewM v.mem.pool (by omega)) hi hpn rfl (by show k = 8 ∨ (1 ≤ k ∧ k ≤ 5); omega)
  · rw [q3]
    exact v.tre.addN (q := ⟨k, a, f.own, 1, p.age, 0⟩) v.mem.pool.q.ids hi hpn rfl (by show k ≠ 1; omega) q1
  · exact v.que.add hi hp rfl (pget_mem hf) (pget_some.1 hf).2.2 hfk rfl
theorem TreI.parent_lt {E : List (En Fa)} {l : List Pl} {xc : Int → Int} (t : TreI E l xc) (hids : E.Pairwise (fun a b => a.id ≠ b.id)) {N : Int} (h0 : 0 < N) (hN : ∀ id e, find E id = some e → 0 ≤ id ∧ id < N) {x : En Fa} (hx : x ∈ E) : x.q.parent < N ∧ x.q.parent ≠ N := by
  have hm : x.id ∈ ownsOf l := t.ids.mem_iff.1 (List.mem_map_of_mem hx)
  obtain ⟨p, hp, hpo⟩ := List.mem_filterMap.1 hm
  unfold ownF at hpo
  split at hpo
  · rename_i hc
    simp only [Bool.and_eq_true, beq_iff_eq] at hc
    have hid : (p.own : Int) = x.id := Option.some.inj hpo
    have hfx : find E p.own = some x := by rw [hid]; exact find_of_mem hids hx
    obtain ⟨b1, b2⟩ := t.par p hp hc.1 hc.2 x hfx
    have := hN _ _ hfx
    by_cases hx0 : p.own = 0
    · have := b1 hx0; omega
    · have := b2 hx0; omega
  · cases hpo
theorem Inv.addF {P P' P2 : PL} {l : List Pl} {fr fr' : List Nat} {zs : List Nat} (v : Inv P l fr x0 zs) {i a h b x : Nat} {limit : Int} {p f : Pl} {e : En Fa} (g : GotM P fr f.own 1 a P' fr') (hi : l[i]? = some p) (hp : p.st = 0) (hf : pget l 1 h = some f) (hfk : f.kind = 1)
    (hx : (x : Int) = P.q.next) (he : find P.q.E f.own = some e)
    (hq : P2.q.E = upd P.q.E f.own { e.q with charged := e.q.charged + 64, given := e.q.given + limit, kids := e.q.kids + 1 } ++ [⟨x, b, ⟨limit, 0, 0, f.own, 0⟩⟩]) (hm : P2.a.mem = put_ P'.a.mem a (bytes8 x)) (hu : ∀ j, P2.usedOf j = P'.usedOf j) (hok : P2.Ok fr') :
    Inv P2 (l.set i ⟨1, a, f.own, 1, p.age, x⟩) fr' x0 zs := by
  have hpn : p.is = false := Pl.not_is.2 ⟨by omega, by omega⟩
  have hids := v.mem.pool.q.ids
  have hN : ∀ id e, find P.q.E id = some e → 0 ≤ id ∧ id < P.q.next := fun id e h => by
    have := v.mem.pool.q.fa id e h
    exact ⟨this.2.2.2.2.2.2.1, this.2.2.2.2.2.2.2⟩
  have hn1 := v.mem.pool.q.next1
  have hno : find P.q.E (x : Int) = none := by
    cases hc : find P.q.E (x : Int) with
    | none => rfl
    | some y => have := hN _ _ hc; omega
  have hlt : f.own < x := by have := hN _ _ he; omega
  refine ⟨by rw [List.length_set]; exact v.len, st_set v.st ⟨by show (1 : Nat) ≤ 2; omega, (v.st p (List.mem_of_getElem? hi)).2⟩, ?_, ?_, ?_⟩
  · exact v.mem.add (q := ⟨1, a, f.own, 1, p.age, x⟩) (g.grewF v.mem.pool (by show x < _; omega) hm hu hok) hi hpn rfl (.inr ⟨Nat.le_refl 1, by show (1 : Nat) ≤ 5; omega⟩)
  · rw [hq]
    refine v.tre.addF (q := ⟨1, a, f.own, 1, p.age, x⟩) hids hi hpn rfl rfl he hno hlt rfl (fun y hy => ?_) (fun r hr his => ?_)
    · have := (v.tre.parent_lt hids v.mem.pool.q.next0 hN hy).2
      show y.q.parent ≠ (x : Int)
      rw [hx]; exact this
    · obtain ⟨y, hy⟩ := v.tre.fac r hr his
      have := hN _ _ hy
      show r.fac ≠ x
      omega
  · exact v.que.add hi hp rfl (pget_mem hf) (pget_some.1 hf).2.2 hfk rfl
theorem Inv.doom {P : PL} {l : List Pl} {fr : List Nat} {zs : List Nat} (v : Inv P l fr x0 zs) {h : Nat} {p : Pl} (hp : pget l 1 h = some p) (h0 : h ≠ 0) (hk : kids l h = []) : Inv P (l.set (h % 256) { p with st := 2 }) fr x0 (zs ++ [h]) := by
  obtain ⟨hi, hn, hs⟩ := pget_some.1 hp
  have hpi : p.is = true := Pl.is_iff.2 (.inl hs)
  have hpm := List.mem_of_getElem? hi
  exact ⟨by rw [List.length_set]; exact v.len, st_set v.st ⟨by show (2 : Nat) ≤ 2; omega, (v.st p hpm).2⟩, v.mem.keep hi hpi rfl rfl rfl rfl, v.tre.keep hi hpi rfl rfl rfl rfl,
    v.que.doom (by rw [v.len]; omega) v.tre v.mem.pool.q.ids hp h0 hk fun id => ⟨Int.le_refl 0, fun h => absurd rfl h⟩⟩
/-- An empty place, of an age. -/
def noPl (age : Nat) : Pl := ⟨0, 0, 0, 0, age, 0⟩
theorem Inv.freeN {P P' : PL} {l : List Pl} {fr fr' : List Nat} {zs : List Nat} {h : Nat} (v : Inv P l fr x0 (h :: zs)) {p : Pl} (hp : pget l 2 h = some p) (hk : p.kind ≠ 1) (g : BackM P fr p.fac p.kind p.at_ P' fr') (hage : p.age + 1 ≤ 1048575) :
    Inv P' (l.set (h % 256) (noPl (p.age + 1))) fr' x0 zs := by
  obtain ⟨hi, hn, hs⟩ := pget_some.1 hp
  have hpi : p.is = true := Pl.is_iff.2 (.inr hs)
  obtain ⟨e, q1, q2, q3⟩ := g.q
  refine ⟨by rw [List.length_set]; exact v.len, st_set v.st ⟨by show (0 : Nat) ≤ 2; omega, hage⟩, v.mem.drop g.goneM hi hpi rfl, ?_, v.que.free hp rfl⟩
  rw [q3]
  exact v.tre.dropN v.mem.pool.q.ids hi hpi rfl hk q1
theorem Inv.freeF {P P1 P' : PL} {l : List Pl} {fr fr' : List Nat} {zs : List Nat} {h : Nat} (v : Inv P l fr x0 (h :: zs)) {p : Pl} (hp : pget l 2 h = some p) (hk : p.kind = 1) {e c : En Fa} (he : find P.q.E p.fac = some e) (hc : find P.q.E p.own = some c)
    (h1 : P1 = P.setQ { P.q with E := rem (upd P.q.E p.fac { e.q with given := e.q.given - c.q.limit, kids := e.q.kids - 1 }) p.own }) (g : BackM P1 fr p.fac 1 p.at_ P' fr') (hage : p.age + 1 ≤ 1048575) :
    Inv P' (l.set (h % 256) (noPl (p.age + 1))) fr' x0 zs := by
  obtain ⟨hi, hn, hs⟩ := pget_some.1 hp
  have hpi : p.is = true := Pl.is_iff.2 (.inr hs)
  obtain ⟨h0, hno, c', hc', c1, c2, c3, c4⟩ := v.last hp hk
  rw [hc] at hc'; cases hc'
  have hids := v.mem.pool.q.ids
  have hpar := (v.tre.par p (pget_mem hp) hpi hk c hc).2 h0
  have hne : (p.own : Int) ≠ p.fac := by omega
  obtain ⟨y, q1, q2, q3⟩ := g.q
  have hE1 : P1.q.E = rem (upd P.q.E p.fac { e.q with given := e.q.given - c.q.limit, kids := e.q.kids - 1 }) p.own := by rw [h1]; rfl
  have pw1 : (upd P.q.E p.fac { e.q with given := e.q.given - c.q.limit, kids := e.q.kids - 1 }).Pairwise (fun a b => a.id ≠ b.id) := upd_pairwise _ _ (fun a b a' b' _ h1 _ h2 h => by rw [← h1, ← h2]; exact h) hids
  have hy : y.q = { e.q with given := e.q.given - c.q.limit, kids := e.q.kids - 1 } := by
    rw [hE1, find_rem pw1, if_neg (fun h => hne h.symm), find_upd_same he] at q1
    cases q1; rfl
  refine ⟨by rw [List.length_set]; exact v.len, st_set v.st ⟨by show (0 : Nat) ≤ 2; omega, hage⟩, ?_, ?_, v.que.free hp rfl⟩
  · have gm : GoneM P fr p.kind p.at_ P' fr' := by
      have := g.goneM
      rw [hk]
      refine ⟨this.pool, fun h => ?_, fun j hj => ?_, this.frs, fun b hb => ?_⟩
      · have := this.used h; rw [h1] at this; exact this
      · have := this.other j hj; rw [h1] at this; exact this
      · have := this.mem b hb; rw [h1] at this; exact this
    exact v.mem.drop gm hi hpi rfl
  · rw [q3]
    show TreI (upd P1.q.E _ _) _ _
    rw [hE1, hy]
    have := v.tre.dropF hids hi hpi (q := noPl (p.age + 1)) rfl hk h0 he hc hno
    rw [hk] at this
    exact this
/-- A Make that came to nothing: got, and put back. -/
structure Tried (P : PL) (fr : List Nat) (l : List Pl) (P' : PL) : Prop where
  ok : P'.Ok fr
  same : SameP P P'
  q : P'.q = P.q
  used : ∀ k, (P'.usedOf k).Perm (P.usedOf k)
  ps : P'.d.ps.Perm P.d.ps
  mem : KeptL P.a.mem P'.a.mem l
theorem Tried.refl {P : PL} {fr : List Nat} (ok : P.Ok fr) (l : List Pl) : Tried P fr l P := ⟨ok, SameP.refl P, rfl, fun _ => List.Perm.refl _, List.Perm.refl _, fun _ _ _ => Kept.refl _ _ _⟩
theorem used_pages {P : PL} {fr : List Nat} (ok : P.Ok fr) (g : Nat) : g ∈ P.pages ↔ ∃ k a, a ∈ P.usedOf k ∧ a / 1024 = g := by
  constructor
  · intro hg
    obtain ⟨c, hc, hx0⟩ := List.mem_flatMap.1 hg
    obtain ⟨x, hx, rfl⟩ := List.mem_map.1 hx0
    obtain ⟨k, hk⟩ := List.mem_iff_getElem?.1 hc
    have hcls : P.Cls (k + 1) c := ⟨by omega, by simpa using hk⟩
    obtain ⟨k1, k2, _, _⟩ := PL.Cls.facts ok hcls
    have hb := ok.busy c hc x hx
    obtain ⟨i, hi⟩ : ∃ i, i ∈ trues x.1.bits := by
      cases ht : trues x.1.bits with
      | nil => 
        exfalso
        apply hb
        have : cntB x.1.bits = (trues x.1.bits).length := (trues_len _).symm
        rw [this, ht]; rfl
      | cons i r => exact ⟨i, by simp⟩
    have hu : addr c.size x.2 i ∈ c.used := List.mem_flatMap.2 ⟨x, hx, List.mem_map_of_mem hi⟩
    refine ⟨k + 1, addr c.size x.2 i, by rw [usedOf_cls hcls]; exact hu, ?_⟩
    have hil : i < x.1.bits.length := by
      have := mem_trues.1 hi
      rcases Nat.lt_or_ge i x.1.bits.length with e | e
      · exact e
      · rw [List.getElem?_eq_none e] at this; cases this
    have hs0 := k1.s0
    have hp := place_lt (s := c.size) (by omega) hil (k1.many x hx)
    unfold addr
    omega
  · rintro ⟨k, a, ha, rfl⟩
    obtain ⟨p, hp, h1, h2⟩ := used_in_page ok ha
    have := usedOf_low ok ha
    have := costN_ok this.1 this.2
    have e : a / 1024 = p := by omega
    rw [e]; exact hp
/-- The used pages are told by what is used. -/
theorem ps_perm {P P' : PL} {fr fr' : List Nat} (ok : P.Ok fr) (ok' : P'.Ok fr') (hu : ∀ k, (P'.usedOf k).Perm (P.usedOf k)) (hf : fr'.Perm fr) : P'.d.ps.Perm P.d.ps := by
  have h1 := (ok.pages.nodup_iff).2 ok.d.nd
  have h2 := (ok'.pages.nodup_iff).2 ok'.d.nd
  have hp : P'.pages.Perm P.pages := by
    rw [List.perm_ext_iff_of_nodup (List.nodup_append.1 h2).2.1 (List.nodup_append.1 h1).2.1]
    intro g
    rw [used_pages ok', used_pages ok]
    constructor
    · rintro ⟨k, a, ha, e⟩; exact ⟨k, a, (hu k).mem_iff.1 ha, e⟩
    · rintro ⟨k, a, ha, e⟩; exact ⟨k, a, (hu k).mem_iff.2 ha, e⟩
  exact ok'.pages.symm.trans ((hf.append hp).trans ok.pages)
theorem GotM.back {P P' P2 : PL} {l : List Pl} {fr fr' fr2 : List Nat} {own : Int} {k a : Nat} (g : GotM P fr own k a P' fr') (m : MemI P l fr) (b : BackM P' fr' own k a P2 fr2) : Tried P fr l P2 := by
  obtain ⟨e, q1, q2, q3⟩ := g.q
  obtain ⟨e', r1, r2, r3⟩ := b.q
  have hids := m.pool.q.ids
  have hE : P'.q.E = upd P.q.E own { e.q with charged := e.q.charged + ((costK k : Nat) : Int) } := by rw [q3]
  have he' : e' = { e with q := { e.q with charged := e.q.charged + ((costK k : Nat) : Int) } } := by
    rw [hE, find_upd_same q1] at r1
    exact (Option.some.inj r1).symm
  have hq : P2.q = P.q := by
    have h1 : upd P'.q.E own { e'.q with charged := e'.q.charged - ((costK k : Nat) : Int) } = P.q.E := by
      rw [hE, upd_upd, he']
      have : ({ e.q with charged := e.q.charged + ((costK k : Nat) : Int) - ((costK k : Nat) : Int) } : Fa) = e.q := by
        rw [Int.add_sub_cancel]
      show upd P.q.E own ({ e.q with charged := e.q.charged + ((costK k : Nat) : Int) - ((costK k : Nat) : Int) } : Fa) = _
      rw [this]
      exact upd_id hids q1
    rw [r3, h1, q3]
  have hu : ∀ j, (P2.usedOf j).Perm (P.usedOf j) := fun j => by
    by_cases e : j = k
    · subst e
      by_cases h8 : j = 8
      · have z : ∀ {Q : PL} {f : List Nat}, Q.Ok f → Q.usedOf j = [] := fun hQ => usedOf_big hQ (by rw [h8]; rfl)
        rw [z b.ok, z m.pool]
      · have h1 := (g.used h8).symm.trans (b.used h8)
        exact (List.Perm.cons_inv h1).symm
    · rw [b.other j e, g.other j e]
  have hfr : fr2 = fr := by
    have h1 := g.frs
    have h2 := b.frs
    by_cases h8 : k = 8
    · rw [if_pos h8] at h1 h2
      obtain ⟨x, rfl, hx⟩ := h1
      obtain ⟨y, hy, rfl⟩ := h2
      have : x = y := by omega
      subst this
      rw [hx]; simp
    · rw [if_neg h8] at h1 h2
      rw [h2, h1]
  have hok : P2.Ok fr := by rw [← hfr]; exact b.ok
  exact ⟨hok, g.same.trans b.same, hq, hu, ps_perm m.pool hok hu (List.Perm.refl _), fun r hr his => by rw [b.mem]; exact g.keptL m r hr his⟩
theorem Inv.tried {P P' : PL} {l : List Pl} {fr : List Nat} {xc : Int → Int} {zs : List Nat} (v : Inv P l fr xc zs) (t : Tried P fr l P') : Inv P' l fr xc zs := by
  refine ⟨v.len, v.st, ⟨t.ok, v.mem.kind, fun k h1 h5 => (v.mem.ats k h1 h5).trans (t.used k).symm, v.mem.frs, fun r hr his hk => ?_⟩, by rw [t.q]; exact v.tre, v.que⟩
  have := t.mem r hr his
  rw [hk] at this
  rw [(this.sub (Nat.le_refl _) (by show r.at_ + 8 ≤ r.at_ + 64; omega)).word]
  exact v.mem.word r hr his hk
end Go.Proofs.YtcnbbenmlffgpaaGreatDoor

/- The table of handles in memory, and walks of its small methods: name, at, Get, Kill, Peek. Conditions: the table's block holds what HT.hl says. -/
namespace Go.Proofs.YtcnbbenmlffgpaaGreatDoor
open Go.RowKit

structure HT where
  t : Nat
  l : List Pl
def Pl.cells (p : Pl) : List Value := [.int .i64 (p.kind : Int), .int .i64 (p.at_ : Int), .int .i64 (p.fac : Int), .int .i64 (p.st : Int), .int .u32 (p.age : Int)]
def HT.hl (h : HT) : HL := [(h.t, isC 182 (h.l.flatMap Pl.cells))]
/-- What the table's numbers keep to. -/
structure HT.Ok (h : HT) : Prop where
  len : h.l.length = 256
  st : ∀ p ∈ h.l, p.st ≤ 3 ∧ p.age ≤ 1048575
theorem fm5_get : ∀ {l : List Pl} {i : Nat} {p : Pl}, l[i]? = some p → ∀ (j : Nat) (v : Value), j < 5 → p.cells[j]? = some v → (l.flatMap Pl.cells)[i * 5 + j]? = some v
  | [], i, p, h, j, v, _, _ => by simp at h
  | x :: r, 0, p, h, j, v, hj, hv => by
    simp at h; subst h
    rw [List.flatMap_cons, Nat.zero_mul, Nat.zero_add, List.getElem?_append_left (by simpa [Pl.cells] using hj)]
    exact hv
  | x :: r, i + 1, p, h, j, v, hj, hv => by
    rw [List.getElem?_cons_succ] at h
    have := fm5_get (l := r) h j v hj hv
    rw [List.flatMap_cons, List.getElem?_append_right (by simp [Pl.cells]; omega)]
    rw [← this]; congr 1; simp [Pl.cells]; omega
theorem fm5_set : ∀ {l : List Pl} {i : Nat} {p q : Pl}, l[i]? = some p → ∀ (j : Nat) (v : Value), j < 5 → p.cells.set j v = q.cells → (l.flatMap Pl.cells).set (i * 5 + j) v = (l.set i q).flatMap Pl.cells
  | [], i, p, q, h, j, v, _, _ => by simp at h
  | x :: r, 0, p, q, h, j, v, hj, hv => by
    simp at h; subst h
    rw [List.flatMap_cons, Nat.zero_mul, Nat.zero_add, List.set_append_left _ _ (by simpa [Pl.cells] using hj), hv]
    rfl
  | x :: r, i + 1, p, q, h, j, v, hj, hv => by
    rw [List.getElem?_cons_succ] at h
    have := fm5_set (l := r) h j v hj hv
    rw [List.flatMap_cons, List.set_append_right _ _ (by simp [Pl.cells]; omega)]
    rw [List.set_cons_succ, List.flatMap_cons, ← this]; congr 2; simp [Pl.cells]; omega
theorem fm5_len (l : List Pl) : (l.flatMap Pl.cells).length = l.length * 5 := by
  induction l with
  | nil => rfl
  | cons x r ih => rw [List.flatMap_cons, List.length_append, ih]; simp [Pl.cells]; omega
section
variable {w : World} {h : HT}
theorem HT.cells (s : Sep w h.hl) : Cells w h.t 182 (h.l.flatMap Pl.cells) := s.cells (by simp [HT.hl])
theorem HT.cell (s : Sep w h.hl) {i : Nat} {p : Pl} (hi : h.l[i]? = some p) : w.cell? ⟨h.t, i * 5, none⟩ = some (.int .i64 (p.kind : Int)) ∧ w.cell? ⟨h.t, i * 5 + 1, none⟩ = some (.int .i64 (p.at_ : Int)) ∧ w.cell? ⟨h.t, i * 5 + 2, none⟩ = some (.int .i64 (p.fac : Int)) ∧ w.cell? ⟨h.t, i * 5 + 3, none⟩ = some (.int .i64 (p.st : Int)) ∧ w.cell? ⟨h.t, i * 5 + 4, none⟩ = some (.int .u32 (p.age : Int)) ∧ ∀ j, w.frozen? ⟨h.t, j, none⟩ = false :=
  ⟨(HT.cells s).cell (i * 5) _ (fm5_get hi 0 _ (by omega) rfl), (HT.cells s).cell (i * 5 + 1) _ (fm5_get hi 1 _ (by omega) rfl), (HT.cells s).cell (i * 5 + 2) _ (fm5_get hi 2 _ (by omega) rfl), (HT.cells s).cell (i * 5 + 3) _ (fm5_get hi 3 _ (by omega) rfl), (HT.cells s).cell (i * 5 + 4) _ (fm5_get hi 4 _ (by omega) rfl), (HT.cells s).free⟩
/-- A store into a place. -/
theorem HT.set (s : Sep w h.hl) {i : Nat} {p q : Pl} (hi : h.l[i]? = some p) (j : Nat) (v : Value) (hj : j < 5) (hq : p.cells.set j v = q.cells) : Step h.hl ({ h with l := h.l.set i q } : HT).hl w (w.setCell ⟨h.t, i * 5 + j, none⟩ v) := by
  have := Sep.set (A := []) (B := []) (by simpa [HT.hl] using s) (i * 5 + j) v
  rw [fm5_set hi j v hj hq] at this
  exact this
end
theorem or_name (a i : Nat) (hi : i < 256) (ha : a ≤ 1048575) : bits BinOp.or IntKind.u32 ((a * 256 : Nat) : Int) (i : Int) = ((a * 256 + i : Nat) : Int) := by
  rw [u32_or_nat _ _ (by omega) (by omega)]
  congr 1
  have := Nat.two_pow_add_eq_or_of_lt (i := 8) (b := i) (by omega) a
  rw [Nat.mul_comm] at this
  exact this.symm
theorem and_place (h : Nat) (hh : h < 4294967296) : bits BinOp.and IntKind.u32 (h : Int) 255 = ((h % 256 : Nat) : Int) := by
  have := u32_and_nat h 255 hh (by omega)
  rw [show ((255 : Nat) : Int) = 255 from rfl] at this
  rw [this]
  congr 1
  exact Nat.and_two_pow_sub_one_eq_mod h 8
set_option maxHeartbeats 400000 in
theorem hname_any {w : World} {h : HT} (s : Sep w h.hl) {i : Nat} {p : Pl} (hi : h.l[i]? = some p) (hi256 : i < 256) (ha : p.age ≤ 1048575) : Calls Tryz.prog 105 #[.pointer (some ⟨h.t, 0, none⟩), .int .i64 (i : Int)] w fun r w' => r = .returned (.int .u32 ((nm i p : Nat) : Int)) ∧ w = w' := by
  obtain ⟨-, -, -, -, c4, -⟩ := HT.cell s hi
  have HO := hidden (or_name p.age i hi256 ha)
  unfold nm
  clear s hi
  generalize p.age = a at *
  go_enter Tryz.func105, Tryz.ntmps105
  go_wp2
  go_ret
  refine ⟨?_, rfl⟩
  have e := HO.out
  rw [Int.natCast_mul] at e
  exact congrArg (fun z => Ending.returned (.int .u32 z)) e
end Go.Proofs.YtcnbbenmlffgpaaGreatDoor

/- Rows of cells that a slice has from some cell on, with room beyond: a piece of memory; append to such a row. No condition. -/
namespace Go.Proofs.YtcnbbenmlffgpaaGreatDoor
open Go.RowKit

/-- A slice that is nil, or its block, its first cell, how much it may hold. -/
abbrev OV := Option (Nat × Nat × Nat)
def ovOf (rv : OV) (n : Nat) : Value := match rv with
  | none => .slice none 0 0
  | some (g, off, cap) => .slice (some ⟨g, off, none⟩) n cap
/-- A row whose cells from off on begin with these; m cells there are from off on. -/
def isS (T : TypeId) (m off : Nat) (cs : List Value) : Obj → Prop := fun o => ∃ cur : Array Value, o = .cells cur T (0, 0) ∧ off + m ≤ cur.size ∧ (cur.toList.drop off).take cs.length = cs
def ovH (rv : OV) (T : TypeId) (size : Nat) (xs : List Value) : HL := match rv with
  | none => []
  | some (g, off, cap) => [(g, isS T (cap * size) off xs)]
def ovOk (rv : OV) (n : Nat) : Prop := match rv with
  | none => n = 0
  | some (_, _, cap) => n ≤ cap ∧ cap ≤ maxLen
theorem ov_cell {w : World} {g off cap : Nat} {T : TypeId} {size : Nat} {xs : List Value} (h : Sep w (ovH (some (g, off, cap)) T size xs)) (j : Nat) (v : Value) (hv : xs[j]? = some v) : w.cell? ⟨g, off + j, none⟩ = some v := by
  obtain ⟨o, ho, cur, rfl, hn, hr⟩ := h.get (b := g) (q := isS T (cap * size) off xs) (by simp [ovH])
  rw [← hr, List.getElem?_take] at hv
  split at hv
  · rw [List.getElem?_drop] at hv
    simp only [World.cell?, ho, Option.isSome_none, Bool.false_eq_true, if_false]
    rw [← Array.getElem?_toList]; exact hv
  · cases hv
theorem ov_free {w : World} {g off cap : Nat} {T : TypeId} {size : Nat} {xs : List Value} (h : Sep w (ovH (some (g, off, cap)) T size xs)) (j : Nat) : w.frozen? ⟨g, j, none⟩ = false := by
  obtain ⟨o, ho, cur, rfl, hn, hr⟩ := h.get (b := g) (q := isS T (cap * size) off xs) (by simp [ovH])
  simp [World.frozen?, ho]
/-- Of a block less is said. -/
theorem Sep.weak {w : World} {A B : HL} {b : Nat} {q q' : Obj → Prop} (h : Sep w (A ++ (b, q) :: B)) (hq : ∀ o, q o → q' o) : Step (A ++ (b, q) :: B) (A ++ (b, q') :: B) w w := by
  obtain ⟨o, ho, hq0⟩ := h.get (b := b) (q := q) (by simp)
  exact Sep.turn h ⟨rfl, rfl, rfl, Nat.le_refl _, fun _ _ _ => rfl⟩ ⟨o, ho, hq _ hq0⟩
theorem Step.more {w w' : World} {A B H' : HL} (s : Step B H' w w') : Step (A ++ B) H' w w' :=
  ⟨s.sep, s.chg.mono fun b hb => .inl (by simp [hb]), fun b hb => by rcases s.new b hb with h' | h'; exact .inl (by simp [h']); exact .inr h'⟩
/-- The first element is left off. -/
theorem ov_tail {w : World} {B : HL} {g off cap : Nat} {T : TypeId} {size : Nat} {x xs : List Value} (h : Sep w (ovH (some (g, off, cap)) T size (x ++ xs) ++ B)) (hx : x.length = size) (hc : 1 < cap) :
    Step (ovH (some (g, off, cap)) T size (x ++ xs) ++ B) (ovH (some (g, off + size, cap - 1)) T size xs ++ B) w w := by
  refine Sep.weak (A := []) (B := B) h ?_
  rintro o ⟨cur, rfl, hn, hr⟩
  obtain ⟨c, rfl⟩ : ∃ c, cap = c + 1 := ⟨cap - 1, by omega⟩
  refine ⟨cur, rfl, ?_, ?_⟩
  · rw [Nat.add_sub_cancel]; rw [Nat.add_mul] at hn; omega
  · have e : cur.toList.drop (off + size) = (cur.toList.drop off).drop size := by rw [List.drop_drop]
    have h2 : ((cur.toList.drop off).take (x ++ xs).length).drop size = (x ++ xs).drop size := by rw [hr]
    rw [List.drop_take, List.length_append, hx, Nat.add_sub_cancel_left] at h2
    rw [e, h2, ← hx]; simp
theorem ov_tail1 {w : World} {B : HL} {g off : Nat} {T : TypeId} {size : Nat} {x : List Value} (h : Sep w (ovH (some (g, off, 1)) T size x ++ B)) :
    Step (ovH (some (g, off, 1)) T size x ++ B) (ovH (some (g, off, 0)) T size [] ++ B) w w := by
  refine Sep.weak (A := []) (B := B) h ?_
  rintro o ⟨cur, rfl, hn, hr⟩
  exact ⟨cur, rfl, by omega, by simp⟩
/-- Append. -/
theorem ov_append {P : Program} {w : World} {B : HL} {rv : OV} {T t ty : TypeId} {size n m : Nat} {xs news : List Value} (h : Sep w (ovH rv T size xs ++ B)) (hok : ovOk rv n) (hl : xs.length = n * size)
    (i : TypeInfo) (z : Value) (bytes : Nat) (ht : P.underlying t = some (.slice T)) (hi : P.info? T = some i) (hz : i.zero = some z) (hsize : i.size = size) (hby : i.bytes = bytes) (hzs : z.cells.size = size)
    (x : Value) (hs : Src P size t x m news w) (hm : 0 < m) (hlen : n + m ≤ 1048576) (hb : bytes ≤ 64) :
    ∃ rv' w', (Builtin.append_ #[t, t] ty #[ovOf rv n, x]).run P w = .ok (ovOf rv' (n + m)) w' ∧ ovOk rv' (n + m) ∧ Step (ovH rv T size xs ++ B) (ovH rv' T size (xs ++ news) ++ B) w w' := by
  subst hsize
  subst hby
  have hnl := hs.newsLen
  have hl2 : (xs ++ news).length = (n + m) * i.size := by rw [List.length_append, hl, hnl, Nat.add_mul]
  have hbytes : (n + m) * i.bytes ≤ 140737488355328 := Nat.le_trans (Nat.mul_le_mul hlen hb) (by decide)
  -- a new row
  have grown : ∀ (bs : Option Addr) (sc : Nat), ovOf rv n = .slice bs n sc → sc < n + m → (Builtin.firstCells i.size n (.slice bs n sc)).run P w.drew = .ok xs.toArray w.drew →
      ∃ rv' w', (Builtin.append_ #[t, t] ty #[ovOf rv n, x]).run P w = .ok (ovOf rv' (n + m)) w' ∧ ovOk rv' (n + m) ∧ Step (ovH rv T i.size xs ++ B) (ovH rv' T i.size (xs ++ news) ++ B) w w' := by
    intro bs sc he hsc hold
    have hrun := run_append_grow_src (P := P) w t t ty T i z ht hi hz bs n sc xs hold x m news hs hsc (by omega) (growslice_fits (by omega) hbytes)
    have hge := grownCap_ge w (n + m) sc T
    have hcm : grownCap w (n + m) sc T ≤ maxLen := grownCap_le_maxLen w (n + m) sc T (by unfold maxLen; omega)
    obtain ⟨cap, hcap⟩ : ∃ cap, cap = grownCap w (n + m) sc T := ⟨_, rfl⟩
    rw [← hcap] at hrun hge hcm
    refine ⟨some (w.heap.size, 0, cap), _, by rw [he]; exact hrun, ⟨hge, hcm⟩, ?_⟩
    refine Step.more ?_
    have s1 := (h.right.drew.new T ((xs ++ news).toArray ++ Builtin.zeroCells z.cells (cap - (n + m))).toList).from_drew
    rw [Array.toArray_toList] at s1
    refine s1.trans (Sep.weak (A := []) s1.sep ?_)
    rintro o rfl
    refine ⟨_, rfl, ?_, ?_⟩
    · simp only [Array.toArray_toList, Array.size_append, List.size_toArray, size_zeroCells, hzs, hl2, ← Nat.add_mul]
      rw [Nat.zero_add]; exact Nat.mul_le_mul_right _ (by omega)
    · simp only [Array.toArray_toList, Array.toList_append, List.drop_zero]
      exact List.take_left
  cases rv with
  | none =>
    have h0 : n = 0 := hok
    subst h0
    have hx : xs = [] := List.eq_nil_of_length_eq_zero (by simpa using hl)
    subst hx
    exact grown none 0 rfl (by omega) (run_firstCells_none w.drew i.size 0 0 0)
  | some p =>
    obtain ⟨g, off, cap⟩ := p
    obtain ⟨hc1, hc2⟩ := hok
    by_cases hroom : n + m ≤ cap
    · obtain ⟨o, ho, cur, rfl, hn, hr⟩ := h.left.get (b := g) (q := isS T (cap * i.size) off xs) (by simp [ovH])
      have hle : (n + m) * i.size ≤ cap * i.size := Nat.mul_le_mul_right _ hroom
      have hfit : off + n * i.size + news.length ≤ cur.size := by rw [hnl]; rw [Nat.add_mul] at hle; omega
      have hst := run_storeCells_at P g (off + n * i.size) T news 0 cur w ho (by simpa using hfit) hs.one
      simp only [Nat.add_zero] at hst
      refine ⟨some (g, off, cap), w.setRow g (cur.toList.take (off + n * i.size) ++ news ++ cur.toList.drop (off + n * i.size + news.length)).toArray, ?_, ⟨hroom, hc2⟩, ?_⟩
      · unfold ovOf
        rcases hs.kind with ⟨e', hk⟩ | hk <;> simp [Builtin.append_, run_underlying ht, run_underlying hk, sizeOf, typeInfo, hi, hs.len, hroom, hs.cells, Addr.add_lit, hst]
      · refine Sep.turn (A := []) h ⟨rfl, rfl, rfl, by simp, fun k _ hk => setRow_other w g k _ (fun e => hk (by simp [e]))⟩ ⟨_, setRow_heap w g cur _ T _ ho, _, rfl, ?_, ?_⟩
        · simp only [List.size_toArray, List.length_append, List.length_take, List.length_drop, Array.length_toList]
          omega
        · have e1 : (cur.toList.take (off + n * i.size)).drop off = xs := by
            rw [List.drop_take, Nat.add_sub_cancel_left, ← hl]; exact hr
          have e2 : off ≤ (cur.toList.take (off + n * i.size)).length := by
            simp only [List.length_take, Array.length_toList]; omega
          show (List.drop off (_ ++ news ++ _)).take _ = _
          rw [List.append_assoc, List.drop_append_of_le_length e2, e1, ← List.append_assoc]
          exact List.take_left
    · refine grown (some ⟨g, off, none⟩) cap rfl (by omega) ?_
      refine run_firstCells_some w.drew i.size n ⟨g, off, none⟩ n cap xs hl (fun j u hu => ?_)
      rw [Addr.add_lit]
      exact ov_cell h.left j u hu
end Go.Proofs.YtcnbbenmlffgpaaGreatDoor

/- The core in memory: its blocks, what it keeps to, what lies between two of its states. No condition. -/
namespace Go.Proofs.YtcnbbenmlffgpaaGreatDoor
open Go.RowKit

/-- A core: its block, its pool, its table of handles, its queue (handles with the ticks they are due at). -/
structure CO where
  c : Nat
  P : PL
  t : Nat
  l : List Pl
  g : Nat
  period : Nat
  now : Nat
  rv : OV
  ts : List (Nat × Nat)
def tcells (ts : List (Nat × Nat)) : List Value := ts.flatMap fun x => [.int .i64 (x.1 : Int), .int .i64 (x.2 : Int)]
def qhl (g period now : Nat) (rv : OV) (ts : List (Nat × Nat)) : HL := (g, isC 185 [.int .i64 (period : Int), .int .i64 (now : Int), ovOf rv ts.length]) :: ovH rv 200 2 (tcells ts)
def CO.qh (S : CO) : HL := qhl S.g S.period S.now S.rv S.ts
def CO.ht (S : CO) : HT := ⟨S.t, S.l⟩
def CO.head (S : CO) : Nat × (Obj → Prop) := (S.c, isC 115 [ptr S.P.p, ptr S.t, ptr S.g])
def CO.hl (S : CO) : HL := S.head :: (S.P.hl ++ (S.ht.hl ++ S.qh))
structure CO.Ok (S : CO) (fr : List Nat) (N K : Nat) : Prop where
  inv : Inv S.P S.l fr x0 (S.ts.map Prod.fst)
  per : 1 ≤ S.period ∧ S.period ≤ 16
  due : ∀ x ∈ S.ts, S.now < x.2 ∧ x.2 ≤ S.now + S.period
  ord : S.ts.Pairwise (fun a b => a.2 ≤ b.2)
  ov : ovOk S.rv S.ts.length
  next : S.P.q.next ≤ N
  now : S.now ≤ K
  age : ∀ p ∈ S.l, p.age ≤ S.now
/-- What lies between two states. -/
structure Went (S S' : CO) : Prop where
  c : S'.c = S.c
  t : S'.t = S.t
  g : S'.g = S.g
  per : S'.period = S.period
  same : SameP S.P S'.P
  now : S.now ≤ S'.now
  age : ∀ (i : Nat) (p : Pl), S.l[i]? = some p → ∃ p' : Pl, S'.l[i]? = some p' ∧ p.age ≤ p'.age
  queue : S'.now = S.now → ∃ T, S'.ts = S.ts ++ T ∧ ∀ x ∈ T, x.2 = S.now + S.period
  root : S'.l[0]? = S.l[0]?
  high : ∀ j, 6 ≤ j → (S'.P.usedOf j).Perm (S.P.usedOf j)
  zombie : S'.now = S.now → ∀ (x : Nat) (p : Pl), pget S.l 2 x = some p → pget S'.l 2 x = some p ∧ Kept S.P.a.mem S'.P.a.mem p.at_ (costK p.kind)
theorem Went.refl (S : CO) : Went S S := ⟨rfl, rfl, rfl, rfl, SameP.refl _, Nat.le_refl _, fun _ p h => ⟨p, h, Nat.le_refl _⟩, fun _ => ⟨[], by simp, by simp⟩, rfl, fun _ _ => List.Perm.refl _, fun _ _ _ h => ⟨h, Kept.refl _ _ _⟩⟩
theorem Went.trans {S S1 S2 : CO} (h : Went S S1) (k : Went S1 S2) : Went S S2 := by
  refine ⟨k.c.trans h.c, k.t.trans h.t, k.g.trans h.g, k.per.trans h.per, h.same.trans k.same, Nat.le_trans h.now k.now, fun i p hp => ?_, fun e => ?_, k.root.trans h.root, fun j hj => (k.high j hj).trans (h.high j hj), fun e x p hp => ?_⟩
  · obtain ⟨p1, a1, a2⟩ := h.age i p hp
    obtain ⟨p2, b1, b2⟩ := k.age i p1 a1
    exact ⟨p2, b1, Nat.le_trans a2 b2⟩
  · have h1 := h.now
    have h2 := k.now
    obtain ⟨T, e1, e2⟩ := h.queue (by omega)
    obtain ⟨U, e3, e4⟩ := k.queue (by omega)
    refine ⟨T ++ U, by rw [e3, e1, List.append_assoc], fun x hx => ?_⟩
    rcases List.mem_append.1 hx with hx | hx
    · exact e2 x hx
    · rw [e4 x hx, h.per]; omega
  · have h1 := h.now
    have h2 := k.now
    obtain ⟨a1, a2⟩ := h.zombie (by omega) x p hp
    obtain ⟨b1, b2⟩ := k.zombie (by omega) x p a1
    exact ⟨b1, a2.trans b2⟩
theorem CO.permP (S : CO) : S.hl.Perm (S.P.hl ++ (S.head :: (S.ht.hl ++ S.qh))) := by
  unfold CO.hl
  exact List.perm_middle.symm
theorem CO.permT (S : CO) : S.hl.Perm (S.ht.hl ++ (S.head :: (S.P.hl ++ S.qh))) := by
  unfold CO.hl
  refine (List.Perm.cons _ ?_).trans List.perm_middle.symm
  rw [← List.append_assoc, ← List.append_assoc]
  exact List.perm_append_comm.append_right _
theorem CO.permG (S : CO) : S.hl.Perm (S.qh ++ (S.head :: (S.P.hl ++ S.ht.hl))) := by
  unfold CO.hl
  refine (List.Perm.cons _ ?_).trans List.perm_middle.symm
  rw [← List.append_assoc]
  exact List.perm_append_comm
section
variable {w : World} {S : CO}
theorem CO.sP (h : Sep w S.hl) : Sep w S.P.hl := h.part S.permP
theorem CO.sT (h : Sep w S.hl) : Sep w S.ht.hl := h.part S.permT
theorem CO.sG (h : Sep w S.hl) : Sep w S.qh := h.part S.permG
theorem CO.cells (h : Sep w S.hl) : Cells w S.c 115 [ptr S.P.p, ptr S.t, ptr S.g] := h.cells (by simp [CO.hl, CO.head])
theorem CO.c0 (h : Sep w S.hl) : w.cell? ⟨S.c, 0, none⟩ = some (.pointer (some ⟨S.P.p, 0, none⟩)) := (CO.cells h).cell 0 _ rfl
theorem CO.c1 (h : Sep w S.hl) : w.cell? ⟨S.c, 1, none⟩ = some (.pointer (some ⟨S.t, 0, none⟩)) := (CO.cells h).cell 1 _ rfl
theorem CO.c2 (h : Sep w S.hl) : w.cell? ⟨S.c, 2, none⟩ = some (.pointer (some ⟨S.g, 0, none⟩)) := (CO.cells h).cell 2 _ rfl
end
def CO.setP (S : CO) (P : PL) : CO := { S with P := P }
def CO.setL (S : CO) (l : List Pl) : CO := { S with l := l }
def CO.setG (S : CO) (now : Nat) (rv : OV) (ts : List (Nat × Nat)) : CO := { S with now := now, rv := rv, ts := ts }
theorem CO.stepP {w w' : World} {S : CO} (h : Sep w S.hl) (P : PL) (e : P.p = S.P.p) (s : Step S.P.hl P.hl w w') : Step S.hl (S.setP P).hl w w' := by
  have hp := (S.setP P).permP
  have e1 : (S.setP P).head = S.head := by unfold CO.head CO.setP; rw [e]
  rw [e1] at hp
  exact Step.lift S.permP hp h s
theorem CO.stepL {w w' : World} {S : CO} (h : Sep w S.hl) (l : List Pl) (s : Step S.ht.hl (⟨S.t, l⟩ : HT).hl w w') : Step S.hl (S.setL l).hl w w' :=
  Step.lift S.permT (S.setL l).permT h s
theorem CO.stepG {w w' : World} {S : CO} (h : Sep w S.hl) (now : Nat) (rv : OV) (ts : List (Nat × Nat)) (s : Step S.qh (qhl S.g S.period now rv ts) w w') : Step S.hl (S.setG now rv ts).hl w w' :=
  Step.lift S.permG (S.setG now rv ts).permG h s
end Go.Proofs.YtcnbbenmlffgpaaGreatDoor

/- Frames: pages that are taken off the allocator for themselves, cleared, and given back: what that leaves of the pool. No condition. -/
namespace Go.Proofs.YtcnbbenmlffgpaaGreatDoor
open Go.RowKit

def PL.setD (P : PL) (d : BD) : PL := { P with d := d }
theorem PL.stepD {w w' : World} {P : PL} (h : Sep w P.hl) (d : BD) (e : d.b = P.d.b) (s : Step P.d.hl d.hl w w') : Step P.hl (P.setD d).hl w w' := by
  have hp' := PL.permD (P.setD d)
  have e1 : (P.setD d).cells = P.cells := by unfold PL.cells PL.setD; simp only [e]
  rw [e1] at hp'
  exact Step.lift (PL.permD P) hp' h s
theorem PL.ok_setD {P : PL} {fr fr' : List Nat} (ok : P.Ok fr) {d : BD} (h1 : d.b = P.d.b) (h2 : d.top = P.d.top) (h3 : d.At) (h4 : (fr' ++ P.pages).Perm d.ps) : (P.setD d).Ok fr' := by
  refine ⟨ok.q, h3, ?_, ?_, ok.bytes, ok.len, fun k c hc => ?_, h4, ok.busy⟩
  · show P.a.mem.length = 2 ^ (d.top + 10)
    rw [h2]; exact ok.mem
  · show 6 ≤ d.top
    rw [h2]; exact ok.top
  · obtain ⟨a1, a2, a3⟩ := ok.c k c hc
    exact ⟨a1, a2, by show c.bb = d.b; rw [h1]; exact a3⟩
theorem usedOf_setD (P : PL) (d : BD) (k : Nat) : (P.setD d).usedOf k = P.usedOf k := rfl
theorem usedOf_setQ (P : PL) (q : QT) (k : Nat) : (P.setQ q).usedOf k = P.usedOf k := rfl
theorem usedOf_setA (P : PL) (m : List Nat) (k : Nat) : (P.setA m).usedOf k = P.usedOf k := rfl
/-- What the core asks for a frame leaves. -/
theorem frame_got {P : PL} {fr : List Nat} (ok : P.Ok fr) {own : Int} {e : En Fa} (hf : find P.q.E own = some e) (hq : (1024 : Int) ≤ e.q.limit - (e.q.charged + e.q.given)) {g : Nat} {d : BD} (h1 : d.b = P.d.b) (h2 : d.top = P.d.top) (h3 : d.ps = P.d.ps ++ [g]) (h4 : d.At) :
    GotM P fr own 8 (1024 * g) (((P.setQ { P.q with E := upd P.q.E own { e.q with charged := e.q.charged + 1024 } }).setD d).setA (put_ P.a.mem (1024 * g) (List.replicate 1024 0))) (g :: fr) := by
  obtain ⟨f1, f2, f3, f4, f5, f6, f7, f8⟩ := ok.q.fa own e hf
  have ok1 := PL.ok_setQ ok (ok_charge ok.q hf { e.q with charged := e.q.charged + 1024 } ⟨by show 0 ≤ e.q.charged + _; omega, f2, by show e.q.charged + _ + e.q.given ≤ e.q.limit; omega, rfl, rfl⟩)
  have hpg : ((g :: fr) ++ P.pages).Perm d.ps := by
    rw [h3]
    refine (ok.pages.cons g).trans ?_
    exact (List.perm_append_singleton _ _).symm
  have ok2 := PL.ok_setD (fr' := g :: fr) ok1 (d := d) h1 h2 h4 hpg
  have hg : g < 2 ^ P.d.top := by rw [← h2]; exact h4.lt g (by rw [h3]; simp)
  have hl : 1024 * g + (List.replicate 1024 0).length ≤ P.a.mem.length := by
    rw [List.length_replicate, ok.mem, Nat.pow_add, show (2 : Nat) ^ 10 = 1024 from rfl]; omega
  have hlen := put_len P.a.mem (1024 * g) (List.replicate 1024 0) hl
  have ok3 := PL.ok_setA ok2 (m := put_ P.a.mem (1024 * g) (List.replicate 1024 0)) hlen (put_bytes ok.bytes 0 (by omega))
  refine ⟨ok3, ⟨rfl, rfl, h1, rfl, rfl, h2, hlen⟩, ⟨e, hf, hq, rfl⟩, rfl, fun h => absurd rfl h, fun j _ => rfl, ?_, ?_⟩
  · rw [if_pos rfl]; exact ⟨g, rfl, rfl⟩
  · show d.ps.length ≤ _
    rw [h3]; simp
theorem frame_back {P : PL} {fr : List Nat} (ok : P.Ok fr) {own : Int} {e : En Fa} (hf : find P.q.E own = some e) (hq : (1024 : Int) ≤ e.q.charged) {g : Nat} (hg : g ∈ fr) {d : BD} (h1 : d.b = P.d.b) (h2 : d.top = P.d.top) (h3 : d.ps = P.d.ps.erase g) (h4 : d.At) :
    BackM P fr own 8 (1024 * g) ((P.setQ { P.q with E := upd P.q.E own { e.q with charged := e.q.charged - 1024 } }).setD d) (fr.erase g) := by
  obtain ⟨f1, f2, f3, f4, f5, f6, f7, f8⟩ := ok.q.fa own e hf
  have ok1 := PL.ok_setQ ok (ok_charge ok.q hf { e.q with charged := e.q.charged - 1024 } ⟨by show 0 ≤ e.q.charged - _; omega, f2, by show e.q.charged - _ + e.q.given ≤ e.q.limit; omega, rfl, rfl⟩)
  have hpg : (fr.erase g ++ P.pages).Perm d.ps := by
    rw [h3]
    have := ok.pages.erase g
    rw [List.erase_append_left _ hg] at this
    exact this
  have ok2 := PL.ok_setD (fr' := fr.erase g) ok1 (d := d) h1 h2 h4 hpg
  refine ⟨ok2, ⟨rfl, rfl, h1, rfl, rfl, h2, rfl⟩, ⟨e, hf, hq, rfl⟩, rfl, fun h => absurd rfl h, fun j _ => rfl, ?_, ?_⟩
  · rw [if_pos rfl]; exact ⟨g, rfl, rfl⟩
  · show d.ps.length ≤ _
    rw [h3]; exact List.length_erase_le
/-- All pages are used. -/
def NoPage (P : PL) : Prop := ∀ p, p < 2 ^ P.d.top → p ∈ P.d.ps
theorem NoPage.len {P : PL} (h : NoPage P) : 2 ^ P.d.top ≤ P.d.ps.length := by
  have h1 : (List.range (2 ^ P.d.top)).Nodup := List.nodup_range
  have h2 := h1.length_le_of_subset (l₂ := P.d.ps) (fun x hx => h x (List.mem_range.1 hx))
  simpa using h2
theorem NoRoom.page {P : PL} {n : Nat} (h : NoRoom P n) : NoPage P := by
  obtain ⟨c, _, _, hn⟩ := h
  exact fun p hp => none_free hn hp
/-- The pages that the allocator may take: some, or none. -/
theorem take_case (d : BD) : (∀ k, k ≤ d.top → fstG (fre (uOf d.ps) d.top) d.top k 0 = none) ∨ ∃ k0 i0, k0 ≤ d.top ∧ fstG (fre (uOf d.ps) d.top) d.top k0 0 = some i0 ∧ ∀ k, k < k0 → fstG (fre (uOf d.ps) d.top) d.top k 0 = none := by
  have key : ∀ n, (∀ k, k < n → fstG (fre (uOf d.ps) d.top) d.top k 0 = none) ∨ ∃ k0 i0, k0 < n ∧ fstG (fre (uOf d.ps) d.top) d.top k0 0 = some i0 ∧ ∀ k, k < k0 → fstG (fre (uOf d.ps) d.top) d.top k 0 = none := by
    intro n
    induction n with
    | zero => left; intro k hk; omega
    | succ n ih =>
      rcases ih with h | ⟨k0, i0, h1, h2, h3⟩
      · cases hc : fstG (fre (uOf d.ps) d.top) d.top n 0 with
        | none =>
          left
          intro k hk
          by_cases e : k = n
          · rw [e]; exact hc
          · exact h k (by omega)
        | some i => right; exact ⟨n, i, by omega, hc, h⟩
      · right; exact ⟨k0, i0, by omega, h2, h3⟩
  rcases key (d.top + 1) with h | ⟨k0, i0, h1, h2, h3⟩
  · left; exact fun k hk => h k (by omega)
  · right; exact ⟨k0, i0, by omega, h2, h3⟩
end Go.Proofs.YtcnbbenmlffgpaaGreatDoor

/- What a making, a dooming and a tick leave of a core, as plain data. No condition. -/
namespace Go.Proofs.YtcnbbenmlffgpaaGreatDoor
open Go.RowKit

theorem root_ne {l : List Pl} {xc : Int → Int} {zs : List Nat} (u : QueI l xc zs) {i : Nat} {p : Pl} (hi : l[i]? = some p) (hp : p.st ≠ 1) : i ≠ 0 := by
  obtain ⟨r, r1, _, _, r4, _, _⟩ := u.root
  rintro rfl
  rw [r1] at hi; cases hi
  exact hp r4
theorem root_name {l : List Pl} {xc : Int → Int} {zs : List Nat} (u : QueI l xc zs) {h : Nat} {p : Pl} (hp : pget l 1 h = some p) (h0 : h ≠ 0) : h % 256 ≠ 0 := by
  obtain ⟨r, r1, _, _, r4, r5, _⟩ := u.root
  obtain ⟨hi, hn, _⟩ := pget_some.1 hp
  intro e
  rw [e] at hi hn
  rw [r1] at hi; cases hi
  unfold nm at hn
  omega
theorem CO.Ok.made {S : CO} {fr fr' : List Nat} {N N' K : Nat} (ok : S.Ok fr N K) {P' : PL} {l' : List Pl} (hi : Inv P' l' fr' x0 (S.ts.map Prod.fst)) (hn : P'.q.next ≤ N') (ha : ∀ p ∈ l', p.age ≤ S.now) : ((S.setP P').setL l').Ok fr' N' K :=
  ⟨hi, ok.per, ok.due, ok.ord, ok.ov, hn, ok.now, ha⟩
theorem age_set {l : List Pl} {i n : Nat} {q : Pl} (h : ∀ p ∈ l, p.age ≤ n) (hq : q.age ≤ n) : ∀ p ∈ l.set i q, p.age ≤ n := fun p hp => by
  rcases mem_of_set hp with rfl | hp
  · exact hq
  · exact h p hp
theorem age_went {l : List Pl} {i : Nat} {p q : Pl} (hi : l[i]? = some p) (h : p.age ≤ q.age) : ∀ (j : Nat) (r : Pl), l[j]? = some r → ∃ r' : Pl, (l.set i q)[j]? = some r' ∧ r.age ≤ r'.age := fun j r hr => by
  by_cases e : i = j
  · subst e
    rw [hi] at hr; cases hr
    exact ⟨q, List.getElem?_set_self (List.getElem?_eq_some_iff.1 hi).1, h⟩
  · exact ⟨r, by rw [List.getElem?_set_ne e]; exact hr, Nat.le_refl _⟩
theorem Went.made {S : CO} {fr : List Nat} {N K : Nat} (ok : S.Ok fr N K) {P' : PL} (hs : SameP S.P P') {i : Nat} {p q : Pl} (hi : S.l[i]? = some p) (hp : p.st = 0) (hq : q.age = p.age) (hk : KeptL S.P.a.mem P'.a.mem S.l) (hh : ∀ j, 6 ≤ j → (P'.usedOf j).Perm (S.P.usedOf j)) : Went S ((S.setP P').setL (S.l.set i q)) := by
  have hi0 := root_ne ok.inv.que hi (by omega)
  refine ⟨rfl, rfl, rfl, rfl, hs, Nat.le_refl _, age_went hi (by omega), fun _ => ⟨[], by simp [CO.setL, CO.setP], by simp⟩, List.getElem?_set_ne hi0, hh, fun _ x r hr => ?_⟩
  obtain ⟨a, b, c⟩ := pget_some.1 hr
  refine ⟨?_, hk r (pget_mem hr) (Pl.is_iff.2 (.inr c))⟩
  show pget (S.l.set i q) 2 x = some r
  rw [pget_set q hi, if_neg]
  · exact hr
  · intro e
    rw [e, hi] at a; cases a; omega
theorem Went.tried {S : CO} {P' : PL} {fr : List Nat} (t : Tried S.P fr S.l P') : Went S (S.setP P') :=
  ⟨rfl, rfl, rfl, rfl, t.same, Nat.le_refl _, fun _ p h => ⟨p, h, Nat.le_refl _⟩, fun _ => ⟨[], by simp [CO.setP], by simp⟩, rfl, fun j _ => t.used j, fun _ _ r hr => ⟨hr, t.mem r (pget_mem hr) (Pl.is_iff.2 (.inr (pget_some.1 hr).2.2))⟩⟩
theorem CO.Ok.tried {S : CO} {fr : List Nat} {N K : Nat} (ok : S.Ok fr N K) {P' : PL} (t : Tried S.P fr S.l P') : (S.setP P').Ok fr N K :=
  ⟨ok.inv.tried t, ok.per, ok.due, ok.ord, ok.ov, by show P'.q.next ≤ N; rw [t.q]; exact ok.next, ok.now, ok.age⟩
/-- A dooming. -/
def CO.doomed (S : CO) (h : Nat) (p : Pl) (rv : OV) : CO := (S.setL (S.l.set (h % 256) { p with st := 2 })).setG S.now rv (S.ts ++ [(h, S.now + S.period)])
theorem CO.Ok.doomed {S : CO} {fr : List Nat} {N K : Nat} (ok : S.Ok fr N K) {h : Nat} {p : Pl} (hp : pget S.l 1 h = some p) (h0 : h ≠ 0) (hk : kids S.l h = []) {rv : OV} (hov : ovOk rv (S.ts.length + 1)) : (S.doomed h p rv).Ok fr N K := by
  have hper := ok.per
  refine ⟨?_, ok.per, fun x hx => ?_, ?_, ?_, ok.next, ok.now, age_set ok.age (ok.age p (pget_mem hp))⟩
  · have := ok.inv.doom hp h0 hk
    show Inv S.P _ fr x0 ((S.ts ++ [_]).map Prod.fst)
    rw [List.map_append]
    exact this
  · have hx' : x ∈ S.ts ++ [(h, S.now + S.period)] := hx
    show S.now < x.2 ∧ x.2 ≤ S.now + S.period
    rcases List.mem_append.1 hx' with hx' | hx'
    · exact ok.due x hx'
    · rw [List.mem_singleton] at hx'; subst hx'
      show S.now < S.now + S.period ∧ S.now + S.period ≤ S.now + S.period
      omega
  · show (S.ts ++ [_]).Pairwise _
    rw [List.pairwise_append]
    refine ⟨ok.ord, by simp, fun x hx y hy => ?_⟩
    rw [List.mem_singleton] at hy; subst hy
    exact (ok.due x hx).2
  · show ovOk rv (S.ts ++ [_]).length
    rw [List.length_append]; exact hov
theorem Went.doomed {S : CO} {fr : List Nat} {N K : Nat} (ok : S.Ok fr N K) {h : Nat} {p : Pl} (hp : pget S.l 1 h = some p) (h0 : h ≠ 0) (rv : OV) : Went S (S.doomed h p rv) := by
  obtain ⟨hi, hn, hs⟩ := pget_some.1 hp
  refine ⟨rfl, rfl, rfl, rfl, SameP.refl _, Nat.le_refl _, age_went hi (Nat.le_refl _), fun _ => ⟨[(h, S.now + S.period)], rfl, by simp⟩, List.getElem?_set_ne (root_name ok.inv.que hp h0), fun _ _ => List.Perm.refl _, fun _ x r hr => ⟨?_, Kept.refl _ _ _⟩⟩
  show pget (S.l.set (h % 256) _) 2 x = some r
  obtain ⟨a, b, c⟩ := pget_some.1 hr
  rw [pget_set _ hi, if_neg]
  · exact hr
  · intro e
    rw [e, hi] at a; cases a; omega
/-! A tick. -/
/-- Some way into a tick: zs are still to be freed, of those that were due. -/
structure Mid (S : CO) (fr : List Nat) (N K : Nat) (zs : List Nat) : Prop where
  inv : Inv S.P S.l fr x0 (zs ++ S.ts.map Prod.fst)
  per : 1 ≤ S.period ∧ S.period ≤ 16
  due : ∀ x ∈ S.ts, S.now < x.2 ∧ x.2 ≤ S.now + S.period
  ord : S.ts.Pairwise (fun a b => a.2 ≤ b.2)
  ov : ovOk S.rv S.ts.length
  next : S.P.q.next ≤ N
  now : S.now ≤ K
  age : ∀ p ∈ S.l, p.age ≤ S.now ∧ (p.st = 2 → p.age + 1 ≤ S.now)
theorem Mid.ok {S : CO} {fr : List Nat} {N K : Nat} (m : Mid S fr N K []) : S.Ok fr N K := ⟨m.inv, m.per, m.due, m.ord, m.ov, m.next, m.now, fun p hp => (m.age p hp).1⟩
def dueN (S : CO) : List Nat := (S.ts.takeWhile fun x => decide (x.2 ≤ S.now + 1)).map Prod.fst
def dueT (S : CO) : List (Nat × Nat) := S.ts.dropWhile fun x => decide (x.2 ≤ S.now + 1)
theorem dueT_late {l : List (Nat × Nat)} (h : l.Pairwise (fun a b => a.2 ≤ b.2)) (n : Nat) : ∀ x ∈ l.dropWhile (fun x => decide (x.2 ≤ n)), n < x.2 := by
  induction l with
  | nil => simp
  | cons y r ih =>
    obtain ⟨h1, h2⟩ := List.pairwise_cons.1 h
    rw [List.dropWhile_cons]
    split
    · exact ih h2
    · rename_i hc
      simp only [decide_eq_true_eq] at hc
      intro x hx
      rcases List.mem_cons.1 hx with rfl | hx
      · omega
      · have := h1 x hx; omega
theorem due_split (S : CO) : S.ts.map Prod.fst = dueN S ++ (dueT S).map Prod.fst := by
  unfold dueN dueT
  rw [← List.map_append, List.takeWhile_append_dropWhile]
theorem CO.Ok.mid {S : CO} {fr : List Nat} {N K : Nat} (ok : S.Ok fr N K) {rv : OV} (hov : ovOk rv (dueT S).length) : Mid (S.setG (S.now + 1) rv (dueT S)) fr N (K + 1) (dueN S) := by
  refine ⟨?_, ok.per, fun x hx => ?_, ok.ord.sublist (List.dropWhile_sublist _), hov, ok.next, by have := ok.now; show S.now + 1 ≤ K + 1; omega, fun p hp => ?_⟩
  · have := ok.inv
    rw [due_split S] at this
    exact this
  · have h1 := dueT_late ok.ord (S.now + 1) x hx
    have h2 := ok.due x ((List.dropWhile_sublist _).subset hx)
    show S.now + 1 < x.2 ∧ x.2 ≤ S.now + 1 + S.period
    omega
  · have := ok.age p hp
    show p.age ≤ S.now + 1 ∧ (_ → p.age + 1 ≤ S.now + 1)
    omega
/-- What a tick leaves: D went. -/
structure Ticked (S S' : CO) (D : List Nat) : Prop where
  c : S'.c = S.c
  t : S'.t = S.t
  g : S'.g = S.g
  per : S'.period = S.period
  same : SameP S.P S'.P
  now : S'.now = S.now
  ts : S'.ts = S.ts
  rv : S'.rv = S.rv
  next : S'.P.q.next = S.P.q.next
  mem : S'.P.a.mem = S.P.a.mem
  high : ∀ j, 6 ≤ j → (S'.P.usedOf j).Perm (S.P.usedOf j)
  few : S'.P.d.ps.length ≤ S.P.d.ps.length
  age : ∀ (i : Nat) (p : Pl), S.l[i]? = some p → ∃ p' : Pl, S'.l[i]? = some p' ∧ p.age ≤ p'.age
  root : S'.l[0]? = S.l[0]?
  keep : ∀ x p, x ∉ D → pget S.l 2 x = some p → pget S'.l 2 x = some p
  gone : ∀ x ∈ D, ∃ p' : Pl, S'.l[x % 256]? = some p' ∧ x / 256 < p'.age
  live : ∀ x, pget S'.l 1 x = pget S.l 1 x
theorem Ticked.refl (S : CO) : Ticked S S [] := ⟨rfl, rfl, rfl, rfl, SameP.refl _, rfl, rfl, rfl, rfl, rfl, fun _ _ => List.Perm.refl _, Nat.le_refl _, fun _ p h => ⟨p, h, Nat.le_refl _⟩, rfl, fun _ _ _ h => h, by simp, fun _ => rfl⟩
theorem Ticked.trans {S S1 S2 : CO} {D E : List Nat} (h : Ticked S S1 D) (k : Ticked S1 S2 E) : Ticked S S2 (D ++ E) := by
  refine ⟨k.c.trans h.c, k.t.trans h.t, k.g.trans h.g, k.per.trans h.per, h.same.trans k.same, k.now.trans h.now, k.ts.trans h.ts, k.rv.trans h.rv, k.next.trans h.next, k.mem.trans h.mem, fun j hj => (k.high j hj).trans (h.high j hj), Nat.le_trans k.few h.few, fun i p hp => ?_, k.root.trans h.root, fun x p hx hp => ?_, fun x hx => ?_, fun x => (k.live x).trans (h.live x)⟩
  · obtain ⟨p1, a1, a2⟩ := h.age i p hp
    obtain ⟨p2, b1, b2⟩ := k.age i p1 a1
    exact ⟨p2, b1, Nat.le_trans a2 b2⟩
  · rw [List.mem_append, not_or] at hx
    exact k.keep x p hx.2 (h.keep x p hx.1 hp)
  · rcases List.mem_append.1 hx with hx | hx
    · obtain ⟨p1, a1, a2⟩ := h.gone x hx
      obtain ⟨p2, b1, b2⟩ := k.age _ p1 a1
      exact ⟨p2, b1, by omega⟩
    · exact k.gone x hx
/-- One is freed. -/
theorem Mid.freed {S : CO} {fr fr' : List Nat} {N K h : Nat} {zs : List Nat} (m : Mid S fr N K (h :: zs)) {p : Pl} (hp : pget S.l 2 h = some p) {P' : PL} (hs : SameP S.P P') (hmem : P'.a.mem = S.P.a.mem) (hn : P'.q.next = S.P.q.next) (hh : ∀ j, 6 ≤ j → (P'.usedOf j).Perm (S.P.usedOf j)) (hw : P'.d.ps.length ≤ S.P.d.ps.length)
    (hinv : Inv P' (S.l.set (h % 256) (noPl (p.age + 1))) fr' x0 (zs ++ S.ts.map Prod.fst)) :
    Mid ((S.setP P').setL (S.l.set (h % 256) (noPl (p.age + 1)))) fr' N K zs ∧ Ticked S ((S.setP P').setL (S.l.set (h % 256) (noPl (p.age + 1)))) [h] := by
  obtain ⟨hi, hnm, hst⟩ := pget_some.1 hp
  have ha := (m.age p (pget_mem hp)).2 hst
  refine ⟨⟨hinv, m.per, m.due, m.ord, m.ov, by show P'.q.next ≤ N; rw [hn]; exact m.next, m.now, fun q hq => ?_⟩, ⟨rfl, rfl, rfl, rfl, hs, rfl, rfl, rfl, hn, hmem, hh, hw, age_went hi (by show p.age ≤ p.age + 1; omega), List.getElem?_set_ne (root_ne m.inv.que hi (by omega)), fun x q hx hq => ?_, fun x hx => ?_, fun x => ?_⟩⟩
  · rcases mem_of_set hq with rfl | hq
    · exact ⟨ha, fun h => by cases h⟩
    · exact m.age q hq
  · show pget (S.l.set (h % 256) _) 2 x = some q
    rw [pget_set _ hi, if_neg]
    · exact hq
    · intro e
      exact hx (by rw [(pget_same hq hp e).1]; simp)
  · rw [List.mem_singleton] at hx
    subst hx
    refine ⟨noPl (p.age + 1), List.getElem?_set_self (List.getElem?_eq_some_iff.1 hi).1, ?_⟩
    show x / 256 < p.age + 1
    unfold nm at hnm
    omega
  · show pget (S.l.set (h % 256) _) 1 x = _
    rw [pget_set _ hi]
    split
    · rename_i e
      rw [if_neg (by rintro ⟨_, h⟩; cases h)]
      cases hx : pget S.l 1 x with
      | none => rfl
      | some q =>
        obtain ⟨a, b, c⟩ := pget_some.1 hx
        rw [e, hi] at a; cases a; omega
    · rfl
theorem Ticked.went {S S' : CO} {rv : OV} {D : List Nat} (t : Ticked (S.setG (S.now + 1) rv (dueT S)) S' D) : Went S S' := by
  have h0 := t.now
  have h1 : (S.setG (S.now + 1) rv (dueT S)).now = S.now + 1 := rfl
  exact ⟨t.c, t.t, t.g, t.per, t.same, by omega, t.age, fun e => by omega, t.root, t.high, fun e => by omega⟩
/-- A handle that was freed. -/
def Old (l : List Pl) (x : Nat) : Prop := ∃ p, l[x % 256]? = some p ∧ x / 256 < p.age
theorem Old.none {l : List Pl} {x : Nat} (h : Old l x) (s : Nat) : pget l s x = none := by
  obtain ⟨p, h1, h2⟩ := h
  unfold pget
  rw [h1]
  simp only
  rw [if_neg]
  rintro ⟨h3, _⟩
  unfold nm at h3
  omega
theorem Old.went {S S' : CO} {x : Nat} (h : Old S.l x) (w : Went S S') : Old S'.l x := by
  obtain ⟨p, h1, h2⟩ := h
  obtain ⟨p', a1, a2⟩ := w.age _ p h1
  exact ⟨p', a1, by omega⟩
end Go.Proofs.YtcnbbenmlffgpaaGreatDoor

/- Walk of the tree of factories' New. No condition. -/
namespace Go.Proofs.YtcnbbenmlffgpaaGreatDoor
open Go.RowKit

theorem wpList_insert_int {P : Program} (w : World) {ops : Array Oper} {rest : List Oper} {o : Oper} {a : Act} {Q : Exit → Act → World → Prop}
    (hg : o.guard = none) (m k x : Operand) (t K V : TypeId) (hop : o.op = .insert t m k x) (hT : P.underlying t = some (.map K V)) (hK : P.underlying K = some (.int .i64))
    (b : Nat) (kv : List (Int × Value)) (h : MapInt w b kv) (id : Int) (u : Value) (hm : a.eval m = .map (some b)) (hk : a.eval k = .int .i64 id) (hx : a.eval x = u)
    (hK' : ∀ w', MapInt w' b (put kv id u) → w.grownBy w' (some b) → wpList P ops Q rest (a.put o.dst undef) w') : wpList P ops Q (o :: rest) a w := by
  refine wpList_plain hg fun K' hK'' => ?_
  obtain ⟨w', hrun, r1, r2⟩ := run_mapUpdate_int (P := P) h id u hT hK
  unfold Oper.wp
  simp [execOp, hop, hm, hk, hx, hrun, Result.andThen]
  exact hK'' _ _ (hK' w' r1 r2)
def newQT (t m b : Nat) (limit : Int) : QT := ⟨t, m, [⟨0, b, ⟨limit, 0, 0, -1, 0⟩⟩], 1⟩
theorem newQT_ok (t m b : Nat) (limit : Int) (h0 : 0 ≤ limit) (h1 : limit ≤ 1073741824) : (newQT t m b limit).Ok := by
  refine ⟨by simp [newQT], by simp [newQT], by simp [newQT], fun id e he => ?_⟩
  simp only [newQT, find] at he
  by_cases h : id = 0
  · simp [h] at he; subst he; subst h; simp [newQT]; omega
  · simp [h] at he
def NewQ (limit : Int) (H : HL) (w : World) (r : Ending) (w' : World) : Prop := ∃ t m b, r = .returned (.pointer (some ⟨t, 0, none⟩)) ∧ Step H ((newQT t m b limit).hl ++ H) w w'
set_option maxHeartbeats 1000000 in
set_option maxRecDepth 100000 in
theorem qnew_any {w : World} {H : HL} (h : Sep w H) (limit : Int) (h0 : 0 ≤ limit) (h1 : limit ≤ 1073741824) : Calls Tryz.prog 95 #[.int .i64 limit] w (NewQ limit H w) := by
  have HR : Hid (∀ w1, MapInt w1 w.heap.size [(0, .pointer (some ⟨w.heap.size + 1, 0, none⟩))] → ((w.alloc (.map #[] 0)).alloc (.cells #[.int .i64 limit, .int .i64 0, .int .i64 0, .int .i64 (-1), .int .i64 0] 137)).grownBy w1 (some w.heap.size) →
      NewQ limit H w (.returned (.pointer (some ⟨w1.heap.size, 0, none⟩))) (w1.alloc (.cells #[.map (some w.heap.size), .int .i64 1] 172))) := fun w1 hm hg => by
    have s1 := h.newMap
    have s2 := s1.sep.new 137 [.int .i64 limit, .int .i64 0, .int .i64 0, .int .i64 (-1), .int .i64 0]
    have e1 : (w.alloc (.map #[] 0)).heap.size = w.heap.size + 1 := by simp
    rw [e1] at s2
    obtain ⟨es, clock, ho, hr⟩ := hm
    have s3 := Sep.turn (A := [(w.heap.size + 1, isC 137 [.int .i64 limit, .int .i64 0, .int .i64 0, .int .i64 (-1), .int .i64 0])]) (q' := isMI [(0, .pointer (some ⟨w.heap.size + 1, 0, none⟩))]) s2.sep hg ⟨_, ho, es, clock, rfl, hr⟩
    have s4 := s3.sep.new 172 [.map (some w.heap.size), .int .i64 1]
    refine ⟨w1.heap.size, w.heap.size, w.heap.size + 1, rfl, ?_⟩
    have := ((s1.trans s2).trans s3).trans s4
    refine this.perm (List.Perm.refl _) ?_
    simp only [newQT, QT.hl, facH, kvs, List.map_cons, List.map_nil, List.cons_append, List.nil_append, Fa.cells, ptr]
    refine List.Perm.cons _ ?_
    exact List.Perm.swap _ _ _
  have hM : MapInt ((w.alloc (.map #[] 0)).alloc (.cells #[.int .i64 limit, .int .i64 0, .int .i64 0, .int .i64 (-1), .int .i64 0] 137)) w.heap.size [] := (MapIs.new w).alloc _
  have hmm := @run_makeMap Tryz.prog
  clear h
  go_enter Tryz.func95, Tryz.ntmps95
  go_wp2_with (refine wpList_insert_int _ rfl _ _ _ 170 3 131 rfl Tryz.underlying170 Tryz.underlying3 w.heap.size [] hM 0 (.pointer (some ⟨w.heap.size + 1, 0, none⟩)) rfl rfl rfl ?_; intro w1 hm1 hg1; have HR1 := hidden (HR.out w1 hm1 hg1); clear hm1 hg1)
  go_ret
  exact HR1.out
end Go.Proofs.YtcnbbenmlffgpaaGreatDoor
