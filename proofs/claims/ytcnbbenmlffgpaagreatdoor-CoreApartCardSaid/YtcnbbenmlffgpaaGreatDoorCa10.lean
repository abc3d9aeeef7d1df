/- CoreApart returns true at every input. No condition. Part of its proof. -/
import Derived.Test.YtcnbbenmlffgpaaGreatDoorCa09
set_option linter.unusedVariables false
/- The core's objects as plain data: a making, a dooming and a freeing keep to all that is kept to. No condition. -/
namespace Go.Proofs.YtcnbbenmlffgpaaGreatDoor
open Go.RowKit

/-! The memory. -/
structure GrewM (P : PL) (fr : List Nat) (k a own : Nat) (P' : PL) (fr' : List Nat) : Prop where
  pool : P'.Ok fr'
  used : k ≠ 8 → (P'.usedOf k).Perm (a :: P.usedOf k)
  other : ∀ j, j ≠ k → P'.usedOf j = P.usedOf j
  frs : if k = 8 then ∃ g, a = 1024 * g ∧ fr' = g :: fr else fr' = fr
  mem : ∀ b ∈ P.usedOf 1, word8 P'.a.mem b = word8 P.a.mem b
  own : k = 1 → word8 P'.a.mem a = own
structure GoneM (P : PL) (fr : List Nat) (k a : Nat) (P' : PL) (fr' : List Nat) : Prop where
  pool : P'.Ok fr'
  used : k ≠ 8 → (P.usedOf k).Perm (a :: P'.usedOf k)
  other : ∀ j, j ≠ k → P'.usedOf j = P.usedOf j
  frs : if k = 8 then ∃ g, a = 1024 * g ∧ fr' = fr.erase g else fr' = fr
  mem : ∀ b ∈ P'.usedOf 1, word8 P'.a.mem b = word8 P.a.mem b
theorem atsF_none {p : Pl} (k : Nat) (h : p.is = false) : atsF k p = none := by simp [atsF, h]
theorem atsF_ne {p : Pl} {k : Nat} (h : p.kind ≠ k) : atsF k p = none := by simp [atsF, h]
theorem MemI.add {P P' : PL} {l : List Pl} {fr fr' : List Nat} (m : MemI P l fr) {i : Nat} {p q : Pl} (g : GrewM P fr q.kind q.at_ q.own P' fr') (hi : l[i]? = some p) (hp : p.is = false) (hq : q.is = true) (hk : q.kind = 8 ∨ (1 ≤ q.kind ∧ q.kind ≤ 5)) : MemI P' (l.set i q) fr' := by
  refine ⟨g.pool, fun r hr his => ?_, fun k h1 h5 => ?_, ?_, fun r hr his hk1 => ?_⟩
  · rcases mem_of_set hr with rfl | hr
    · exact hk
    · exact m.kind r hr his
  · by_cases e : q.kind = k
    · subst e
      have := fmp_add (atsF q.kind) hi (atsF_none _ hp) (atsF_some hq)
      exact this.trans (((m.ats _ h1 h5).cons _).trans (g.used (by omega)).symm)
    · rw [g.other k fun h => e h.symm]
      exact (fmp_keep (atsF k) hi (by rw [atsF_ne e, atsF_none _ hp])).trans (m.ats k h1 h5)
  · by_cases e : q.kind = 8
    · have hf := g.frs
      rw [if_pos e] at hf
      obtain ⟨x, hx, rfl⟩ := hf
      have := fmp_add (atsF 8) hi (atsF_none _ hp) (by rw [← e]; exact atsF_some hq)
      refine this.trans ?_
      rw [hx]
      exact m.frs.cons _
    · have hf := g.frs
      rw [if_neg e] at hf
      rw [hf]
      exact (fmp_keep (atsF 8) hi (by rw [atsF_ne e, atsF_none _ hp])).trans m.frs
  · rcases mem_of_set hr with rfl | hr
    · exact g.own hk1
    · rw [g.mem _ (by have := m.used hr his (by omega); rwa [hk1] at this)]
      exact m.word r hr his hk1
theorem MemI.drop {P P' : PL} {l : List Pl} {fr fr' : List Nat} (m : MemI P l fr) {i : Nat} {p q : Pl} (g : GoneM P fr p.kind p.at_ P' fr') (hi : l[i]? = some p) (hp : p.is = true) (hq : q.is = false) : MemI P' (l.set i q) fr' := by
  have hpm := List.mem_of_getElem? hi
  have hats : ∀ k, 1 ≤ k → k ≤ 5 → (atsOf (l.set i q) k).Perm (P'.usedOf k) := by
    intro k h1 h5
    by_cases e : p.kind = k
    · subst e
      have h := fmp_drop (q := q) (atsF p.kind) hi (atsF_some hp) (atsF_none _ hq)
      have h2 := h.symm.trans ((m.ats _ h1 h5).trans (g.used (by omega)))
      exact List.Perm.cons_inv h2
    · rw [g.other k fun h => e h.symm]
      exact (fmp_keep (atsF k) hi (by rw [atsF_ne e, atsF_none _ hq])).trans (m.ats k h1 h5)
  refine ⟨g.pool, fun r hr his => ?_, hats, ?_, fun r hr his hk1 => ?_⟩
  · rcases mem_of_set hr with rfl | hr
    · rw [hq] at his; cases his
    · exact m.kind r hr his
  · by_cases e : p.kind = 8
    · have hf := g.frs
      rw [if_pos e] at hf
      obtain ⟨x, hx, rfl⟩ := hf
      obtain ⟨y, hy, ey⟩ := m.frame hpm hp e
      have hxy : x = y := by omega
      subst hxy
      have h := fmp_drop (q := q) (atsF 8) hi (by rw [← e]; exact atsF_some hp) (atsF_none _ hq)
      have h3 := (List.perm_cons_erase hy).map (1024 * ·)
      have h2 := h.symm.trans (m.frs.trans h3)
      rw [List.map_cons, ← hx] at h2
      exact List.Perm.cons_inv h2
    · have hf := g.frs
      rw [if_neg e] at hf
      rw [hf]
      exact (fmp_keep (atsF 8) hi (by rw [atsF_ne e, atsF_none _ hq])).trans m.frs
  · have hu : r.at_ ∈ P'.usedOf 1 := by
      refine (hats 1 (by omega) (by omega)).mem_iff.1 (List.mem_filterMap.2 ⟨r, hr, ?_⟩)
      rw [← hk1]; exact atsF_some his
    rcases mem_of_set hr with rfl | hr
    · rw [hq] at his; cases his
    · rw [g.mem _ hu]
      exact m.word r hr his hk1
theorem MemI.keep {P : PL} {l : List Pl} {fr : List Nat} (m : MemI P l fr) {i : Nat} {p q : Pl} (hi : l[i]? = some p) (hp : p.is = true) (hq : q.is = true) (h1 : q.kind = p.kind) (h2 : q.at_ = p.at_) (h3 : q.own = p.own) : MemI P (l.set i q) fr := by
  have hpm := List.mem_of_getElem? hi
  have e : ∀ k, atsF k q = atsF k p := fun k => by unfold atsF; rw [hp, hq, h1, h2]
  refine ⟨m.pool, fun r hr his => ?_, fun k h1 h5 => (fmp_keep (atsF k) hi (e k)).trans (m.ats k h1 h5), (fmp_keep (atsF 8) hi (e 8)).trans m.frs, fun r hr his hk1 => ?_⟩
  · rcases mem_of_set hr with rfl | hr
    · rw [h1]; exact m.kind p hpm hp
    · exact m.kind r hr his
  · rcases mem_of_set hr with rfl | hr
    · rw [h2, h3]; exact m.word p hpm hp (by omega)
    · exact m.word r hr his hk1
theorem MemI.same {P P' : PL} {l : List Pl} {fr : List Nat} (m : MemI P l fr) (h : P'.Ok fr) (hu : ∀ k, 1 ≤ k → k ≤ 5 → P'.usedOf k = P.usedOf k) (hw : ∀ b ∈ P.usedOf 1, word8 P'.a.mem b = word8 P.a.mem b) : MemI P' l fr := by
  refine ⟨h, m.kind, fun k h1 h5 => by rw [hu k h1 h5]; exact m.ats k h1 h5, m.frs, fun r hr his hk1 => ?_⟩
  rw [hw _ (by have := m.used hr his (by omega); rwa [hk1] at this)]
  exact m.word r hr his hk1
/-! The accounts. -/
theorem costP_none {p : Pl} (a : Int) (h : p.is = false) : costP a p = 0 := by simp [costP, h]
theorem costP_some {p : Pl} (a : Int) (h : p.is = true) : costP a p = if (p.fac : Int) = a then (costK p.kind : Int) else 0 := by simp [costP, h]
theorem TreI.addN {E : List (En Fa)} {l : List Pl} {xc : Int → Int} (t : TreI E l xc) (hids : E.Pairwise (fun a b => a.id ≠ b.id)) {i : Nat} {p q : Pl} (hi : l[i]? = some p) (hp : p.is = false) (hq : q.is = true) (hk : q.kind ≠ 1) {e : En Fa} (hf : find E q.fac = some e) :
    TreI (upd E q.fac { e.q with charged := e.q.charged + (costK q.kind : Int) }) (l.set i q) xc := by
  have ho : ownF q = ownF p := by simp [ownF, hp, hk]
  have hgs : ∀ a, givSum (upd E q.fac { e.q with charged := e.q.charged + (costK q.kind : Int) }) a = givSum E a := fun a => sum_upd hids hf _ _ rfl
  have hkc : ∀ a, kidCnt (upd E q.fac { e.q with charged := e.q.charged + (costK q.kind : Int) }) a = kidCnt E a := fun a => sum_upd hids hf _ _ rfl
  refine ⟨?_, fun r hr his => ?_, fun r hr his hk1 x hx => ?_, fun id x hx => ?_, fun id x hx => ?_⟩
  · rw [map_id_upd]
    exact t.ids.trans (fmp_keep ownF hi ho).symm
  · rcases mem_of_set hr with rfl | hr
    · exact find_upd_fwd _ hf
    · obtain ⟨y, hy⟩ := t.fac r hr his
      exact find_upd_fwd _ hy
  · rcases mem_of_set hr with rfl | hr
    · exact absurd hk1 hk
    · obtain ⟨y, hy, h1, h2⟩ := find_upd_back _ hf hx
      have := t.par r hr his hk1 y hy
      by_cases hid : (r.own : Int) = q.fac
      · obtain ⟨rfl, e2⟩ := h1 hid
        rw [e2]; exact this
      · rw [h2 hid]; exact this
  · obtain ⟨y, hy, h1, h2⟩ := find_upd_back _ hf hx
    have hc := costSum_set q hi id
    rw [costP_none id hp, costP_some id hq] at hc
    have := t.charged id y hy
    by_cases hid : id = q.fac
    · obtain ⟨rfl, e2⟩ := h1 hid
      rw [if_pos hid.symm] at hc
      rw [e2]; show y.q.charged + _ = _; omega
    · rw [if_neg fun h => hid h.symm] at hc
      rw [h2 hid]; omega
  · obtain ⟨y, hy, h1, h2⟩ := find_upd_back _ hf hx
    rw [hgs, hkc]
    have := t.given id y hy
    by_cases hid : id = q.fac
    · obtain ⟨rfl, e2⟩ := h1 hid
      rw [e2]; exact this
    · rw [h2 hid]; exact this
theorem TreI.addF {E : List (En Fa)} {l : List Pl} {xc : Int → Int} (t : TreI E l xc) (hids : E.Pairwise (fun a b => a.id ≠ b.id)) {i b : Nat} {p q : Pl} {limit : Int} (hi : l[i]? = some p) (hp : p.is = false) (hq : q.is = true) (hk : q.kind = 1) {e : En Fa} (hf : find E q.fac = some e)
    (hno : find E q.own = none) (hlt : q.fac < q.own) (hxc : xc q.own = 0) (hne : ∀ x ∈ E, x.q.parent ≠ q.own) (hnf : ∀ r ∈ l, r.is = true → r.fac ≠ q.own) :
    TreI (upd E q.fac { e.q with charged := e.q.charged + (costK q.kind : Int), given := e.q.given + limit, kids := e.q.kids + 1 } ++ [⟨q.own, b, ⟨limit, 0, 0, q.fac, 0⟩⟩]) (l.set i q) xc := by
  obtain ⟨X, hX⟩ : ∃ X : Fa, X = { e.q with charged := e.q.charged + (costK q.kind : Int), given := e.q.given + limit, kids := e.q.kids + 1 } := ⟨_, rfl⟩
  have hXp : X.parent = e.q.parent := by rw [hX]
  have hXl : X.limit = e.q.limit := by rw [hX]
  have hXc : X.charged = e.q.charged + (costK q.kind : Int) := by rw [hX]
  have hXg : X.given = e.q.given + limit := by rw [hX]
  have hXk : X.kids = e.q.kids + 1 := by rw [hX]
  rw [← hX]
  clear hX
  have hgs : ∀ a, givSum (upd E q.fac X ++ [⟨q.own, b, ⟨limit, 0, 0, q.fac, 0⟩⟩]) a = givSum E a + if (q.fac : Int) = a then limit else 0 := fun a => by
    have : ((upd E q.fac X).map (givF a)).sum = (E.map (givF a)).sum := sum_upd hids hf _ _ (by simp [givF, hXp, hXl])
    unfold givSum
    rw [List.map_append, List.sum_append, this]
    simp [givF]
  have hkc : ∀ a, kidCnt (upd E q.fac X ++ [⟨q.own, b, ⟨limit, 0, 0, q.fac, 0⟩⟩]) a = kidCnt E a + if (q.fac : Int) = a then 1 else 0 := fun a => by
    have : ((upd E q.fac X).map (kidF a)).sum = (E.map (kidF a)).sum := sum_upd hids hf _ _ (by simp [kidF, hXp])
    unfold kidCnt
    rw [List.map_append, List.sum_append, this]
    simp [kidF]
  have hfw : ∀ j y, find E j = some y → ∃ z, find (upd E q.fac X ++ [⟨q.own, b, ⟨limit, 0, 0, q.fac, 0⟩⟩]) j = some z := fun j y hy => by
    obtain ⟨z, hz⟩ := find_upd_fwd (id := q.fac) X hy
    exact ⟨z, by rw [find_append, hz]⟩
  have hbk : ∀ j z, find (upd E q.fac X ++ [⟨q.own, b, ⟨limit, 0, 0, q.fac, 0⟩⟩]) j = some z → (j = q.own ∧ z = ⟨q.own, b, ⟨limit, 0, 0, q.fac, 0⟩⟩) ∨ (j ≠ q.own ∧ ∃ y, find E j = some y ∧ (j = q.fac → y = e ∧ z.q = X) ∧ (j ≠ q.fac → z = y)) := fun j z hz => by
    rw [find_append] at hz
    cases hu : find (upd E q.fac X) j with
    | none =>
      rw [hu] at hz
      simp only at hz
      split at hz
      · rename_i h; cases hz; exact .inl ⟨h, rfl⟩
      · cases hz
    | some y =>
      rw [hu] at hz
      cases hz
      obtain ⟨x, hx, h1, h2⟩ := find_upd_back X hf hu
      refine .inr ⟨?_, x, hx, h1, h2⟩
      rintro rfl
      rw [hno] at hx; cases hx
  refine ⟨?_, fun r hr his => ?_, fun r hr his hk1 x hx => ?_, fun id x hx => ?_, fun id x hx => ?_⟩
  · rw [List.map_append, map_id_upd]
    have h1 := fmp_add ownF hi (by simp [ownF, hp]) (ownF_some hq hk)
    exact (List.perm_append_singleton _ _).trans ((t.ids.cons _).trans h1.symm)
  · rcases mem_of_set hr with rfl | hr
    · exact hfw _ _ hf
    · obtain ⟨y, hy⟩ := t.fac r hr his
      exact hfw _ _ hy
  · rcases mem_of_set hr with rfl | hr
    · rcases hbk _ _ hx with ⟨_, rfl⟩ | ⟨h, _⟩
      · exact ⟨fun h => absurd h (by omega), fun _ => ⟨rfl, hlt⟩⟩
      · exact absurd rfl h
    · rcases hbk _ _ hx with ⟨h, _⟩ | ⟨_, y, hy, h1, h2⟩
      · obtain ⟨z, hz⟩ := t.acc hr his hk1
        rw [h, hno] at hz; cases hz
      · have := t.par r hr his hk1 y hy
        by_cases hid : (r.own : Int) = q.fac
        · obtain ⟨rfl, e2⟩ := h1 hid
          rw [e2, hXp]; exact this
        · rw [h2 hid]; exact this
  · have hc := costSum_set q hi id
    rw [costP_none id hp, costP_some id hq] at hc
    rcases hbk _ _ hx with ⟨rfl, rfl⟩ | ⟨_, y, hy, h1, h2⟩
    · rw [if_neg (by omega)] at hc
      have : costSum l q.own = 0 := costSum_zero fun r hr his e => hnf r hr his (by omega)
      show (0 : Int) = _
      rw [hxc]; omega
    · have := t.charged id y hy
      by_cases hid : id = q.fac
      · obtain ⟨rfl, e2⟩ := h1 hid
        rw [if_pos hid.symm] at hc
        rw [e2, hXc]; omega
      · rw [if_neg fun h => hid h.symm] at hc
        rw [h2 hid]; omega
  · rw [hgs, hkc]
    rcases hbk _ _ hx with ⟨rfl, rfl⟩ | ⟨_, y, hy, h1, h2⟩
    · obtain ⟨z1, z2⟩ := givSum_zero hne
      rw [z1, z2, if_neg (by omega), if_neg (by omega)]
      exact ⟨rfl, rfl⟩
    · have := t.given id y hy
      by_cases hid : id = q.fac
      · obtain ⟨rfl, e2⟩ := h1 hid
        rw [if_pos hid.symm, if_pos hid.symm, e2, hXg, hXk]
        omega
      · rw [if_neg fun h => hid h.symm, if_neg fun h => hid h.symm, h2 hid]
        omega
theorem TreI.keep {E : List (En Fa)} {l : List Pl} {xc : Int → Int} (t : TreI E l xc) {i : Nat} {p q : Pl} (hi : l[i]? = some p) (hp : p.is = true) (hq : q.is = true) (h1 : q.kind = p.kind) (h2 : q.fac = p.fac) (h3 : q.own = p.own) : TreI E (l.set i q) xc := by
  have hpm := List.mem_of_getElem? hi
  refine ⟨t.ids.trans (fmp_keep ownF hi (by unfold ownF; rw [hp, hq, h1, h3])).symm, fun r hr his => ?_, fun r hr his hk1 x hx => ?_, fun id x hx => ?_, t.given⟩
  · rcases mem_of_set hr with rfl | hr
    · rw [h2]; exact t.fac p hpm hp
    · exact t.fac r hr his
  · rcases mem_of_set hr with rfl | hr
    · rw [h2, h3]; rw [h3] at hx
      exact t.par p hpm hp (by omega) x hx
    · exact t.par r hr his hk1 x hx
  · have hc := costSum_set q hi id
    have e : costP id q = costP id p := by unfold costP; rw [hp, hq, h1, h2]
    rw [e] at hc
    have := t.charged id x hx
    omega
/-- An account pays for each of its objects. -/
theorem TreI.pays {E : List (En Fa)} {l : List Pl} {xc : Int → Int} (t : TreI E l xc) {p : Pl} (hp : p ∈ l) (hi : p.is = true) (hx : 0 ≤ xc p.fac) {e : En Fa} (hf : find E p.fac = some e) : (costK p.kind : Int) ≤ e.q.charged := by
  have h1 := t.charged _ e hf
  have h2 := costSum_ge (p.fac : Int) hp
  rw [costP_some _ hi, if_pos rfl] at h2
  omega
theorem TreI.dropN {E : List (En Fa)} {l : List Pl} {xc : Int → Int} (t : TreI E l xc) (hids : E.Pairwise (fun a b => a.id ≠ b.id)) {i : Nat} {p q : Pl} (hi : l[i]? = some p) (hp : p.is = true) (hq : q.is = false) (hk : p.kind ≠ 1) {e : En Fa} (hf : find E p.fac = some e) :
    TreI (upd E p.fac { e.q with charged := e.q.charged - (costK p.kind : Int) }) (l.set i q) xc := by
  have ho : ownF q = ownF p := by simp [ownF, hq, hk]
  have hgs : ∀ a, givSum (upd E p.fac { e.q with charged := e.q.charged - (costK p.kind : Int) }) a = givSum E a := fun a => sum_upd hids hf _ _ rfl
  have hkc : ∀ a, kidCnt (upd E p.fac { e.q with charged := e.q.charged - (costK p.kind : Int) }) a = kidCnt E a := fun a => sum_upd hids hf _ _ rfl
  refine ⟨?_, fun r hr his => ?_, fun r hr his hk1 x hx => ?_, fun id x hx => ?_, fun id x hx => ?_⟩
  · rw [map_id_upd]
    exact t.ids.trans (fmp_keep ownF hi ho).symm
  · rcases mem_of_set hr with rfl | hr
    · rw [hq] at his; cases his
    · obtain ⟨y, hy⟩ := t.fac r hr his
      exact find_upd_fwd _ hy
  · rcases mem_of_set hr with rfl | hr
    · rw [hq] at his; cases his
    · obtain ⟨y, hy, h1, h2⟩ := find_upd_back _ hf hx
      have := t.par r hr his hk1 y hy
      by_cases hid : (r.own : Int) = p.fac
      · obtain ⟨rfl, e2⟩ := h1 hid
        rw [e2]; exact this
      · rw [h2 hid]; exact this
  · obtain ⟨y, hy, h1, h2⟩ := find_upd_back _ hf hx
    have hc := costSum_set q hi id
    rw [costP_none id hq, costP_some id hp] at hc
    have := t.charged id y hy
    by_cases hid : id = p.fac
    · obtain ⟨rfl, e2⟩ := h1 hid
      rw [if_pos hid.symm] at hc
      rw [e2]; show y.q.charged - _ = _; omega
    · rw [if_neg fun h => hid h.symm] at hc
      rw [h2 hid]; omega
  · obtain ⟨y, hy, h1, h2⟩ := find_upd_back _ hf hx
    rw [hgs, hkc]
    have := t.given id y hy
    by_cases hid : id = p.fac
    · obtain ⟨rfl, e2⟩ := h1 hid
      rw [e2]; exact this
    · rw [h2 hid]; exact this
/-- A factory goes: its account was closed. x: what its own account's parent has then. -/
theorem TreI.dropF {E : List (En Fa)} {l : List Pl} {xc : Int → Int} (t : TreI E l xc) (hids : E.Pairwise (fun a b => a.id ≠ b.id)) {i : Nat} {p q : Pl} (hi : l[i]? = some p) (hp : p.is = true) (hq : q.is = false) (hk : p.kind = 1) (h0 : p.own ≠ 0) {e c : En Fa} (hf : find E p.fac = some e) (hc : find E p.own = some c)
    (hnf : ∀ r ∈ l, r.is = true → r.fac ≠ p.own) :
    TreI (upd (rem (upd E p.fac { e.q with given := e.q.given - c.q.limit, kids := e.q.kids - 1 }) p.own) p.fac { e.q with given := e.q.given - c.q.limit, kids := e.q.kids - 1, charged := e.q.charged - (costK p.kind : Int) }) (l.set i q) xc := by
  have hpm := List.mem_of_getElem? hi
  obtain ⟨hpar, hlt⟩ := (t.par p hpm hp hk c hc).2 h0
  have hne : (p.own : Int) ≠ p.fac := by omega
  obtain ⟨X, hX⟩ : ∃ X : Fa, X = { e.q with given := e.q.given - c.q.limit, kids := e.q.kids - 1 } := ⟨_, rfl⟩
  obtain ⟨Y, hY⟩ : ∃ Y : Fa, Y = { e.q with given := e.q.given - c.q.limit, kids := e.q.kids - 1, charged := e.q.charged - (costK p.kind : Int) } := ⟨_, rfl⟩
  have hXp : X.parent = e.q.parent := by rw [hX]
  have hXl : X.limit = e.q.limit := by rw [hX]
  have hYp : Y.parent = e.q.parent := by rw [hY]
  have hYl : Y.limit = e.q.limit := by rw [hY]
  have hYc : Y.charged = e.q.charged - (costK p.kind : Int) := by rw [hY]
  have hYg : Y.given = e.q.given - c.q.limit := by rw [hY]
  have hYk : Y.kids = e.q.kids - 1 := by rw [hY]
  rw [← hX, ← hY]
  clear hX hY
  have pw1 : (upd E p.fac X).Pairwise (fun a b => a.id ≠ b.id) := upd_pairwise _ _ (fun a b a' b' _ h1 _ h2 h => by rw [← h1, ← h2]; exact h) hids
  have f1 : find (upd E p.fac X) p.own = some c := by rw [find_upd_other hne]; exact hc
  have pw2 : (rem (upd E p.fac X) p.own).Pairwise (fun a b => a.id ≠ b.id) := pw1.sublist (rem_sublist _ _)
  have f2 : find (rem (upd E p.fac X) p.own) p.fac = some { e with q := X } := by
    rw [find_rem pw1, if_neg (fun h => hne h.symm)]
    exact find_upd_same hf X
  have hbk : ∀ j z, find (upd (rem (upd E p.fac X) p.own) p.fac Y) j = some z → j ≠ p.own ∧ ∃ y, find E j = some y ∧ (j = p.fac → y = e ∧ z.q = Y) ∧ (j ≠ p.fac → z = y) := fun j z hz => by
    obtain ⟨x, hx, h1, h2⟩ := find_upd_back Y f2 hz
    rw [find_rem pw1] at hx
    split at hx
    · cases hx
    · rename_i hj
      obtain ⟨y, hy, h3, h4⟩ := find_upd_back X hf hx
      refine ⟨hj, y, hy, fun h => ⟨(h3 h).1, (h1 h).2⟩, fun h => ?_⟩
      rw [h2 h, h4 h]
  have hfw : ∀ (j : Int) y, j ≠ p.own → find E j = some y → ∃ z, find (upd (rem (upd E p.fac X) p.own) p.fac Y) j = some z := fun j y hj hy => by
    obtain ⟨z, hz⟩ := find_upd_fwd (id := p.fac) X hy
    exact find_upd_fwd Y (by rw [find_rem pw1, if_neg hj]; exact hz)
  have hgs : ∀ a, givSum (upd (rem (upd E p.fac X) p.own) p.fac Y) a + givF a c = givSum E a := fun a => by
    have e1 : ((upd (rem (upd E p.fac X) p.own) p.fac Y).map (givF a)).sum = ((rem (upd E p.fac X) p.own).map (givF a)).sum := sum_upd pw2 f2 _ _ (by simp [givF, hXp, hXl, hYp, hYl])
    have e2 := sum_rem pw1 f1 (givF a)
    have e3 : ((upd E p.fac X).map (givF a)).sum = (E.map (givF a)).sum := sum_upd hids hf _ _ (by simp [givF, hXp, hXl])
    unfold givSum
    rw [e1, e2, e3]
  have hkc : ∀ a, kidCnt (upd (rem (upd E p.fac X) p.own) p.fac Y) a + kidF a c = kidCnt E a := fun a => by
    have e1 : ((upd (rem (upd E p.fac X) p.own) p.fac Y).map (kidF a)).sum = ((rem (upd E p.fac X) p.own).map (kidF a)).sum := sum_upd pw2 f2 _ _ (by simp [kidF, hXp, hYp])
    have e2 := sum_rem pw1 f1 (kidF a)
    have e3 : ((upd E p.fac X).map (kidF a)).sum = (E.map (kidF a)).sum := sum_upd hids hf _ _ (by simp [kidF, hXp])
    unfold kidCnt
    rw [e1, e2, e3]
  refine ⟨?_, fun r hr his => ?_, fun r hr his hk1 x hx => ?_, fun id x hx => ?_, fun id x hx => ?_⟩
  · rw [map_id_upd]
    have h1 : (E.map En.id).Perm ((p.own : Int) :: (rem (upd E p.fac X) p.own).map En.id) := by
      obtain ⟨A, B, e1, _, e3⟩ := find_at pw1 f1
      rw [← map_id_upd E p.fac X, e3]
      conv => lhs; rw [e1]
      have hcid : c.id = p.own := (find_mem f1).2
      rw [List.map_append, List.map_cons, List.map_append, hcid]
      exact List.perm_middle
    have h2 := fmp_drop (q := q) ownF hi (ownF_some hp hk) (by simp [ownF, hq])
    exact List.Perm.cons_inv (h1.symm.trans (t.ids.trans h2))
  · rcases mem_of_set hr with rfl | hr
    · rw [hq] at his; cases his
    · obtain ⟨y, hy⟩ := t.fac r hr his
      exact hfw _ _ (fun h => hnf r hr his (by omega)) hy
  · rcases mem_of_set hr with rfl | hr
    · rw [hq] at his; cases his
    · obtain ⟨hj, y, hy, h1, h2⟩ := hbk _ _ hx
      have := t.par r hr his hk1 y hy
      by_cases hid : (r.own : Int) = p.fac
      · obtain ⟨rfl, e2⟩ := h1 hid
        rw [e2, hYp]; exact this
      · rw [h2 hid]; exact this
  · obtain ⟨hj, y, hy, h1, h2⟩ := hbk _ _ hx
    have hcs := costSum_set q hi id
    rw [costP_none id hq, costP_some id hp] at hcs
    have := t.charged id y hy
    by_cases hid : id = p.fac
    · obtain ⟨rfl, e2⟩ := h1 hid
      rw [if_pos hid.symm] at hcs
      rw [e2, hYc]; omega
    · rw [if_neg fun h => hid h.symm] at hcs
      rw [h2 hid]; omega
  · obtain ⟨hj, y, hy, h1, h2⟩ := hbk _ _ hx
    have g1 := hgs id
    have g2 := hkc id
    have := t.given id y hy
    unfold givF at g1
    unfold kidF at g2
    rw [hpar] at g1 g2
    by_cases hid : id = p.fac
    · obtain ⟨rfl, e2⟩ := h1 hid
      rw [if_pos hid.symm] at g1 g2
      rw [e2, hYg, hYk]; omega
    · rw [if_neg fun h => hid h.symm] at g1 g2
      rw [h2 hid]; omega
/-! Handles and the queue. -/
theorem mem_set_or {l : List Pl} {i : Nat} {p f : Pl} (q : Pl) (hi : l[i]? = some p) (hf : f ∈ l) : f ∈ l.set i q ∨ f = p := by
  obtain ⟨j, hj⟩ := List.mem_iff_getElem?.1 hf
  by_cases e : i = j
  · subst e
    rw [hi] at hj; cases hj
    exact .inr rfl
  · exact .inl (List.mem_of_getElem? (i := j) (by rw [List.getElem?_set_ne e]; exact hj))
theorem QueI.add {l : List Pl} {xc : Int → Int} {zs : List Nat} (u : QueI l xc zs) {i : Nat} {p q f : Pl} (hi : l[i]? = some p) (hp : p.st = 0) (hq : q.st = 1) (hf : f ∈ l) (h1 : f.st = 1) (h2 : f.kind = 1) (h3 : f.own = q.fac) : QueI (l.set i q) xc zs := by
  obtain ⟨r, r1, r2, r3, r4, r5, r6⟩ := u.root
  have hi0 : i ≠ 0 := by rintro rfl; rw [r1] at hi; cases hi; omega
  have hm : ∀ x ∈ l, x.st = 1 → x ∈ l.set i q := fun x hx hs => (mem_set_or q hi hx).resolve_right fun e => by subst e; omega
  have hz : ∀ h, pget (l.set i q) 2 h = pget l 2 h := fun h => by
    rw [pget_set q hi]
    split
    · rename_i e
      rw [if_neg (by omega)]
      symm
      cases hx : pget l 2 h with
      | none => rfl
      | some x =>
        obtain ⟨a, b, c⟩ := pget_some.1 hx
        rw [e, hi] at a; cases a; omega
    · rfl
  refine ⟨⟨r, by rw [List.getElem?_set_ne hi0]; exact r1, r2, r3, r4, r5, r6⟩, fun j x hx hj hs => ?_, fun id => ⟨(u.xc id).1, fun h => ?_⟩, u.nd, fun h => by rw [hz]; exact u.has h, ?_⟩
  · by_cases e : i = j
    · subst e
      rw [List.getElem?_set_self (List.getElem?_eq_some_iff.1 hi).1] at hx
      cases hx
      exact ⟨f, hm f hf h1, h1, h2, h3⟩
    · rw [List.getElem?_set_ne e] at hx
      obtain ⟨g, g1, g2, g3, g4⟩ := u.live j x hx hj hs
      exact ⟨g, hm g g1 g2, g2, g3, g4⟩
  · obtain ⟨x, hx, hs, he⟩ := (u.xc id).2 h
    exact ⟨x, hm x hx hs, hs, he⟩
  · refine u.ord.imp fun h a b ha hb => ?_
    rw [hz] at ha hb
    exact h a b ha hb
theorem QueI.doom {E : List (En Fa)} {l : List Pl} {xc xc' : Int → Int} {zs : List Nat} (u : QueI l xc zs) (hl : l.length ≤ 256) (t : TreI E l xc) (hids : E.Pairwise (fun a b => a.id ≠ b.id)) {h : Nat} {p : Pl} (hp : pget l 1 h = some p) (h0 : h ≠ 0) (hk : kids l h = [])
    (hxc : ∀ id, 0 ≤ xc' id ∧ (xc' id ≠ 0 → ∃ r ∈ l.set (h % 256) { p with st := 2 }, r.st = 1 ∧ (r.fac : Int) = id)) : QueI (l.set (h % 256) { p with st := 2 }) xc' (zs ++ [h]) := by
  obtain ⟨hi, hn, hs⟩ := pget_some.1 hp
  obtain ⟨r, r1, r2, r3, r4, r5, r6⟩ := u.root
  have hi0 : h % 256 ≠ 0 := by
    intro e
    rw [e] at hi hn
    rw [r1] at hi; cases hi
    unfold nm at hn; omega
  obtain ⟨i, hie⟩ : ∃ i, i = h % 256 := ⟨_, rfl⟩
  rw [← hie] at hi hn hxc hi0 ⊢
  have hz : ∀ x, x % 256 ≠ i → pget (l.set i { p with st := 2 }) 2 x = pget l 2 x := fun x hx => by
    rw [pget_set _ hi, if_neg hx]
  have hzs : ∀ x ∈ zs, x % 256 ≠ i := fun x hx e => by
    obtain ⟨y, hy⟩ := (u.has x).1 hx
    have := (pget_same hy hp (by rw [e, hie])).2.2
    omega
  have hm : ∀ x ∈ l, x ≠ p → x ∈ l.set i { p with st := 2 } := fun x hx hne => (mem_set_or _ hi hx).resolve_right hne
  have hpi : p.is = true := Pl.is_iff.2 (.inl hs)
  refine ⟨⟨r, by rw [List.getElem?_set_ne hi0]; exact r1, r2, r3, r4, r5, r6⟩, fun j x hx hj hxs => ?_, hxc, ?_, fun x => ?_, ?_⟩
  · by_cases e : i = j
    · subst e
      rw [List.getElem?_set_self (List.getElem?_eq_some_iff.1 hi).1] at hx
      cases hx
      cases hxs
    · rw [List.getElem?_set_ne e] at hx
      obtain ⟨g, g1, g2, g3, g4⟩ := u.live j x hx hj hxs
      refine ⟨g, hm g g1 ?_, g2, g3, g4⟩
      rintro rfl
      have hj256 : j < 256 := Nat.lt_of_lt_of_le (List.getElem?_eq_some_iff.1 hx).1 hl
      have : nm j x ∈ kids l h := (mem_kids hl).2 ⟨g, x, hp, g3, pget_some.2 ⟨by rw [nm_mod hj256]; exact hx, by rw [nm_mod hj256], hxs⟩, by unfold nm; omega, g4.symm⟩
      rw [hk] at this; cases this
  · rw [List.nodup_append]
    refine ⟨u.nd, by simp, fun x hx y hy e => ?_⟩
    rw [List.mem_singleton] at hy
    subst hy; subst e
    exact hzs x hx hie.symm
  · rw [List.mem_append, List.mem_singleton]
    by_cases e : x % 256 = i
    · rw [pget_set _ hi, if_pos e]
      constructor
      · rintro (hx | rfl)
        · exact absurd e (hzs x hx)
        · exact ⟨_, if_pos ⟨hn, rfl⟩⟩
      · rintro ⟨y, hy⟩
        split at hy
        · rename_i hc; exact .inr (hc.1.symm.trans hn)
        · cases hy
    · rw [hz x e]
      constructor
      · rintro (hx | rfl)
        · exact (u.has x).1 hx
        · exact absurd hie.symm e
      · exact fun hx => .inl ((u.has x).2 hx)
  · rw [List.pairwise_append]
    refine ⟨?_, by simp, fun a ha b hb => ?_⟩
    · refine u.ord.imp_of_mem ?_
      intro a b ha hb hab x y hx hy
      rw [hz a (hzs a ha)] at hx
      rw [hz b (hzs b hb)] at hy
      exact hab x y hx hy
    · rw [List.mem_singleton] at hb
      subst hb
      intro x y hx hy hxk
      rw [hz a (hzs a ha)] at hx
      rw [pget_set _ hi, if_pos hie.symm, if_pos ⟨hn, rfl⟩] at hy
      cases hy
      show p.fac ≠ x.own
      intro e
      obtain ⟨g, g1, g2, g3, g4⟩ := u.live i p hi hi0 hs
      obtain ⟨j, hj⟩ := List.mem_iff_getElem?.1 g1
      obtain ⟨a1, _, a3⟩ := pget_some.1 hx
      have := t.inj hids hj a1 (Pl.is_iff.2 (.inl g2)) (Pl.is_iff.2 (.inr a3)) g3 hxk (by omega)
      subst this
      rw [a1] at hj; cases hj
      omega
theorem QueI.free {l : List Pl} {xc : Int → Int} {zs : List Nat} {h : Nat} (u : QueI l xc (h :: zs)) {p q : Pl} (hp : pget l 2 h = some p) (hq : q.is = false) : QueI (l.set (h % 256) q) xc zs := by
  obtain ⟨hi, hn, hs⟩ := pget_some.1 hp
  obtain ⟨q1, q2⟩ := Pl.not_is.1 hq
  obtain ⟨r, r1, r2, r3, r4, r5, r6⟩ := u.root
  have hi0 : h % 256 ≠ 0 := by
    intro e
    rw [e, r1] at hi; cases hi
    omega
  obtain ⟨i, hie⟩ : ∃ i, i = h % 256 := ⟨_, rfl⟩
  rw [← hie] at hi hn hi0 ⊢
  have hnd := List.nodup_cons.1 u.nd
  have hord := List.pairwise_cons.1 u.ord
  have hz : ∀ x, x % 256 ≠ i → pget (l.set i q) 2 x = pget l 2 x := fun x hx => by
    rw [pget_set _ hi, if_neg hx]
  have hzs : ∀ x ∈ zs, x % 256 ≠ i := fun x hx e => by
    obtain ⟨y, hy⟩ := (u.has x).1 (by simp [hx])
    have := (pget_same hy hp (by rw [e, hie])).1
    exact hnd.1 (this ▸ hx)
  have hm : ∀ x ∈ l, x.st = 1 → x ∈ l.set i q := fun x hx hs' => (mem_set_or _ hi hx).resolve_right fun e => by subst e; omega
  refine ⟨⟨r, by rw [List.getElem?_set_ne hi0]; exact r1, r2, r3, r4, r5, r6⟩, fun j x hx hj hxs => ?_, fun id => ⟨(u.xc id).1, fun hne => ?_⟩, hnd.2, fun x => ?_, ?_⟩
  · by_cases e : i = j
    · subst e
      rw [List.getElem?_set_self (List.getElem?_eq_some_iff.1 hi).1] at hx
      cases hx
      exact absurd hxs q1
    · rw [List.getElem?_set_ne e] at hx
      obtain ⟨g, g1, g2, g3, g4⟩ := u.live j x hx hj hxs
      exact ⟨g, hm g g1 g2, g2, g3, g4⟩
  · obtain ⟨x, hx, hs', he⟩ := (u.xc id).2 hne
    exact ⟨x, hm x hx hs', hs', he⟩
  · by_cases e : x % 256 = i
    · rw [pget_set _ hi, if_pos e, if_neg (by omega)]
      constructor
      · exact fun hx => absurd e (hzs x hx)
      · rintro ⟨_, h⟩; cases h
    · rw [hz x e, ← u.has x, List.mem_cons]
      constructor
      · exact .inr
      · rintro (rfl | hx)
        · exact absurd hie.symm e
        · exact hx
  · refine hord.2.imp_of_mem ?_
    intro a b ha hb hab x y hx hy
    rw [hz a (hzs a ha)] at hx
    rw [hz b (hzs b hb)] at hy
    exact hab x y hx hy
/-- Nothing is left of what was made through the factory that is freed first. -/
theorem Inv.last {P : PL} {l : List Pl} {fr : List Nat} {xc : Int → Int} {zs : List Nat} {h : Nat} (v : Inv P l fr xc (h :: zs)) {p : Pl} (hp : pget l 2 h = some p) (hk : p.kind = 1) :
    p.own ≠ 0 ∧ (∀ r ∈ l, r.is = true → r.fac ≠ p.own) ∧ ∃ c, find P.q.E p.own = some c ∧ c.q.charged = 0 ∧ c.q.given = 0 ∧ c.q.kids = 0 ∧ c.q.parent = p.fac := by
  obtain ⟨hi, hn, hs⟩ := pget_some.1 hp
  have hids := v.mem.pool.q.ids
  have hpm := pget_mem hp
  have hpi : p.is = true := Pl.is_iff.2 (.inr hs)
  obtain ⟨r, r1, r2, r3, r4, r5, r6⟩ := v.que.root
  have h0 : p.own ≠ 0 := by
    intro e
    have := v.tre.inj hids hi r1 hpi (Pl.is_iff.2 (.inl r4)) hk r2 (by omega)
    rw [this, r1] at hi; cases hi; omega
  have live1 : ∀ x ∈ l, x.st = 1 → x.fac ≠ p.own := by
    intro x hx hxs e
    obtain ⟨j, hj⟩ := List.mem_iff_getElem?.1 hx
    by_cases hj0 : j = 0
    · subst hj0
      rw [r1] at hj; cases hj
      omega
    · obtain ⟨g, g1, g2, g3, g4⟩ := v.que.live j x hj hj0 hxs
      obtain ⟨k, hk'⟩ := List.mem_iff_getElem?.1 g1
      have := v.tre.inj hids hk' hi (Pl.is_iff.2 (.inl g2)) hpi g3 hk (by omega)
      subst this
      rw [hk'] at hi; cases hi; omega
  obtain ⟨c, hc⟩ := v.tre.acc hpm hpi hk
  obtain ⟨c1, c2⟩ := (v.tre.par p hpm hpi hk c hc).2 h0
  have hno : ∀ x ∈ l, x.is = true → x.fac ≠ p.own := by
    intro x hx hxi
    rcases Pl.is_iff.1 hxi with hxs | hxs
    · exact live1 x hx hxs
    · obtain ⟨j, hj⟩ := List.mem_iff_getElem?.1 hx
      have hj256 : j < 256 := by have := (List.getElem?_eq_some_iff.1 hj).1; rw [v.len] at this; exact this
      have hxp : pget l 2 (nm j x) = some x := pget_some.2 ⟨by rw [nm_mod hj256]; exact hj, by rw [nm_mod hj256], hxs⟩
      rcases List.mem_cons.1 ((v.que.has _).2 ⟨x, hxp⟩) with e | hz
      · rw [e, hp] at hxp; cases hxp
        omega
      · exact (List.pairwise_cons.1 v.que.ord).1 _ hz p x hp hxp hk
  refine ⟨h0, hno, c, hc, ?_, ?_, ?_, c1⟩
  · rw [v.tre.charged _ c hc, costSum_zero fun x hx hxi e => hno x hx hxi (by omega)]
    by_cases hx : xc p.own = 0
    · omega
    · obtain ⟨x, hx1, hx2, hx3⟩ := (v.que.xc p.own).2 hx
      exact absurd (by omega) (live1 x hx1 hx2)
  all_goals
    have hz := givSum_zero (E := P.q.E) (a := (p.own : Int)) (by
      intro y hy e
      have hm : y.id ∈ ownsOf l := v.tre.ids.mem_iff.1 (List.mem_map_of_mem hy)
      obtain ⟨x, hx, hxo⟩ := List.mem_filterMap.1 hm
      unfold ownF at hxo
      split at hxo
      · rename_i hc'
        simp only [Bool.and_eq_true, beq_iff_eq] at hc'
        have hyid : (x.own : Int) = y.id := Option.some.inj hxo
        have hfy : find P.q.E x.own = some y := by rw [hyid]; exact find_of_mem hids hy
        obtain ⟨b1, b2⟩ := v.tre.par x hx hc'.1 hc'.2 y hfy
        by_cases hx0 : x.own = 0
        · have := b1 hx0; omega
        · have := (b2 hx0).1
          exact hno x hx hc'.1 (by omega)
      · cases hxo)
    have hg := v.tre.given _ c hc
    omega
end Go.Proofs.YtcnbbenmlffgpaaGreatDoor

/- What the core gets from the pool and puts back, as plain data: objects of classes and frames alike. No condition. -/
namespace Go.Proofs.YtcnbbenmlffgpaaGreatDoor
open Go.RowKit

/-- These bytes stayed. -/
def Kept (m m' : List Nat) (a n : Nat) : Prop := ∀ i, a ≤ i → i < a + n → m'[i]? = m[i]?
theorem Kept.word {m m' : List Nat} {a : Nat} (h : Kept m m' a 8) : word8 m' a = word8 m a := by
  unfold word8
  congr 1
  apply List.ext_getElem?
  intro i
  rw [List.getElem?_take, List.getElem?_take]
  split
  · rw [List.getElem?_drop, List.getElem?_drop]
    exact h _ (by omega) (by omega)
  · rfl
theorem Kept.sub {m m' : List Nat} {a n b k : Nat} (h : Kept m m' a n) (h1 : a ≤ b) (h2 : b + k ≤ a + n) : Kept m m' b k := fun i h3 h4 => h i (by omega) (by omega)
theorem kept_put {m bs : List Nat} {a b n : Nat} (hl : a + bs.length ≤ m.length) (h : b + n ≤ a ∨ a + bs.length ≤ b) : Kept m (put_ m a bs) b n := fun i h1 h2 => by
  rw [put_get _ _ _ hl]
  split
  · rfl
  · rw [if_neg (by omega)]
theorem put_in {m bs : List Nat} {a : Nat} (hl : a + bs.length ≤ m.length) {i : Nat} (hi : i < bs.length) : (put_ m a bs)[a + i]? = bs[i]? := by
  rw [put_get _ _ _ hl, if_neg (by omega), if_pos (by omega)]
  congr 1; omega
theorem Kept.trans {m m1 m2 : List Nat} {a n : Nat} (h : Kept m m1 a n) (k : Kept m1 m2 a n) : Kept m m2 a n := fun i h1 h2 => (k i h1 h2).trans (h i h1 h2)
theorem Kept.refl (m : List Nat) (a n : Nat) : Kept m m a n := fun _ _ _ => rfl
/-- Where a used place's page is. -/
theorem used_in_page {P : PL} {fr : List Nat} (ok : P.Ok fr) {k a : Nat} (ha : a ∈ P.usedOf k) : ∃ g ∈ P.pages, 1024 * g + 64 ≤ a ∧ a + costN k ≤ 1024 * g + 1024 := by
  obtain ⟨c, hc, ha⟩ := mem_usedOf ha
  obtain ⟨k1, k2, _, _⟩ := PL.Cls.facts ok hc
  obtain ⟨x, hx, x1, x2⟩ := used_lt k1 ha
  rw [k2] at x2
  refine ⟨x.2, ?_, x1, x2⟩
  exact List.mem_flatMap.2 ⟨c, List.mem_of_getElem? hc.2, List.mem_map_of_mem hx⟩
theorem frames_nd {P : PL} {fr : List Nat} (ok : P.Ok fr) : fr.Nodup ∧ (∀ g ∈ fr, g ∉ P.pages) ∧ ∀ g ∈ fr, g < 2 ^ P.d.top := by
  have h := (ok.pages.nodup_iff).2 ok.d.nd
  obtain ⟨h1, h2, h3⟩ := List.nodup_append.1 h
  exact ⟨h1, fun g hg hp => h3 g hg g hp rfl, fun g hg => ok.d.lt g (ok.pages.mem_iff.1 (by simp [hg]))⟩
theorem frame_used {P : PL} {fr : List Nat} (ok : P.Ok fr) {k a g : Nat} (hg : g ∈ fr) (ha : a ∈ P.usedOf k) : a + costN k ≤ 1024 * g ∨ 1024 * g + 1024 ≤ a := by
  obtain ⟨p, hp, h1, h2⟩ := used_in_page ok ha
  have : g ≠ p := fun e => (frames_nd ok).2.1 g hg (e ▸ hp)
  omega
theorem frame_mem {P : PL} {fr : List Nat} (ok : P.Ok fr) {g : Nat} (hg : g ∈ fr) : 1024 * g + 1024 ≤ P.a.mem.length := by
  have := (frames_nd ok).2.2 g hg
  rw [ok.mem, Nat.pow_add, show (2 : Nat) ^ 10 = 1024 from rfl]
  omega
theorem costN_mod (n : Nat) : costN n % 8 = 0 := by
  by_cases h : n < 8
  · have hn : n = 0 ∨ n = 1 ∨ n = 2 ∨ n = 3 ∨ n = 4 ∨ n = 5 ∨ n = 6 ∨ n = 7 := by omega
    rcases hn with rfl | rfl | rfl | rfl | rfl | rfl | rfl | rfl <;> decide
  · rw [costN_big (by omega)]
theorem used_al8 {P : PL} {fr : List Nat} (ok : P.Ok fr) {k a : Nat} (ha : a ∈ P.usedOf k) : a % 8 = 0 := by
  obtain ⟨c, hc, ha⟩ := mem_usedOf ha
  obtain ⟨_, k2, _, _⟩ := PL.Cls.facts ok hc
  unfold CA.used at ha
  obtain ⟨x, _, ha⟩ := List.mem_flatMap.1 ha
  unfold usedPg at ha
  obtain ⟨i, _, rfl⟩ := List.mem_map.1 ha
  unfold addr
  rw [k2]
  have h0 := costN_mod k
  have : i * costN k % 8 = 0 := by rw [Nat.mul_mod, h0]; simp
  omega
theorem usedOf_low {P : PL} {fr : List Nat} (ok : P.Ok fr) {k a : Nat} (ha : a ∈ P.usedOf k) : 1 ≤ k ∧ k ≤ 7 := by
  obtain ⟨c, hc, _⟩ := mem_usedOf ha
  exact ⟨hc.1, (PL.Cls.facts ok hc).2.2.2⟩

/-- What a pool is known by stayed. -/
structure SameP (P P' : PL) : Prop where
  p : P'.p = P.p
  qt : P'.q.t = P.q.t
  db : P'.d.b = P.d.b
  aa : P'.a.a = P.a.a
  amb : P'.a.mb = P.a.mb
  top : P'.d.top = P.d.top
  len : P'.a.mem.length = P.a.mem.length
theorem SameP.refl (P : PL) : SameP P P := ⟨rfl, rfl, rfl, rfl, rfl, rfl, rfl⟩
theorem SameP.trans {P P1 P2 : PL} (h : SameP P P1) (k : SameP P1 P2) : SameP P P2 :=
  ⟨k.p.trans h.p, k.qt.trans h.qt, k.db.trans h.db, k.aa.trans h.aa, k.amb.trans h.amb, k.top.trans h.top, k.len.trans h.len⟩
/-- What was got: kind k, at a, paid by own. -/
structure GotM (P : PL) (fr : List Nat) (own : Int) (k a : Nat) (P' : PL) (fr' : List Nat) : Prop where
  ok : P'.Ok fr'
  same : SameP P P'
  q : ∃ e, find P.q.E own = some e ∧ ((costK k : Nat) : Int) ≤ e.q.limit - (e.q.charged + e.q.given) ∧ P'.q = { P.q with E := upd P.q.E own { e.q with charged := e.q.charged + ((costK k : Nat) : Int) } }
  mem : P'.a.mem = put_ P.a.mem a (List.replicate (costK k) 0)
  used : k ≠ 8 → (P'.usedOf k).Perm (a :: P.usedOf k)
  other : ∀ j, j ≠ k → P'.usedOf j = P.usedOf j
  frs : if k = 8 then ∃ g, a = 1024 * g ∧ fr' = g :: fr else fr' = fr
  few : P'.d.ps.length ≤ P.d.ps.length + 1
theorem GetOk.gotM {P P' : PL} {fr : List Nat} {own : Int} {n a : Nat} (g : GetOk P fr own n a P') (ok : P.Ok fr) : GotM P fr own n a P' fr := by
  obtain ⟨c, c', h1, h2, h3⟩ := g.which
  obtain ⟨A, B, u1, u2⟩ := g.used
  have ha : a ∈ P'.usedOf n := by rw [u2]; simp
  have hn := usedOf_low g.ok ha
  have hck : costK n = costN n := by unfold costK; rw [if_neg (by omega)]
  obtain ⟨e, q1, q2, q3⟩ := g.q
  refine ⟨g.ok, ⟨g.p, g.qt, g.db, g.aa, g.amb, g.top, ?_⟩, ⟨e, q1, by rw [hck]; exact q2, by rw [hck]; exact q3⟩, by rw [hck]; exact g.mem, fun _ => ?_, g.other, by rw [if_neg (by omega)], ?_⟩
  · rw [g.ok.mem, ok.mem, g.top]
  · rw [u1, u2]; exact List.perm_middle
  · rcases h3.pages with ⟨_, e⟩ | ⟨p, _, _, e⟩
    · rw [e]; omega
    · rw [e]; simp
theorem GotM.room {P P' : PL} {fr fr' : List Nat} {own : Int} {k a : Nat} (g : GotM P fr own k a P' fr') : a + costK k ≤ P.a.mem.length ∧ a % 8 = 0 := by
  by_cases h : k = 8
  · have hf := g.frs
    rw [if_pos h] at hf
    obtain ⟨x, rfl, hx⟩ := hf
    have := frame_mem g.ok (g := x) (by rw [hx]; simp)
    rw [g.same.len] at this
    have : costK k = 1024 := by unfold costK; rw [if_pos h]
    omega
  · have ha : a ∈ P'.usedOf k := (g.used h).mem_iff.2 (by simp)
    have h1 := used_in_mem g.ok ha
    have : costK k = costN k := by unfold costK; rw [if_neg h]
    have h2 := used_al8 g.ok ha
    have h3 := g.same.len
    omega
/-- It overlaps no other. -/
theorem GotM.apart {P P' : PL} {fr fr' : List Nat} {own : Int} {k a : Nat} (g : GotM P fr own k a P' fr') (ok : P.Ok fr) : (∀ j b, b ∈ P.usedOf j → a + costK k ≤ b ∨ b + costN j ≤ a) ∧ ∀ x ∈ fr, a + costK k ≤ 1024 * x ∨ 1024 * x + 1024 ≤ a := by
  by_cases h : k = 8
  · have hck : costK k = 1024 := by unfold costK; rw [if_pos h]
    have hf := g.frs
    rw [if_pos h] at hf
    obtain ⟨y, rfl, hy⟩ := hf
    have hym : y ∈ fr' := by rw [hy]; simp
    refine ⟨fun j b hb => ?_, fun x hx => ?_⟩
    · have hj := usedOf_low ok hb
      have hb' : b ∈ P'.usedOf j := by rw [g.other j (by omega)]; exact hb
      have := frame_used g.ok hym hb'
      omega
    · have hnd := (frames_nd g.ok).1
      rw [hy] at hnd
      have : x ≠ y := fun e => (List.nodup_cons.1 hnd).1 (e ▸ hx)
      omega
  · have hck : costK k = costN k := by unfold costK; rw [if_neg h]
    have hf := g.frs
    rw [if_neg h] at hf
    have ha : a ∈ P'.usedOf k := (g.used h).mem_iff.2 (by simp)
    refine ⟨fun j b hb => ?_, fun x hx => ?_⟩
    · rw [hck]
      by_cases e : j = k
      · subst e
        have hnd : (P'.usedOf j).Nodup := (usedOf_pairwise g.ok j).imp fun h => Nat.ne_of_lt h
        have hnd2 := (g.used h).nodup_iff.1 hnd
        have hne : a ≠ b := fun e => (List.nodup_cons.1 hnd2).1 (e ▸ hb)
        have hb' : b ∈ P'.usedOf j := (g.used h).mem_iff.2 (by simp [hb])
        exact used_two g.ok ha hb' (fun e => hne e.2)
      · have hb' : b ∈ P'.usedOf j := by rw [g.other j e]; exact hb
        exact used_two g.ok ha hb' (fun e' => e e'.1.symm)
    · rw [hck]
      exact frame_used g.ok (by rw [hf]; exact hx) ha
theorem costN_8 {j : Nat} (h1 : 1 ≤ j) (h7 : j ≤ 7) : 8 ≤ costN j := by have := costN_ok h1 h7; omega
theorem GotM.grewM {P P' : PL} {fr fr' : List Nat} {own : Int} {k a : Nat} (g : GotM P fr own k a P' fr') (ok : P.Ok fr) (hk : k ≠ 1) : GrewM P fr k a 0 P' fr' := by
  have hr := g.room.1
  refine ⟨g.ok, g.used, g.other, g.frs, fun b hb => ?_, fun h => absurd h hk⟩
  have h1 := (g.apart ok).1 1 b hb
  rw [g.mem]
  exact (kept_put (by rw [List.length_replicate]; exact hr) (by rw [List.length_replicate]; have : costN 1 = 64 := rfl; omega)).word
/-- A factory, with its account's number stored in it. -/
theorem GotM.grewF {P P' P2 : PL} {fr fr' : List Nat} {own : Int} {a : Nat} (g : GotM P fr own 1 a P' fr') (ok : P.Ok fr) {x : Nat} (hx : x < 18446744073709551616) (hm : P2.a.mem = put_ P'.a.mem a (bytes8 x)) (hu : ∀ j, P2.usedOf j = P'.usedOf j) (hok : P2.Ok fr') : GrewM P fr 1 a x P2 fr' := by
  have hr := g.room.1
  have h64 : costK 1 = 64 := rfl
  have hl8 : (bytes8 x).length = 8 := rfl
  have hl := g.same.len
  refine ⟨hok, fun h => by rw [hu]; exact g.used h, fun j hj => by rw [hu]; exact g.other j hj, g.frs, fun b hb => ?_, fun _ => ?_⟩
  · have h1 := (g.apart ok).1 1 b hb
    have h65 : costN 1 = 64 := rfl
    have k1 : Kept P.a.mem P'.a.mem b 8 := by
      rw [g.mem]
      exact kept_put (by rw [List.length_replicate]; exact hr) (by rw [List.length_replicate]; omega)
    have k2 : Kept P'.a.mem P2.a.mem b 8 := by
      rw [hm]
      exact kept_put (by rw [hl8]; omega) (by rw [hl8]; omega)
    exact (k1.trans k2).word
  · rw [hm]
    unfold word8
    have : ((put_ P'.a.mem a (bytes8 x)).drop a).take 8 = bytes8 x := by
      apply List.ext_getElem?
      intro i
      rw [List.getElem?_take]
      split
      · rw [List.getElem?_drop]
        exact put_in (by rw [hl8]; omega) (by rw [hl8]; assumption)
      · rw [List.getElem?_eq_none (by rw [hl8]; omega)]
    rw [this]
    exact leN_bytes8 x hx
/-- What was put back. -/
structure BackM (P : PL) (fr : List Nat) (own : Int) (k a : Nat) (P' : PL) (fr' : List Nat) : Prop where
  ok : P'.Ok fr'
  same : SameP P P'
  q : ∃ e, find P.q.E own = some e ∧ ((costK k : Nat) : Int) ≤ e.q.charged ∧ P'.q = { P.q with E := upd P.q.E own { e.q with charged := e.q.charged - ((costK k : Nat) : Int) } }
  mem : P'.a.mem = P.a.mem
  used : k ≠ 8 → (P.usedOf k).Perm (a :: P'.usedOf k)
  other : ∀ j, j ≠ k → P'.usedOf j = P.usedOf j
  frs : if k = 8 then ∃ g, a = 1024 * g ∧ fr' = fr.erase g else fr' = fr
  few : P'.d.ps.length ≤ P.d.ps.length
theorem BackM.goneM {P P' : PL} {fr fr' : List Nat} {own : Int} {k a : Nat} (g : BackM P fr own k a P' fr') : GoneM P fr k a P' fr' :=
  ⟨g.ok, g.used, g.other, g.frs, fun b _ => by rw [g.mem]⟩
theorem PutOk.backM {P P' : PL} {fr : List Nat} {own : Int} {n a : Nat} (g : PutOk P fr own n a P') (ok : P.Ok fr) : BackM P fr own n a P' fr := by
  obtain ⟨c, c', h1, h2, h3⟩ := g.which
  obtain ⟨A, B, u1, u2⟩ := g.used
  have ha : a ∈ P.usedOf n := by rw [u1]; simp
  have hn := usedOf_low ok ha
  have hck : costK n = costN n := by unfold costK; rw [if_neg (by omega)]
  obtain ⟨e, q1, q2, q3⟩ := g.q
  refine ⟨g.ok, ⟨g.p, g.qt, g.db, by rw [g.aa], by rw [g.aa], g.top, by rw [g.aa]⟩, ⟨e, q1, by rw [hck]; exact q2, by rw [hck]; exact q3⟩, by rw [g.aa], fun _ => ?_, g.other, by rw [if_neg (by omega)], ?_⟩
  · rw [u1, u2]; exact List.perm_middle
  · rcases h3.pages with ⟨_, e⟩ | ⟨p, _, e⟩
    · rw [e]; omega
    · rw [e]; exact List.length_erase_le
end Go.Proofs.YtcnbbenmlffgpaaGreatDoor
