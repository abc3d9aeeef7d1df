/- IrqMasks answers true at every input. No condition. -/
import Derived.Test.YtekgfdfganelmaaPure
import Derived.Test.YtekgfdfganelmaaAlive
namespace Go.Proofs.Ytekgfdfganelmaa
open Go.RowKit

def F1 (t : Int) (k : Nat) : Int → Option Irq := fun x => if 0 ≤ x ∧ x < k then some ⟨-1, false, t, 0, true⟩ else none
/-- Where irqs a to b are pending, those below a aren't; wi's mask and lost count as told. -/
def F2 (t : Int) (many wi : Nat) (m : Bool) (l : Int) (a : Nat) : Int → Option Irq := fun x => if 0 ≤ x ∧ x < many then some ⟨-1, if x = wi then m else false, t, if x = wi then l else 0, decide (a ≤ x)⟩ else none
structure St (B : Nat) (w0 wr : World) (c m : Nat) (F : Int → Option Irq) (row : List Int) : Prop where
  ex : ∃ E rv, In B w0 wr c ⟨m, E, List.replicate 16 0, row, rv⟩ ∧ At E F

theorem known_of {E : List Ent} {F : Int → Option Irq} {row : List Int} {m : Nat} {L : List Int} {rv : Value} (hA : At E F) (h : ∀ x ∈ row, ∃ q, F x = some q) : Known ⟨m, E, L, row, rv⟩ := by
  intro x hx
  obtain ⟨q, hq⟩ := h x hx
  obtain ⟨e, he, _⟩ := hA.yes hq
  exact ⟨e, he⟩

theorem rdy_t (l t : Int) (ht : 0 ≤ t) : Irq.rdy ⟨-1, false, t, l, true⟩ = true := by
  have : (t != -1) = true := by simp; omega
  simp [Irq.rdy, this]
theorem is_F2 {E : List Ent} {t : Int} (ht : 0 ≤ t) {many wi : Nat} {mk : Bool} {l : Int} {a : Nat} (hA : At E (F2 t many wi mk l a)) (x : Int) (h1 : (a : Int) ≤ x) (h2 : x < many) : isr E t x = (if x = wi then !mk else true) := by
  have h3 : (t != -1) = true := by simp; omega
  have h0 : 0 ≤ x := by omega
  rw [hA.is]
  unfold F2
  rw [if_pos ⟨h0, h2⟩]
  by_cases hx : x = wi
  · simp [hx, Irq.rdy, h3]; omega
  · simp [hx, Irq.rdy, h3, h1]
theorem rl_F2 {E : List Ent} {t : Int} (ht : 0 ≤ t) {many wi : Nat} {mk : Bool} {l : Int} {a : Nat} (hA : At E (F2 t many wi mk l a)) (m : Nat) (L : List Int) (rv : Value) :
    rl ⟨m, E, L, rg a many, rv⟩ t = (rg a many).filter (fun x : Int => if x = (wi : Int) then !mk else true) := by
  unfold rl
  refine List.filter_congr fun x hx => ?_
  have := mem_rg.1 hx
  exact is_F2 ht hA x this.1 this.2
theorem rl_false {E : List Ent} {t : Int} (ht : 0 ≤ t) {many wi : Nat} {l : Int} {a : Nat} (hA : At E (F2 t many wi false l a)) (m : Nat) (L : List Int) (rv : Value) :
    rl ⟨m, E, L, rg a many, rv⟩ t = rg a many := by
  rw [rl_F2 ht hA]; simp
theorem head_F2 {E : List Ent} {t : Int} (ht : 0 ≤ t) {many wi : Nat} {l : Int} (hm : 1 ≤ many) (hA : At E (F2 t many wi true l 0)) (m : Nat) (L : List Int) (rv : Value) :
    (rl ⟨m, E, L, rg 0 many, rv⟩ t).headD (-1) = if many = 1 then (if wi = 0 then -1 else 0) else (if wi = 0 then 1 else 0) := by
  rw [rl_F2 ht hA, rg_cons (show 0 < many by omega)]
  by_cases h0 : wi = 0
  · subst h0
    by_cases h1 : many = 1
    · subst h1; simp [rg_nil]
    · rw [rg_cons (show 0 + 1 < many by omega)]
      simp [h1]
  · have : ¬ ((0 : Int) = wi) := by omega
    simp [h0, this]

set_option maxHeartbeats 2000000 in
theorem masks_any (n0 wh t : Nat) (h0 : n0 < 256) (h1 : wh < 256) (h2 : t < 65536) (w : World) :
    Calls Try.prog 3 #[.int .u8 n0, .int .u8 wh, .int .u16 t] w fun e w' => e = .returned (.bool true) ∧ Below w.heap.size w w' := by
  go_enter Try.func3, Try.ntmps3
  go_wp2_with fail
  refine (alive_any w).mono ?_
  rintro e w1 ⟨rfl, hb0⟩
  go_wp2_with fail
  refine (new_any w1).mono ?_
  rintro e w2 ⟨c, m, rfl, hr, hch, hfp⟩
  have i0 : In w.heap.size w w2 c (G.new m) := ⟨hr, fun b hb => Nat.le_trans hb0.size (hfp b hb), hb0.trans ((hch.below (Nat.le_refl _) (fun _ h => h.elim)).mono hb0.size), Nat.le_trans hb0.size hch.size⟩
  clear hr hch hfp hb0
  go_wp2_with fail
  rw [show (1 + (n0 : Int) % 12) = ((1 + n0 % 12 : Nat) : Int) from by omega]
  obtain ⟨many, hmany⟩ : ∃ many, many = 1 + n0 % 12 := ⟨_, rfl⟩
  rw [← hmany]
  have hm1 : 1 ≤ many := by omega
  have hm2 : many ≤ 12 := by omega
  clear hmany
  go_loopw [10] (fun iv wr => ∃ k : Nat, iv = .int .i64 k ∧ k ≤ many ∧ St w.heap.size w wr c m (F1 t k) (rg 0 k)) (fun iv _ => many - (intOf iv).toNat)
  case atStart => exact ⟨0, rfl, Nat.zero_le _, ⟨[], .slice none 0 0, i0, by intro x; simp [find, F1]⟩⟩
  case round =>
    clear i0
    obtain ⟨k, rfl, hk, ⟨E, rv, i0, hA⟩⟩ := hrel
    by_cases hlt : k < many
    · go_wp2_with fail
      refine (add_ok i0.rep (id := k) (by omega) (hA.no (by simp [F1]))).mono ?_
      rintro e w3 ⟨rfl, b, hp⟩
      have i1 := i0.post hp
      have A1 := hA.app (id := k) (by simp [F1]) b .fresh
      clear hp i0
      go_wp2_with fail
      obtain ⟨e1, hf1, hq1⟩ := A1.yes (id := k) (q := .fresh) (by simp [set1])
      refine (attach_ok i1.rep (id := k) hf1 t (by omega)).mono ?_
      rintro e w4 ⟨rfl, hp⟩
      have i2 := i1.post hp
      have A2 := A1.up hf1 { e1.q with thread := t }
      rw [hq1] at A2 i2
      clear hp i1
      go_wp2_with fail
      obtain ⟨e2, hf2, hq2⟩ := A2.yes (id := k) (q := { Irq.fresh with thread := t }) (by simp [set1])
      refine (trigger_new i2.rep (id := k) hf2 (by rw [hq2]; rfl) (by show (rg 0 k).length < _; rw [rg_len]; omega)).mono ?_
      rintro e w5 ⟨rfl, rv', hp⟩
      have i3 := i2.post hp
      have A3 := A2.up hf2 { e2.q with pending := true }
      rw [hq2] at A3 i3
      have Hst : Hid (St w.heap.size w w5 c m (F1 t (k + 1)) (rg 0 (k + 1))) := by
        refine ⟨_, rv', ?_, A3.ext ?_⟩
        · rw [rg_snoc]; exact i3
        · intro x
          by_cases hx : x = k
          · subst hx; simp [set1, F1, Irq.fresh]; omega
          · simp only [set1, hx, if_false, F1]
            have : (0 ≤ x ∧ x < ((k + 1 : Nat) : Int)) ↔ (0 ≤ x ∧ x < (k : Int)) := by omega
            simp only [this]
      clear hp i2 i3 A1 A2 A3 hf1 hf2 hq1 hq2 hA
      go_wp2_with fail
      go_roundw
      case rel => exact ⟨k + 1, by go_num, by omega, Hst.out⟩
      case measure => simp [intOf]; omega
    · obtain rfl : k = many := by omega
      go_wp2_with fail
      rw [show ((wh : Int) % (k : Int)) = ((wh % k : Nat) : Int) from by simp]
      have hwi : wh % k < k := Nat.mod_lt _ (by omega)
      generalize wh % k = wi at hwi ⊢
      have hwi2 : (0 : Int) ≤ wi ∧ (wi : Int) < k := by omega
      obtain ⟨e1, hf1, hq1⟩ := hA.yes (id := wi) (q := ⟨-1, false, t, 0, true⟩) (by unfold F1; rw [if_pos hwi2])
      have hmk := mask_one true E wi hf1
      rw [hq1] at hmk
      refine (mask_new i0.rep true [(wi : Int)] (by simp)).mono ?_
      rintro e w3 ⟨rfl, hp⟩
      have i1 := (i0.alloc _).post hp
      have A1 := hA.up hf1 { e1.q with masked := true }
      simp only [hmk] at i1 ⊢
      rw [hq1] at A1
      clear hp i0 hmk hq1 hf1
      go_wp2_with fail
      obtain ⟨e2, hf2, hq2⟩ := A1.yes (id := wi) (q := ⟨-1, true, t, 0, true⟩) (by simp [set1])
      refine (take_state i1.rep (id := wi) hf2 (by rw [hq2]; rfl)).mono ?_
      rintro e w4 ⟨rfl, rfl⟩
      go_wp2_with fail
      refine (trigger_lost i1.rep (id := wi) hf2 (by rw [hq2]) (by rw [hq2]; exact (by decide : (0 : Int) ≤ 0)) (by rw [hq2]; exact (by decide : (0 : Int) < 4611686018427387904))).mono ?_
      rintro e w4 ⟨rfl, hp⟩
      have i2 := i1.post hp
      have A2 := A1.up hf2 { e2.q with lost := e2.q.lost + 1 }
      rw [hq2] at A2 i2
      clear hp i1 hf2 hq2 A1
      have A3 : At _ (F2 t k wi true 1 0) := A2.ext (by
        intro x
        by_cases hx : x = wi
        · subst hx; simp [set1, F2]; omega
        · simp only [set1, hx, if_false, F1, F2]
          by_cases hx2 : 0 ≤ x ∧ x < (k : Int)
          · simp [hx2]
          · rw [if_neg hx2, if_neg hx2])
      clear A2
      go_wp2_with fail
      obtain ⟨e3, hf3, hq3⟩ := A3.yes (id := wi) (q := ⟨-1, true, t, 1, true⟩) (by simp [F2]; omega)
      refine (lost_some i2.rep (id := wi) hf3).mono ?_
      rintro e w5 ⟨rfl, rfl⟩
      rw [hq3]
      clear hf3
      have hF := first_any c _ t (known_of A3 (m := m) (L := List.replicate 16 0) (rv := rv) (row := rg 0 k) (by
        intro x hx
        have := mem_rg.1 hx
        exact ⟨_, by unfold F2; rw [if_pos ⟨by omega, this.2⟩]⟩)) (by show (rg 0 k).length ≤ _; rw [rg_len]; omega) _ i2.rep
      rw [head_F2 (by omega) (by omega) A3] at hF
      have hcase : ∃ f : Int, Hid ((if k = 1 then (if wi = 0 then (-1 : Int) else 0) else (if wi = 0 then 1 else 0)) = f) ∧
          ((((wi : Int) == 0) = true ∧ ((k : Int) == 1) = true ∧ f = -1) ∨ (((wi : Int) == 0) = true ∧ ((k : Int) == 1) = false ∧ f = 1) ∨ (((wi : Int) == 0) = false ∧ ((k : Int) == 1) = false ∧ f = 0)) := by
        by_cases hk1 : k = 1 <;> by_cases hw0 : wi = 0
        · exact ⟨-1, by show _ = _; simp [hk1, hw0], .inl ⟨by simp [hw0], by simp [hk1], rfl⟩⟩
        · omega
        · exact ⟨1, by show _ = _; simp [hk1, hw0], .inr (.inl ⟨by simp [hw0], by simp; omega, rfl⟩)⟩
        · exact ⟨0, by show _ = _; simp [hk1, hw0], .inr (.inr ⟨by simp; omega, by simp; omega, rfl⟩)⟩
      obtain ⟨f, hf0, hcs⟩ := hcase
      rw [hf0.out] at hF
      clear hf0
      have hk2 : k ≤ 12 := hm2
      have hk3 : 1 ≤ k := hm1
      clear hq3 hA
      rcases hcs with ⟨b1, b2, rfl⟩ | ⟨b1, b2, rfl⟩ | ⟨b1, b2, rfl⟩
      all_goals
        go_wp2_with fail
        refine hF.mono ?_
        rintro e w6 ⟨rfl, hb⟩
        have i3 := i2.grown hb
        clear hb i2 hF
        go_wp2_with fail
        obtain ⟨e4, hf4, hq4⟩ := A3.yes (id := wi) (q := ⟨-1, true, t, 1, true⟩) (by simp [F2]; omega)
        have hmk := mask_one false _ wi hf4
        rw [hq4] at hmk
        refine (mask_new i3.rep false [(wi : Int)] (by simp)).mono ?_
        rintro e w7 ⟨rfl, hp⟩
        have i4 := (i3.alloc _).post hp
        have A4 := A3.up hf4 { e4.q with masked := false }
        simp only [hmk] at i4 ⊢
        rw [hq4] at A4
        clear hp i3 hmk hq4 hf4
        have A5 : At _ (F2 t k wi false 1 0) := A4.ext (by
          intro x
          by_cases hx : x = wi
          · subst hx; simp [set1, F2]; omega
          · simp only [set1, hx, if_false, F2])
        clear A4 A3
        have HS : Hid (St w.heap.size w w7 c m (F2 t k wi false 1 0) (rg 0 k)) := ⟨_, rv, i4, A5⟩
        clear i4 A5
        go_wp2_with fail
        go_loopw [13] (fun iv wr => ∃ a : Nat, iv = .int .i64 a ∧ a ≤ k ∧ St w.heap.size w wr c m (F2 t k wi false 1 a) (rg a k)) (fun iv _ => k - (intOf iv).toNat)
        case atStart => exact ⟨0, rfl, Nat.zero_le _, HS.out⟩
        case round =>
          clear HS b1 b2
          obtain ⟨a, rfl, ha, ⟨E, rv, i5, A5⟩⟩ := hrel
          have hF5 := first_any c _ t (known_of A5 (m := m) (L := List.replicate 16 0) (rv := rv) (row := rg a k) (by
            intro x hx
            have := mem_rg.1 hx
            exact ⟨_, by unfold F2; rw [if_pos ⟨by omega, this.2⟩]⟩)) (by show (rg a k).length ≤ _; rw [rg_len]; omega) _ i5.rep
          rw [rl_false (by omega) A5] at hF5
          by_cases hal : a < k
          · rw [rg_cons hal, List.headD_cons] at hF5
            go_wp2_with fail
            refine hF5.mono ?_
            rintro e w8 ⟨rfl, hb⟩
            have i6 := i5.grown hb
            clear hb i5 hF5
            have ha2 : (0 : Int) ≤ a ∧ (a : Int) < k := by omega
            obtain ⟨e5, hf5, hq5⟩ := A5.yes (id := a) (q := ⟨-1, false, t, if (a : Int) = wi then 1 else 0, true⟩) (by unfold F2; rw [if_pos ha2]; simp)
            go_wp2_with fail
            refine (take_ok i6.rep (id := a) hf5 (by rw [hq5]; exact rdy_t _ _ (by omega)) (by show (rg a k).length ≤ _; rw [rg_len]; omega)).mono ?_
            rintro e w9 ⟨rfl, rv', hp⟩
            have i7 := i6.post hp
            have A6 := A5.up hf5 { e5.q with pending := false }
            rw [hq5] at A6 i7
            obtain ⟨e6, hf6, hq6⟩ := A6.yes (id := a) (q := ⟨-1, false, t, if (a : Int) = wi then 1 else 0, false⟩) (by simp [set1])
            clear hp i6 hf5 hq5 A5
            go_wp2_with fail
            refine (take_state i7.rep (id := a) hf6 (by rw [hq6]; rfl)).mono ?_
            rintro e w10 ⟨rfl, rfl⟩
            have HS : Hid (St w.heap.size w w9 c m (F2 t k wi false 1 (a + 1)) (rg (a + 1) k)) := by
              refine ⟨_, rv', ?_, A6.ext ?_⟩
              · rw [← flt_rg hal]; exact i7
              · intro x
                by_cases hx : x = a
                · subst hx; simp only [set1, if_true, F2]; rw [if_pos ha2]; simp; omega
                · simp only [set1, hx, if_false, F2]
                  have : decide ((a : Int) ≤ x) = decide (((a + 1 : Nat) : Int) ≤ x) := by rw [decide_eq_decide]; omega
                  rw [this]
            clear hf6 hq6 i7 A6
            go_wp2_with fail
            go_roundw
            case rel => exact ⟨a + 1, by go_num, by omega, HS.out⟩
            case measure => simp [intOf]; omega
          · obtain rfl : a = k := by omega
            rw [rg_nil (Nat.le_refl _)] at hF5
            have hrow : Hid (rg a a = []) := rg_nil (Nat.le_refl _)
            go_wp2_with fail
            refine hF5.mono ?_
            rintro e w8 ⟨rfl, hb⟩
            have i6 := i5.grown hb
            clear hb i5 hF5
            go_wp2_with fail
            refine (pending_any i6.rep (by show (rg a a).length ≤ _; rw [rg_len]; omega)).mono ?_
            rintro e w9 ⟨v, rfl, ho, hg⟩
            have i7 := i6.grown (below_of_grown hg)
            have hv : ∃ p cp, v = .slice p 0 cp := by
              have ho' := ho.2
              have hz : (rg a a).length = 0 := by rw [rg_len]; omega
              rcases ho' with ⟨rfl, _⟩ | ⟨g, cp, _, rfl, _⟩
              · exact ⟨_, _, rfl⟩
              · exact ⟨_, cp, by show Value.slice _ (rg a a).length cp = _; rw [hz]⟩
            obtain ⟨p, cp, rfl⟩ := hv
            clear ho hg i6
            go_wp2_with fail
            go_ret
            exact ⟨rfl, i7.bel⟩
end Go.Proofs.Ytekgfdfganelmaa
