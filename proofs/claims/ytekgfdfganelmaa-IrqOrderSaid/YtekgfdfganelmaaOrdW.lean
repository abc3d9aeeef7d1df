/- IrqOrder's walk: it answers true at every input. Conditions: the numbers that came in read as bytes. -/
import Derived.Test.YtekgfdfganelmaaOrder
namespace Go.Proofs.Ytekgfdfganelmaa
open Go.RowKit

theorem lines_next {L : List Int} {k : Nat} (hL : Lines L k) (hlen : L.length = 16) (hk : k < 16) : Lines (L.set k ((k : Int) + 1)) (k + 1) := by
  intro j hj
  by_cases e : j = k
  · subst e
    simp [hlen, hj]
  · have : (L.set k ((k : Int) + 1))[j]?.getD 0 = L[j]?.getD 0 := by simp [List.getElem?_set_ne (Ne.symm e)]
    rw [this, hL j hj]
    by_cases h : j < k
    · rw [if_pos h, if_pos (by omega)]
    · rw [if_neg h, if_neg (by omega)]

theorem known_of3 {E : List Ent} {Lf : Int → Int} {R : List Int} {m : Nat} {L : List Int} {rv : Value} (hA : At E (F3 16 Lf R)) (h : ∀ x ∈ R, 0 ≤ x ∧ x < 16) : Known ⟨m, E, L, R, rv⟩ := by
  intro x hx
  obtain ⟨e, he, _⟩ := hA.yes (F3_in (n := 16) (h x hx))
  exact ⟨e, he⟩
theorem rowShape {w : World} {base : Nat} {v : Value} {n : Nat} {xs : List Value} (h : w.ownsRow base 3 1 v n xs) : ∃ p cp, v = .slice p n cp := by
  rcases h.2 with ⟨rfl, rfl⟩ | ⟨g, cp, _, rfl, _⟩
  · exact ⟨_, _, rfl⟩
  · exact ⟨_, cp, rfl⟩
theorem O3.start {B : Nat} {w0 wr : World} {c m bc i : Nat} {R : List Int} {ev od sv : Value} (h : O2 B w0 wr c m bc i R ev od) (hi : i ≤ 100) {t : Int} (hs : (t = 0 ∧ sv = ev) ∨ (t = 1 ∧ sv = od)) : O3 B w0 wr c m t (par t R) 0 sv := by
  obtain ⟨E, L, rv, Lf, hin, hA, hL, hLf, n1, n2, n3⟩ := h.ctl
  have hl := h.len
  rcases hs with ⟨rfl, rfl⟩ | ⟨rfl, rfl⟩
  · exact ⟨⟨E, L, R, rv, Lf, hin, hA, fun x => by have := hLf x; omega, n2, h.nd, h.rng, by omega, rfl⟩, h.evs⟩
  · exact ⟨⟨E, L, R, rv, Lf, hin, hA, fun x => by have := hLf x; omega, n3, h.nd, h.rng, by omega, rfl⟩, h.ods⟩
theorem O3.next {B : Nat} {w0 wr w' : World} {c m j : Nat} {t : Int} {S : List Int} {sv : Value} (h : O3 B w0 wr c m t S j sv) {E : List Ent} {L R : List Int} {rv rv' : Value} {Lf : Int → Int} {x : Int}
    (hin : In B w0 wr c ⟨m, E, L, R, rv⟩) (hA : At E (F3 16 Lf R)) (hLf : ∀ x, 0 ≤ Lf x ∧ Lf x ≤ 100) (nS : ∀ b, sv.ownBlock = some b → ¬ fp c ⟨m, E, L, R, rv⟩ b) (hnd : R.Nodup) (hrng : ∀ x ∈ R, 0 ≤ x ∧ x < 16) (hRl : R.length ≤ 100)
    (hpar : par t R = x :: S.drop (j + 1)) {e : Ent} (hf : find E x = some e) (hx : 0 ≤ x ∧ x < 16) (hq : e.q = ⟨x, false, x % 2, Lf x, true⟩)
    (p : Post c wr ⟨m, E, L, R, rv⟩ ⟨m, upd E x { e.q with pending := false }, L, flt R x, rv'⟩ w') : O3 B w0 w' c m t S (j + 1) sv := by
  have hA2 := hA.up hf { e.q with pending := false }
  refine ⟨⟨_, L, flt R x, rv', Lf, hin.post p, hA2.ext ?_, hLf, fun b hb => (p.keep (ownsRow_lt h.row hb).2 (nS b hb)).2, flt_nodup x hnd, fun y hy => hrng y (mem_flt.1 hy).1, Nat.le_trans (flt_le R x) hRl, flt_head hnd hpar⟩,
    ownsRow_keep h.row fun b hb => (p.keep (ownsRow_lt h.row hb).2 (nS b hb)).1⟩
  intro y
  by_cases hy : y = x
  · subst hy
    rw [F3_in (n := 16) hx]
    simp [set1, hq, mem_flt]
  · simp only [set1, hy, if_false, F3]
    have : decide (y ∈ flt R x) = decide (y ∈ R) := by rw [decide_eq_decide, mem_flt]; simp [hy]
    rw [this]
theorem O3.below {B : Nat} {w0 wr w' : World} {c m j : Nat} {t : Int} {S : List Int} {sv : Value} (h : O3 B w0 wr c m t S j sv) (hb : Below wr.heap.size wr w') : O3 B w0 w' c m t S j sv := by
  obtain ⟨E, L, R, rv, Lf, hin, r⟩ := h.ctl
  exact ⟨⟨E, L, R, rv, Lf, hin.grown hb, r⟩, ownsRow_keep h.row fun b hb' => hb.block b (ownsRow_lt h.row hb').2⟩

set_option maxHeartbeats 20000000 in
theorem order_any (a0 : Option Addr) (len cap : Nat) (zs : Nat → Nat) (o : Nat) (ho : o < 256) (w : World)
    (hz : ∀ j, j < len → zs j < 256 ∧ ∃ gb go, a0 = some ⟨gb, go, none⟩ ∧ gb < w.heap.size ∧ w.cell? ⟨gb, go + j, none⟩ = some (.int .u8 (zs j))) (h100 : len ≤ 100) :
    Calls Try.prog 4 #[.slice a0 len cap, .int .u8 o] w fun e w' => e = .returned (.bool true) ∧ Below w.heap.size w w' := by
  have hng : ¬ (100 < len) := by omega
  have HZ : Hid (∀ j, j < len → zs j < 256 ∧ ∃ gb go, a0 = some ⟨gb, go, none⟩ ∧ gb < w.heap.size ∧ w.cell? ⟨gb, go + j, none⟩ = some (.int .u8 (zs j))) := hz
  clear hz
  go_enter Try.func4, Try.ntmps4
  go_wp2_with fail
  refine (alive_any w).mono ?_
  rintro e w1 ⟨rfl, hb0⟩
  go_wp2_with fail
  refine (new_any w1).mono ?_
  rintro e w2 ⟨c, m, rfl, hr, hch, hfp⟩
  have i0 : In w.heap.size w w2 c (G.new m) := ⟨hr, fun b hb => Nat.le_trans hb0.size (hfp b hb), hb0.trans ((hch.below (Nat.le_refl _) (fun _ h => h.elim)).mono hb0.size), Nat.le_trans hb0.size hch.size⟩
  clear hr hch hfp hb0
  go_wp2_with fail
  go_loopw [6] (fun iv wr => ∃ k : Nat, iv = .int .i64 k ∧ k ≤ 16 ∧ O1 w.heap.size w wr c m k) (fun iv _ => 16 - (intOf iv).toNat)
  case atStart => exact ⟨0, rfl, by omega, [], List.replicate 16 0, .slice none 0 0, i0, by intro x; simp [find, F3], by intro j hj; rw [if_neg (by omega), List.getElem?_replicate]; split <;> rfl⟩
  case round =>
    clear i0
    obtain ⟨k, rfl, hk, E, L, rv, i0, hA, hL⟩ := hrel
    by_cases hlt : k < 16
    · go_wp2_with fail
      refine (add_ok i0.rep (id := k) (by omega) (hA.no (by simp [F3]))).mono ?_
      rintro e w3 ⟨rfl, b, hp⟩
      have i1 := i0.post hp
      have A1 := hA.app (id := k) (by simp [F3]) b .fresh
      clear hp
      go_wp2_with fail
      obtain ⟨e1, hf1, hq1⟩ := A1.yes (id := k) (q := .fresh) (by simp [set1])
      have hlk : L[k]?.getD 0 = 0 := by rw [hL k hlt, if_neg (by omega)]
      refine (bind_ok i1.rep (id := k) hf1 k hlt (by rw [hq1]; rfl) hlk (by omega) (by omega)).mono ?_
      rintro e w4 ⟨rfl, hp⟩
      have i2 := i1.post hp
      have A2 := A1.up hf1 { e1.q with line := k }
      rw [hq1] at A2 i2
      clear hp i1
      go_wp2_with fail
      obtain ⟨e2, hf2, hq2⟩ := A2.yes (id := k) (q := { Irq.fresh with line := k }) (by simp [set1])
      refine (attach_ok i2.rep (id := k) hf2 ((k : Int) % 2) (by omega)).mono ?_
      rintro e w5 ⟨rfl, hp⟩
      have i3 := i2.post hp
      have A3 := A2.up hf2 { e2.q with thread := (k : Int) % 2 }
      rw [hq2] at A3 i3
      have HS : Hid (O1 w.heap.size w w5 c m (k + 1)) := by
        refine ⟨_, _, _, i3, A3.ext ?_, lines_next hL i0.rep.len hlt⟩
        intro x
        by_cases hx : x = k
        · subst hx; simp [set1, F3, Irq.fresh]; omega
        · simp only [set1, hx, if_false, F3]
          have : (0 ≤ x ∧ x < ((k + 1 : Nat) : Int)) ↔ (0 ≤ x ∧ x < (k : Int)) := by omega
          simp only [this]
      clear hp i2 i3 i0 A1 A2 A3 hf1 hf2 hq1 hq2 hA hL hlk
      go_wp2_with fail
      go_roundw
      case rel => exact ⟨k + 1, by go_num, by omega, HS.out⟩
      case measure => simp [intOf]; omega
    · obtain rfl : k = 16 := by omega
      obtain ⟨wo, rfl⟩ : ∃ wo : World, wo = wr := ⟨_, rfl⟩
      have HS : Hid (O2 w.heap.size w (wo.alloc (.cells (cameCells []).toArray 35)) c m wo.heap.size 0 [] (.slice none 0 0) (.slice none 0 0)) := by
        refine ⟨⟨E, L, rv, fun _ => 0, i0.alloc _, hA, hL, by simp, fun hf => by have := i0.rep.lt hf; omega, by simp [Value.ownBlock], by simp [Value.ownBlock]⟩, Cells.new wo 35 _, i0.le, World.ownsRow_nil _ _ _ _, World.ownsRow_nil _ _ _ _, by simp [Value.ownBlock], by simp, by simp, Nat.zero_le _⟩
      clear i0 hA hL
      go_wp2_with fail
      go_loopw [8, 9, 10] (fun ev od iv w3 => ∃ i R, iv = .int .i64 (i : Nat) ∧ i ≤ len ∧ O2 w.heap.size w w3 c m wo.heap.size i R ev od) (fun _ _ iv _ => len - (intOf iv).toNat)
      case atStart => exact ⟨0, [], rfl, Nat.zero_le _, HS.out⟩
      case round =>
        clear HS
        obtain ⟨i, R, rfl, hi, hO⟩ := hrel
        by_cases hlt2 : i < len
        · obtain ⟨hz1, gb, go, rfl, hgb, hcell⟩ := HZ.out i hlt2
          obtain ⟨E, L, rv, Lf, hin, hA, hL, hLf, n1, n2, n3⟩ := hO.ctl
          have hcx : wr.cell? ⟨gb, go + i, none⟩ = some (.int .u8 (zs i)) := (hin.bel.cell (p := ⟨gb, go + i, none⟩) hgb).trans hcell
          clear hcell
          generalize zs i = z at hz1 hcx
          go_wp2_with fail
          rw [show ((z : Int) % 16) = ((z % 16 : Nat) : Int) from by omega]
          have hk : z % 16 < 16 := by omega
          generalize z % 16 = k at hk ⊢
          have hkk : 0 ≤ (k : Int) ∧ (k : Int) < 16 := by omega
          have hLk : L[k]?.getD 0 = (k : Int) + 1 := by rw [hL k hk, if_pos hk]
          by_cases hkR : (k : Int) ∈ R
          · obtain ⟨e, hf, hq⟩ := hA.yes (id := k) (q := ⟨k, false, k % 2, Lf k, true⟩) (by rw [F3_in (n := 16) hkk]; simp [hkR])
            refine (raise_some hin.rep k hk k hLk (by omega) (by omega) 0 _ (trigger_lost hin.rep (id := k) hf (by rw [hq]) (by rw [hq]; exact (hLf k).1) (by rw [hq]; have := (hLf k).2; show Lf k < _; omega))).mono ?_
            rintro e' w4 ⟨rfl, hp⟩
            have hO2 := hO.again hin hA hL hLf n1 n2 n3 hk hf hq hkR hp
            have hcm := hO2.came.cell k _ (came_get R k hk)
            rw [show decide ((k : Int) ∈ R) = true from by simp [hkR]] at hcm
            clear hp hf hq hin hA hL hLf n1 n2 n3 hO hkR hLk
            go_wp2_with fail
            go_roundw
            case rel =>
              (repeat apply Exists.intro)
              exact ⟨⟨i + 1, R, by go_num, by omega, hO2⟩, rfl⟩
            case measure => simp [intOf]; omega
          · obtain ⟨e, hf, hq⟩ := hA.yes (id := k) (q := ⟨k, false, k % 2, Lf k, false⟩) (by rw [F3_in (n := 16) hkk]; simp [hkR])
            refine (raise_some hin.rep k hk k hLk (by omega) (by omega) 0 _ (trigger_new hin.rep (id := k) hf (by rw [hq]) (by have := hO.len; show R.length < _; omega))).mono ?_
            rintro e' w4 ⟨rfl, rv', hp⟩
            have hO2 := hO.fresh hin hA hL hLf n1 n2 n3 hk hf hq hkR hp
            have hc4 := hO.came.same (hp.keep hO.came.lt n1).1
            have hcm := hc4.cell k _ (came_get R k hk)
            have hcf := hc4.free k
            rw [show decide ((k : Int) ∈ R) = false from by simp [hkR]] at hcm
            have hRl : R.length ≤ 100 := by have := hO.len; omega
            clear hp hf hq hin hA hL hLf n1 n2 n3 hO hkR hLk hc4
            generalize hw5 : w4.setCell ⟨wo.heap.size, k, none⟩ (.bool true) = w5 at hO2
            obtain ⟨i0, hi0, hz0, hz1', hz2⟩ := info_parts Try.info3
            have hpl0 : (par 0 R).length ≤ 100 := Nat.le_trans (List.length_filter_le _ _) hRl
            have hpl1 : (par 1 R).length ≤ 100 := Nat.le_trans (List.length_filter_le _ _) hRl
            have hB5 : w.heap.size ≤ w5.heap.size := by obtain ⟨E, L, rv, Lf, hin, _⟩ := hO2.ctl; exact hin.le
            by_cases hpar : (k : Int) % 2 = 0
            · have hpb : ((k : Int) % 2 == 0) = true := by simpa using hpar
              have hevs := hO2.evs
              have HO : Hid (O2n w.heap.size w w5 c m wo.heap.size i k R u8 u9) := hO2
              have Hpar : Hid ((k : Int) % 2 = 0) := by show _ = _; omega
              clear hO2 hpar
              have hst : ∀ (v' : Value) (w6 : World), w6.ownsRow w.heap.size 3 1 v' ((par 0 R).length + 1) ((par 0 R).map (Value.int .i64) ++ [.int .i64 k]) → (w5.alloc (.cells #[.int .i64 k] 3)).grownBy w6 u8.ownBlock → (v'.ownBlock = u8.ownBlock ∨ v'.ownBlock = some (w5.alloc (.cells #[.int .i64 k] 3)).heap.size) → Hid (O2 w.heap.size w w6 c m wo.heap.size (i + 1) (R ++ [(k : Int)]) v' u9) :=
                fun v' w6 h1 h2 h3 => HO.out.even Hpar.out h1 h2 h3
              have Hst := Hid.out (p := _) hst
              have HST : Hid _ := Hst
              clear Hst hst
              generalize (par 0 R).map (Value.int .i64) = pm at hevs HST
              generalize (par 0 R).length = pl at hpl0 hevs HST
              go_wp2_with (at_builtin; refine wpList_append_own_at _ rfl _ _ 31 rfl w.heap.size 3 i0 (.int .i64 0) 1 8 Try.underlying31 hi0 hz0 hz1' hz2 rfl (by decide) u8 pl pm rfl (hevs.alloc _) _ 1 1 [.int .i64 k] rfl rfl (cell_one_new _ _ _) (by simp [Value.oneCell']) (by unfold maxLen; omega) (by omega) (by simp; omega) ?_; intro v' w6 hown' hgrow _ hat; obtain ⟨gg, cp, rfl⟩ := ownsRow_succ hown')
              go_roundw
              case rel =>
                (repeat apply Exists.intro)
                exact ⟨⟨i + 1, R ++ [(k : Int)], by go_num, by omega, (HST.out _ _ hown' hgrow hat).out⟩, rfl⟩
              case measure => simp [intOf]; omega
            · have hpb : ((k : Int) % 2 == 0) = false := by simpa using hpar
              have hevs := hO2.ods
              have HO : Hid (O2n w.heap.size w w5 c m wo.heap.size i k R u8 u9) := hO2
              have Hpar : Hid ((k : Int) % 2 = 1) := by show _ = _; omega
              clear hO2 hpar
              have hst : ∀ (v' : Value) (w6 : World), w6.ownsRow w.heap.size 3 1 v' ((par 1 R).length + 1) ((par 1 R).map (Value.int .i64) ++ [.int .i64 k]) → (w5.alloc (.cells #[.int .i64 k] 3)).grownBy w6 u9.ownBlock → (v'.ownBlock = u9.ownBlock ∨ v'.ownBlock = some (w5.alloc (.cells #[.int .i64 k] 3)).heap.size) → Hid (O2 w.heap.size w w6 c m wo.heap.size (i + 1) (R ++ [(k : Int)]) u8 v') :=
                fun v' w6 h1 h2 h3 => HO.out.odd Hpar.out h1 h2 h3
              have Hst := Hid.out (p := _) hst
              have HST : Hid _ := Hst
              clear Hst hst
              generalize (par 1 R).map (Value.int .i64) = pm at hevs HST
              generalize (par 1 R).length = pl at hpl1 hevs HST
              go_wp2_with (at_builtin; refine wpList_append_own_at _ rfl _ _ 31 rfl w.heap.size 3 i0 (.int .i64 0) 1 8 Try.underlying31 hi0 hz0 hz1' hz2 rfl (by decide) u9 pl pm rfl (hevs.alloc _) _ 1 1 [.int .i64 k] rfl rfl (cell_one_new _ _ _) (by simp [Value.oneCell']) (by unfold maxLen; omega) (by omega) (by simp; omega) ?_; intro v' w6 hown' hgrow _ hat; obtain ⟨gg, cp, rfl⟩ := ownsRow_succ hown')
              go_roundw
              case rel =>
                (repeat apply Exists.intro)
                exact ⟨⟨i + 1, R ++ [(k : Int)], by go_num, by omega, (HST.out _ _ hown' hgrow hat).out⟩, rfl⟩
              case measure => simp [intOf]; omega
        · obtain rfl : i = len := by omega
          have hcase : ∃ (b : Bool) (sv : Value) (S : List Int), Hid (sv = if b then u9 else u8) ∧ ((o : Int) % 2 == 1) = b ∧ O3 w.heap.size w wr c m ((o : Int) % 2) S 0 sv := by
            by_cases hod : (o : Int) % 2 = 1
            · exact ⟨true, u9, par 1 R, rfl, by simpa using hod, by rw [hod]; exact O3.start hO h100 (.inr ⟨rfl, rfl⟩)⟩
            · have h0 : (o : Int) % 2 = 0 := by omega
              exact ⟨false, u8, par 0 R, rfl, by simpa using hod, by rw [h0]; exact O3.start hO h100 (.inl ⟨rfl, rfl⟩)⟩
          obtain ⟨b, sv, S, hsv, hb, h3⟩ := hcase
          clear hO
          have hSl : S.length ≤ 100 := by
            obtain ⟨E, L, R, rv, Lf, hin, hA, hLf, nS, hnd, hrng, hRl, hpar⟩ := h3.ctl
            have h1 := congrArg List.length hpar
            have h2 := List.length_filter_le (fun x : Int => x % 2 == (o : Int) % 2) R
            unfold par at h1
            rw [List.drop_zero] at h1
            omega
          obtain ⟨pp, cp, hsh⟩ := rowShape h3.row
          cases b
          all_goals
            have hsv2 := hsv.out
            simp only [if_true, if_false, Bool.false_eq_true] at hsv2
            subst hsv2
            subst hsh
            have H3 : Hid (O3 w.heap.size w wr c m ((o : Int) % 2) S 0 (.slice pp S.length cp)) := h3
            clear h3 hsv
            go_wp2_with fail
            obtain ⟨wp, rfl⟩ : ∃ wp : World, wp = wr := ⟨_, rfl⟩
            go_loopw [12] (fun jv wr => ∃ j : Nat, jv = .int .i64 j ∧ j ≤ S.length ∧ O3 w.heap.size w wr c m ((o : Int) % 2) S j (.slice pp S.length cp)) (fun jv _ => S.length - (intOf jv).toNat)
            case atStart => exact ⟨0, rfl, Nat.zero_le _, H3.out⟩
            case round =>
              clear H3
              obtain ⟨j, rfl, hj, h3⟩ := hrel
              obtain ⟨E, L, R, rv, Lf, hin, hA, hLf, nS, hnd, hrng, hRl, hpar⟩ := h3.ctl
              have hkn : Known ⟨m, E, L, R, rv⟩ := known_of3 hA hrng
              have hrl := rl_F3 hA hrng ((o : Int) % 2) m L rv
              by_cases hlt3 : j < S.length
              · have hd : S.drop j = S[j]?.getD 0 :: S.drop (j + 1) := by rw [List.drop_eq_getElem_cons hlt3]; simp [hlt3]
                have hcx : ∃ g, pp = some ⟨g, 0, none⟩ ∧ wr.cell? ⟨g, j, none⟩ = some (.int .i64 (S[j]?.getD 0)) ∧ g < wr.heap.size := by
                  rcases h3.row.2 with ⟨_, hz⟩ | ⟨g, cap', cur, hv, _⟩
                  · omega
                  · cases hv
                    exact ⟨g, rfl, ownsRow_get h3.row j hlt3, (ownsRow_lt h3.row rfl).2⟩
                obtain ⟨g, rfl, hcj, hglt⟩ := hcx
                generalize S[j]?.getD 0 = x at hd hcj
                rw [hd] at hpar
                have hxR : x ∈ R := by
                  have : x ∈ par ((o : Int) % 2) R := by rw [hpar]; simp
                  exact (List.mem_filter.1 this).1
                have hx := hrng x hxR
                obtain ⟨e, hf, hq⟩ := hA.yes (id := x) (q := ⟨x, false, x % 2, Lf x, true⟩) (by rw [F3_in (n := 16) hx]; simp [hxR])
                have hF := first_any c _ ((o : Int) % 2) hkn (by show R.length ≤ _; omega) wr.drew hin.rep.drew
                rw [hrl, show R.filter (fun x => x % 2 == (o : Int) % 2) = x :: S.drop (j + 1) from hpar, List.headD_cons] at hF
                have hrdy : e.q.rdy = true := by rw [hq]; exact rdy3 true hx.1
                have HN : Hid (∀ (w' : World), Below wr.drew.heap.size wr.drew w' → In w.heap.size w w' c ⟨m, E, L, R, rv⟩ ∧ O3 w.heap.size w w' c m ((o : Int) % 2) S j (.slice (some ⟨g, 0, none⟩) S.length cp) ∧ w'.cell? ⟨g, j, none⟩ = some (.int .i64 x)) :=
                  fun w' hb => ⟨hin.drew.grown hb, (h3.below (below_of_chg (Chg.refl _ wr).drew)).below hb, (hb.cell (p := ⟨g, j, none⟩) hglt).trans hcj⟩
                have HT : Hid (∀ (w' : World), In w.heap.size w w' c ⟨m, E, L, R, rv⟩ → Calls Try.prog 14 #[.pointer (some ⟨c, 0, none⟩), .int .i64 x] w' fun r w'' => r = .returned (.int .i64 0) ∧ ∃ rv', Post c w' ⟨m, E, L, R, rv⟩ ⟨m, upd E x { e.q with pending := false }, L, flt R x, rv'⟩ w'') :=
                  fun w' hi => take_ok hi.rep hf hrdy (by show R.length ≤ _; omega)
                have HE : Hid (∀ (w' w'' : World), In w.heap.size w w' c ⟨m, E, L, R, rv⟩ → O3 w.heap.size w w' c m ((o : Int) % 2) S j (.slice (some ⟨g, 0, none⟩) S.length cp) → (∃ rv', Post c w' ⟨m, E, L, R, rv⟩ ⟨m, upd E x { e.q with pending := false }, L, flt R x, rv'⟩ w'') → O3 w.heap.size w w'' c m ((o : Int) % 2) S (j + 1) (.slice (some ⟨g, 0, none⟩) S.length cp)) :=
                  fun w' w'' hi ho ⟨rv', hp⟩ => ho.next hi hA hLf nS hnd hrng hRl hpar hf hx hq hp
                clear hA hLf nS hnd hrng hpar hkn hrl h3 hf hq hrdy hin hd
                go_wp2_with fail
                have hm1 : IntKind.i64.wrap (o : Int) = o := Go.IntWalk.i64_in _ (by omega)
                have hm2 : (o : Int).tmod 2 = (o : Int) % 2 := Int.tmod_eq_emod_of_nonneg (by omega)
                go_region_with (first | (go_at_call 16; refine hF.mono ?_; rintro e9 w9 ⟨rfl, hb9⟩; obtain ⟨i9, o9, c9⟩ := HN.out _ hb9; clear hb9) | (go_at_call 14; refine (HT.out _ i9).mono ?_; rintro e10 w10 ⟨rfl, hp10⟩; have o10 := HE.out _ _ i9 o9 hp10; clear hp10))
                all_goals clear hm1 hm2
                all_goals go_wp2
                all_goals go_roundw
                all_goals first
                  | exact ⟨j + 1, by go_num, by omega, o10⟩
                  | ((repeat apply Exists.intro); exact ⟨⟨j + 1, by go_num, by omega, o10⟩, rfl⟩)
                  | (simp [intOf]; omega)
              · obtain rfl : j = S.length := by omega
                rw [List.drop_length] at hpar
                have hF := first_any c _ ((o : Int) % 2) hkn (by show R.length ≤ _; omega) _ hin.rep
                rw [hrl, show R.filter (fun x => x % 2 == (o : Int) % 2) = [] from hpar] at hF
                clear hA hLf nS hnd hrng hpar hkn hrl h3
                go_wp2_with fail
                refine hF.mono ?_
                rintro e w9 ⟨rfl, hb9⟩
                have hbel := (hin.grown hb9).bel
                clear hin hF hb9
                go_wp2_with fail
                go_ret
                exact ⟨rfl, hbel⟩
end Go.Proofs.Ytekgfdfganelmaa
