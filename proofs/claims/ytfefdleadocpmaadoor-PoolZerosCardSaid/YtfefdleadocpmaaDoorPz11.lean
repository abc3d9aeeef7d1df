/- PoolZeros returns true at every input, with the three listed tables tied to the program's text. No condition. Part of its proof. -/
import Derived.Test.YtfefdleadocpmaaDoorPz09
import Derived.Test.YtfefdleadocpmaaDoorPz10
import Derived.Test.YtfefdleadocpmaaDoorPz03
/- The pool's example, as the law's package has it: what its calls come to. Conditions: the blocks hold what PL.hl says. -/
namespace Go.Proofs.YtfefdleadocpmaaDoor
open Go.RowKit

theorem used_nil {c : CA} (h : c.used = []) (hb : ∀ x ∈ c.pg, cntB x.1.bits ≠ 0) : c.pg = [] := by
  cases hp : c.pg with
  | nil => rfl
  | cons x r =>
    exfalso
    have hx : x ∈ c.pg := by rw [hp]; simp
    have h1 := hb x hx
    rw [← trues_len] at h1
    obtain ⟨i, hi⟩ := List.exists_mem_of_length_pos (Nat.pos_of_ne_zero h1)
    have : addr c.size x.2 i ∈ c.used := mem_used.2 ⟨x, hx, i, mem_trues.1 hi, rfl⟩
    rw [h] at this
    cases this
/-- Nothing is used: no cache has a page. -/
theorem empty_pg {P : PL} {fr : List Nat} (ok : P.Ok fr) (h : ∀ j, P.usedOf j = []) : ∀ (k : Nat) (c : CA), P.cs[k]? = some c → c.pg = [] := by
  intro k c hc
  have hcls : P.Cls (k + 1) c := ⟨by omega, by simpa using hc⟩
  have := h (k + 1)
  rw [usedOf_cls hcls] at this
  exact used_nil this (PL.busyC ok hc)
theorem empty_pages {P : PL} {fr : List Nat} (ok : P.Ok fr) (h : ∀ j, P.usedOf j = []) : P.pages = [] := by
  unfold PL.pages
  rw [List.flatMap_eq_nil_iff]
  intro c hc
  obtain ⟨k, hk⟩ := List.mem_iff_getElem?.1 hc
  rw [empty_pg ok h k c hk]; rfl
theorem empty_ps {P : PL} (ok : P.Ok []) (h : ∀ j, P.usedOf j = []) : P.d.ps = [] := by
  have := ok.pages
  rw [empty_pages ok h] at this
  exact List.nil_perm.1 this
theorem fresh_used {P : PL} {top : Nat} {limit : Int} (h : FreshP P top limit) (j : Nat) : P.usedOf j = [] := by
  unfold PL.usedOf
  split
  · split
    · rename_i c hc
      unfold CA.used
      rw [(h.cs _ c hc).2.2.2]; rfl
    · rfl
  · rfl
/-- The example's pool: so much charged of 100, these places of class 1 used. -/
structure AlS (P : PL) (ch : Int) (us : List Nat) : Prop where
  ok : P.Ok []
  top : P.d.top = 6
  q : ∃ e, find P.q.E 0 = some e ∧ e.q.limit = 100 ∧ e.q.charged = ch ∧ e.q.given = 0
  one : P.usedOf 1 = us
  other : ∀ j, j ≠ 1 → P.usedOf j = []
theorem fst_new : (∀ k, k < 6 → fstG (fre (uOf []) 6) 6 k 0 = none) ∧ fstG (fre (uOf []) 6) 6 6 0 = some 0 := by decide +kernel
theorem take_new_pool {c : CA} {d : BD} {a : Nat} {ps' : List Nat} (hpg : c.pg = []) (hps : d.ps = []) (ht : d.top = 6) (h : TakeW c d a ps') : a = 64 ∧ ps' = [0] := by
  rcases h with ⟨k, x, i, hx, _⟩ | ⟨_, k0, i0, hk, hf, hp, ha, hq⟩
  · rw [hpg] at hx; simp at hx
  · rw [hps, ht] at hf hp
    rw [ht] at hk
    obtain ⟨f1, f2⟩ := fst_new
    have hk6 : k0 = 6 := by
      rcases Nat.lt_or_ge k0 6 with e | e
      · rw [f1 k0 e] at hf; cases hf
      · omega
    subst hk6
    rw [f2] at hf
    cases hf
    rw [hps] at hq
    exact ⟨by rw [ha]; unfold addr; omega, by rw [hq]; rfl⟩
theorem noroom_new {P : PL} {n : Nat} (h : ∀ (k : Nat) (c : CA), P.cs[k]? = some c → c.pg = []) (hps : P.d.ps = []) (ht : P.d.top = 6) : ¬ NoRoom P n := by
  rintro ⟨c, hc, _, hn⟩
  rw [hps, ht] at hn
  have := hn 6 (Nat.le_refl _)
  rw [fst_new.2] at this
  cases this
theorem word8_zero (m : List Nat) (a n : Nat) (hn : 8 ≤ n) (hl : a ≤ m.length) : word8 (put_ m a (List.replicate n 0)) a = 0 := by
  unfold word8 put_
  rw [List.append_assoc, List.drop_append_of_le_length (by rw [List.length_take]; omega), List.drop_of_length_le (by rw [List.length_take]; omega), List.nil_append, List.take_append_of_le_length (by simpa using hn), List.take_replicate, Nat.min_eq_left hn]
  rfl
theorem al_get {w : World} {P : PL} (h : Sep w P.hl) (al : AlS P 0 []) : Calls Tryd.prog 8 #[.pointer (some ⟨P.p, 0, none⟩), .int .i64 0, .int .i64 1] w fun r w' => r = .returned (.tuple #[.int .i64 64, .int .i64 0]) ∧
    ∃ P', P'.p = P.p ∧ P'.q.t = P.q.t ∧ P'.d.b = P.d.b ∧ P'.a.a = P.a.a ∧ AlS P' 64 [64] ∧ P'.d.ps = [0] ∧ word8 P'.a.mem 64 = 0 ∧ Step P.hl P'.hl w w' := by
  have hall : ∀ j, P.usedOf j = [] := fun j => by
    by_cases e : j = 1
    · rw [e]; exact al.one
    · exact al.other j e
  have hpg := empty_pg al.ok hall
  have hps := empty_ps al.ok hall
  obtain ⟨e, hf, q1, q2, q3⟩ := al.q
  refine (pget_any h al.ok 0 1).mono ?_
  rintro r w' (⟨h0, _⟩ | ⟨_, h0, _⟩ | ⟨_, ⟨e', h0, h1⟩, _⟩ | ⟨n, e', hn, _, _, h0, _, hr⟩)
  · exact absurd h0 (by decide)
  · rw [hf] at h0; cases h0
  · rw [hf] at h0; cases h0
    rw [q1, q2, q3] at h1
    exact absurd h1 (by decide)
  · have hn1 : n = 1 := by omega
    subst hn1
    rcases hr with ⟨a, P', rfl, g, hst⟩ | ⟨hno, _⟩
    · obtain ⟨c, _, hc, _, ht⟩ := g.which
      have hw := ht.which
      obtain ⟨rfl, hps'⟩ := take_new_pool (hpg _ c hc.2) hps al.top hw
      obtain ⟨A, B, u1, u2⟩ := g.used
      rw [al.one] at u1
      obtain ⟨rfl, rfl⟩ := List.append_eq_nil_iff.1 u1.symm
      obtain ⟨e2, f2, _, hq⟩ := g.q
      rw [hf] at f2
      cases f2
      refine ⟨rfl, P', g.p, g.qt, g.db, g.aa, ⟨g.ok, by rw [g.top]; exact al.top, ?_, u2, fun j hj => by rw [g.other j hj]; exact al.other j hj⟩, hps', ?_, hst⟩
      · rw [hq]
        have e1 := find_upd_same hf { e.q with charged := e.q.charged + ((costN 1 : Nat) : Int) }
        exact ⟨_, e1, q1, by show e.q.charged + _ = 64; rw [q2]; rfl, q3⟩
      · rw [g.mem]
        exact word8_zero _ _ _ (by decide) (by rw [al.ok.mem, al.top]; decide)
    · exact absurd hno (noroom_new hpg hps al.top)
theorem al_no {w : World} {P : PL} (h : Sep w P.hl) (al : AlS P 0 []) : Calls Tryd.prog 8 #[.pointer (some ⟨P.p, 0, none⟩), .int .i64 0, .int .i64 2] w fun r w' => r = .returned (.tuple #[.int .i64 0, .int .i64 5]) ∧ Step P.hl P.hl w w' := by
  obtain ⟨e, hf, q1, q2, q3⟩ := al.q
  refine (pget_any h al.ok 0 2).mono ?_
  rintro r w' (⟨h0, _⟩ | ⟨_, h0, _⟩ | ⟨_, ⟨e', h0, h1⟩, rfl, hst⟩ | ⟨n, e', hn, _, _, h0, h1, hr⟩)
  · exact absurd h0 (by decide)
  · rw [hf] at h0; cases h0
  · exact ⟨rfl, hst⟩
  · have hn1 : n = 2 := by omega
    subst hn1
    rw [hf] at h0; cases h0
    rw [q1, q2, q3] at h1
    exact absurd h1 (by decide)
theorem al_put {w : World} {P : PL} (h : Sep w P.hl) (al : AlS P 64 [64]) : Calls Tryd.prog 9 #[.pointer (some ⟨P.p, 0, none⟩), .int .i64 0, .int .i64 1, .int .i64 64] w fun r w' => r = .returned (.int .i64 0) ∧
    ∃ P', P'.p = P.p ∧ P'.q.t = P.q.t ∧ P'.d.b = P.d.b ∧ P'.a.a = P.a.a ∧ AlS P' 0 [] ∧ Step P.hl P'.hl w w' := by
  obtain ⟨e, hf, q1, q2, q3⟩ := al.q
  have hhas : P.has 1 64 = true := by
    unfold PL.has PL.usedI
    rw [if_pos (by decide)]
    rw [decide_eq_true_eq]
    show _ ∧ 64 ∈ P.usedOf 1
    rw [al.one]
    exact ⟨by decide, by simp⟩
  refine (pput_any h al.ok 0 1 64 (by unfold Small; decide)).mono ?_
  rintro r w' (⟨h0, _⟩ | ⟨_, h0, _⟩ | ⟨_, _, h0, _⟩ | ⟨_, _, ⟨e', h0, h1⟩, _⟩ | ⟨n, m, e', hn, hm, _, _, hmem, h0, _, rfl, P', g, hst⟩)
  · exact absurd h0 (by decide)
  · rw [hhas] at h0; cases h0
  · rw [hf] at h0; cases h0
  · rw [hf] at h0; cases h0
    rw [q2] at h1
    exact absurd h1 (by decide)
  · have hn1 : n = 1 := by omega
    have hm1 : m = 64 := by omega
    subst hn1 hm1
    obtain ⟨A, B, u1, u2⟩ := g.used
    rw [al.one] at u1
    have hAB : A ++ B = [] := by
      have := congrArg List.length u1
      simp only [List.length_cons, List.length_nil, List.length_append] at this
      exact List.eq_nil_of_length_eq_zero (by rw [List.length_append]; omega)
    obtain ⟨e2, f2, _, hq⟩ := g.q
    rw [hf] at f2
    cases f2
    refine ⟨rfl, P', g.p, g.qt, g.db, by rw [g.aa], ⟨g.ok, by rw [g.top]; exact al.top, ?_, by rw [u2, hAB], fun j hj => by rw [g.other j hj]; exact al.other j hj⟩, hst⟩
    rw [hq]
    have e1 := find_upd_same hf { e.q with charged := e.q.charged - ((costN 1 : Nat) : Int) }
    exact ⟨_, e1, q1, by show e.q.charged - _ = 0; rw [q2]; rfl, q3⟩
theorem left_one : sumB (freeTo (fre (uOf [0]) 6) 6 7) = 64512 := by decide +kernel
end Go.Proofs.YtfefdleadocpmaaDoor

/- The walk of the pool's example: it is true. Condition: the package-level variables lie. -/
namespace Go.Proofs.YtfefdleadocpmaaDoor
open Go.RowKit

theorem Step.fresh {w w' : World} {H' : HL} (h : Step [] H' w w') : Below w.heap.size w w' := h.below (Nat.le_refl _) (by simp)
set_option maxHeartbeats 4000000 in
set_option maxRecDepth 100000 in
theorem pnew_over {w : World} (h : Env w) : Calls Tryd.prog 6 #[.int .i64 65536, .int .i64 65537] w (Told w (.pointer none)) := by
  have k1 := qnew_any (Sep.nil h) 65537 (by omega) (by omega)
  have HQ : Hid (∀ r w1, NewQ 65537 [] w r w1 → ∃ t, r = .returned (.pointer (some ⟨t, 0, none⟩)) ∧ Calls Tryd.prog 25 #[.int .i64 65536] w1 fun r w2 => ∃ d, r = .returned (.pointer (some ⟨d, 0, none⟩)) ∧
      Calls Tryd.prog 26 #[.int .i64 65536] w2 fun r w3 => ∃ a, r = .returned (.pointer (some ⟨a, 0, none⟩)) ∧ ∀ o, Told w (.pointer none) (.returned (.pointer none)) (w3.alloc o)) := by
    rintro r w1 ⟨t, m, b, rfl, s1⟩
    refine ⟨t, rfl, (buddy_new s1.sep 6 (by omega) (by omega)).mono ?_⟩
    rintro r w2 ⟨d, rfl, _, _, _, s2⟩
    refine ⟨_, rfl, (arena_new s2.sep 16 (by omega) (by omega)).mono ?_⟩
    rintro r w3 ⟨a, rfl, _, s3⟩
    have hb := ((s1.trans s2).trans s3).fresh
    exact ⟨_, rfl, fun o => ⟨rfl, hb.alloc (by exact hb.size) o⟩⟩
  clear h
  go_enter Tryd.func6, Tryd.ntmps6
  go_wp2_with fail
  refine k1.mono ?_
  intro r w1 hx
  obtain ⟨t, rfl, hb⟩ := HQ.out _ _ hx
  have HB := hidden hb
  clear hx hb
  go_wp2_with fail
  refine HB.out.mono ?_
  rintro r w2 ⟨d, rfl, hy⟩
  have HY := hidden hy
  clear hy
  go_wp2_with fail
  refine HY.out.mono ?_
  rintro r w3 ⟨a, rfl, hz⟩
  have HZ := hidden hz
  clear hz
  go_wp2_with fail
  first | exact HZ.out _ | (go_ret; exact HZ.out _)
theorem quse_al {w : World} {P : PL} (h : Sep w P.hl) {ch : Int} {us : List Nat} (al : AlS P ch us) : Calls Tryd.prog 13 #[ptr P.q.t, .int .i64 0] w (Told w (.int .i64 ch)) := by
  obtain ⟨e, hf, q1, q2, q3⟩ := al.q
  have := quse_some (PL.sQ h) al.ok.q hf
  rw [q2, q3, Int.add_zero] at this
  exact this
theorem used_al {w : World} {P : PL} (h : Sep w P.hl) {ch : Int} {a : Nat} (al : AlS P ch [a]) : Calls Tryd.prog 7 #[.pointer (some ⟨P.p, 0, none⟩), .int .i64 1] w fun r w' => ∃ (g cap : Nat), r = .returned (.slice (some ⟨g, 0, none⟩) 1 cap) ∧ Below w.heap.size w w' := by
  have := pused_any h al.ok 1
  have e : P.usedI 1 = [a] := by
    unfold PL.usedI
    rw [if_pos (by decide)]
    exact al.one
  rw [e] at this
  refine this.mono ?_
  rintro r w' ⟨v, rfl, ⟨_, h2⟩, hb⟩
  rcases h2 with ⟨_, h0⟩ | ⟨g, cap, cur, rfl, _⟩
  · simp at h0
  · exact ⟨g, cap, rfl, hb⟩
theorem left_al {w : World} {P : PL} (h : Sep w P.hl) {ch : Int} {us : List Nat} (al : AlS P ch us) (hps : P.d.ps = [0]) : Calls Tryd.prog 23 #[ptr P.d.b] w (Told w (.int .i64 64512)) := by
  have := left_any (PL.sD h) al.ok.d.is
  rw [hps, al.top, left_one] at this
  exact this
theorem has_al {w : World} {P : PL} (h : Sep w P.hl) {ch : Int} (al : AlS P ch [64]) : Calls Tryd.prog 22 #[.pointer (some ⟨P.p, 0, none⟩), .int .i64 1, .int .i64 64] w (Told w (.bool true)) := by
  have hhas : P.has 1 64 = true := by
    unfold PL.has PL.usedI
    rw [if_pos (by decide)]
    rw [decide_eq_true_eq]
    show _ ∧ 64 ∈ P.usedOf 1
    rw [al.one]
    exact ⟨by decide, by simp⟩
  have := phas_any h al.ok 1 64 (by unfold Small; decide)
  rw [hhas] at this
  exact this
theorem bytes8_lt (x : Nat) : ∀ b ∈ bytes8 x, b < 256 := by
  intro b hb
  simp only [bytes8, List.mem_cons, List.not_mem_nil, or_false] at hb
  rcases hb with rfl | rfl | rfl | rfl | rfl | rfl | rfl | rfl <;> exact Nat.mod_lt _ (by decide)
theorem put_bytes' {m bs : List Nat} {a : Nat} (h : ∀ b ∈ m, b < 256) (hb : ∀ b ∈ bs, b < 256) : ∀ b ∈ put_ m a bs, b < 256 := by
  intro b hx
  unfold put_ at hx
  simp only [List.mem_append] at hx
  rcases hx with (hx | hx) | hx
  · exact h b (List.mem_of_mem_take hx)
  · exact hb b hx
  · exact h b (List.mem_of_mem_drop hx)
theorem AlS.setA {P : PL} {ch : Int} {us : List Nat} (al : AlS P ch us) {m : List Nat} (hm : m.length = P.a.mem.length) (hb : ∀ b ∈ m, b < 256) : AlS (P.setA m) ch us := ⟨PL.ok_setA al.ok hm hb, al.top, al.q, al.one, al.other⟩
theorem al_store {w : World} {P : PL} (h : Sep w P.hl) {ch : Int} {us : List Nat} (al : AlS P ch us) : Calls Tryd.prog 20 #[ptr P.a.a, .int .i64 64, .slice (some ⟨w.heap.size, 0, none⟩) 1 1] (w.alloc (.cells #[.int .u64 7] 51)) fun r w' => r = .returned (.int .i64 0) ∧
    ∃ P', P'.p = P.p ∧ P'.a.a = P.a.a ∧ AlS P' ch us ∧ Step P.hl P'.hl w w' := by
  have hml : P.a.mem.length = 65536 := by rw [al.ok.mem, al.top]
  have ha := h.alloc (.cells #[.int .u64 7] 51)
  refine (store_ok (PL.sA ha) 64 7 (by decide) (by omega) (by omega) (by decide) w.heap.size ((Cells.new w 51 [.int .u64 7]).cell 0 _ rfl) (by simp) (fun hm => by have := (PL.sA h).lt hm; omega)).mono ?_
  rintro r w' ⟨rfl, st⟩
  have hm : (put_ P.a.mem 64 (bytes8 7)).length = P.a.mem.length := put_len _ _ _ (by show 64 + 8 ≤ _; omega)
  exact ⟨rfl, P.setA (put_ P.a.mem 64 (bytes8 7)), rfl, rfl, al.setA hm (put_bytes' al.ok.bytes (bytes8_lt 7)), (PL.stepA ha _ st).from_alloc⟩
theorem al_load {w : World} {P : PL} (h : Sep w P.hl) {ch : Int} {us : List Nat} (al : AlS P ch us) (hw : word8 P.a.mem 64 = 0) : Calls Tryd.prog 21 #[ptr P.a.a, .int .i64 64] w fun r w' => r = .returned (.tuple #[.int .u64 0, .int .i64 0]) ∧ w = w' := by
  have hml : P.a.mem.length = 65536 := by rw [al.ok.mem, al.top]
  have := load_ok (PL.sA h) al.ok.bytes 64 (by decide) (by omega) (by omega)
  rw [hw] at this
  exact this
set_option maxHeartbeats 1000000 in
set_option maxRecDepth 100000 in
theorem alive_any {w : World} (h : Env w) : Calls Tryd.prog 5 #[] w (Told w (.bool true)) := by
  have k1 := pnew_any (Sep.nil h) 6 (by omega) (by omega) 100 (by omega) (by decide)
  have HQ : Hid (∀ r w1, NewPL 6 100 [] w r w1 → ∃ P : PL, r = .returned (.pointer (some ⟨P.p, 0, none⟩)) ∧ AlS P 0 [] ∧ Step [] P.hl w w1) := by
    rintro r w1 ⟨P, rfl, hl, hf, hst⟩
    refine ⟨P, rfl, ⟨hf.ok hl (by omega) (by omega) (by omega), hf.etop, ?_, fresh_used hf 1, fun j _ => fresh_used hf j⟩, by simpa using hst⟩
    obtain ⟨t, m, b, hq⟩ := hf.q
    exact ⟨⟨0, b, ⟨100, 0, 0, -1, 0⟩⟩, by rw [hq]; rfl, rfl, rfl, rfl⟩
  clear h
  go_enter Tryd.func5, Tryd.ntmps5
  go_wp2_with fail
  refine k1.mono ?_
  intro r w1 hx
  obtain ⟨P, rfl, al, st1⟩ := HQ.out _ _ hx
  have hg := al_no st1.sep al
  have HG := hidden hg
  have Al := hidden al
  have S1 := hidden st1
  clear hx al st1 hg HQ
  go_wp2_with fail
  refine HG.out.mono ?_
  rintro r w2 ⟨rfl, st2⟩
  have st12 := S1.out.trans st2
  have hg := al_get st2.sep Al.out
  have HG2 := hidden hg
  have S2 := hidden st12
  clear st2 st12 hg HG S1
  go_wp2_with fail
  refine HG2.out.mono ?_
  rintro r w3 ⟨rfl, P3, ep, eq, eb, ea, al3, hps3, hw3, st3⟩
  have st13 := S2.out.trans st3
  have har := parena_any st13.sep
  have hso := al_store st13.sep al3
  rw [ep, ea] at har
  rw [ea] at hso
  have HAr := hidden har
  have HSo := hidden hso
  have EP := hidden ep
  have EA := hidden ea
  have S3 := hidden st13
  clear har hso ep eq eb ea al3 hps3 hw3 st3 st13 HG2 S2 Al
  unfold ptr at *
  go_wp2_with fail
  refine HAr.out.mono ?_
  rintro r w' ⟨rfl, rfl⟩
  go_wp2_with fail
  refine HSo.out.mono ?_
  rintro r w4 ⟨rfl, P4, ep4, ea4, al4, st4⟩
  have st14 := S3.out.trans st4
  have hpu := al_put st14.sep al4
  rw [ep4, EP.out] at hpu
  have HPu := hidden hpu
  have EP4 := hidden (ep4.trans EP.out)
  have EA4 := hidden ea4
  have S4 := hidden st14
  clear hpu ep4 ea4 al4 st4 st14 HAr HSo EP EA S3
  go_wp2_with fail
  refine HPu.out.mono ?_
  rintro r w5 ⟨rfl, P5, ep5, -, -, ea5, al5, st5⟩
  have st15 := S4.out.trans st5
  have hge := al_get st15.sep al5
  rw [ep5] at hge
  have HGe := hidden hge
  have EP5 := hidden ep5
  have EA5 := hidden (ea5.trans EA4.out)
  have S5 := hidden st15
  clear hge ep5 ea5 al5 st5 st15 HPu EP4 EA4 S4
  go_wp2_with fail
  refine HGe.out.mono ?_
  rintro r w6 ⟨rfl, P6, ep6, -, -, ea6, al6, hps6, hw6, st6⟩
  have st16 := S5.out.trans st6
  have har := parena_any st16.sep
  have hld := al_load st16.sep al6 hw6
  have ep6' := ep6
  have ea6' := ea6.trans EA5.out
  rw [ep6', ea6'] at har
  rw [ea6'] at hld
  unfold ptr at har hld
  have HAr := hidden har
  have HLd := hidden hld
  have EP6 := hidden ep6'
  have Al6 := hidden al6
  have HPs := hidden hps6
  have hcost := cost_any st16.sep.env 3
  rw [show costI 3 = 256 from rfl] at hcost
  have HCost := hidden hcost
  have hha := has_al st16.sep al6
  rw [ep6'] at hha
  have HHa := hidden hha
  have S6 := hidden st16
  clear har hld ep6 ea6 al6 hps6 hw6 st6 st16 ep6' ea6' hcost hha HGe EP5 EA5 S5
  go_wp2_with fail
  refine HAr.out.mono ?_
  rintro r w' ⟨rfl, rfl⟩
  go_wp2_with fail
  refine HLd.out.mono ?_
  rintro r w' ⟨rfl, rfl⟩
  clear HAr HLd
  go_wp2_with fail
  refine HCost.out.mono ?_
  rintro r w' ⟨rfl, rfl⟩
  clear HCost
  go_wp2_with fail
  refine HHa.out.mono ?_
  rintro r w7 ⟨rfl, hb7⟩
  have st17 := S6.out.trans (S6.out.sep.grown hb7)
  have hus := used_al st17.sep Al6.out
  rw [EP6.out] at hus
  have HUs := hidden hus
  have S7 := hidden st17
  clear hus hb7 st17 HHa S6
  go_wp2_with fail
  refine HUs.out.mono ?_
  rintro r w8 ⟨g8, cap8, rfl, hb8⟩
  have st18 := S7.out.trans (S7.out.sep.grown hb8)
  have hqu := pquota_any st18.sep
  have huse := quse_al st18.sep Al6.out
  rw [EP6.out] at hqu
  unfold ptr at hqu huse
  have HQu := hidden hqu
  have HUse := hidden huse
  have S8 := hidden st18
  clear hqu huse hb8 st18 HUs S7
  go_wp2_with fail
  refine HQu.out.mono ?_
  rintro r w' ⟨rfl, rfl⟩
  go_wp2_with fail
  refine HUse.out.mono ?_
  rintro r w9 ⟨rfl, hb9⟩
  have st19 := S8.out.trans (S8.out.sep.grown hb9)
  have hbl := pblocks_any st19.sep
  have hle := left_al st19.sep Al6.out HPs.out
  rw [EP6.out] at hbl
  unfold ptr at hbl hle
  have HBl := hidden hbl
  have HLe := hidden hle
  have S9 := hidden st19
  clear hbl hle hb9 st19 HQu HUse S8
  go_wp2_with fail
  refine HBl.out.mono ?_
  rintro r w' ⟨rfl, rfl⟩
  go_wp2_with fail
  refine HLe.out.mono ?_
  rintro r w10 ⟨rfl, hb10⟩
  have st110 := S9.out.trans (S9.out.sep.grown hb10)
  have hov := pnew_over st110.sep.env
  have HOv := hidden hov
  have S10 := hidden st110
  clear hov hb10 st110 HBl HLe S9
  go_wp2_with fail
  refine HOv.out.mono ?_
  rintro r w11 ⟨rfl, hb11⟩
  have HR : Hid (Told w (.bool true) (.returned (.bool true)) w11) := ⟨rfl, (S10.out.trans (S10.out.sep.grown hb11)).fresh⟩
  clear hb11 HOv S10
  go_wp2_with fail
  first | exact HR.out | (go_ret; exact HR.out)
end Go.Proofs.YtfefdleadocpmaaDoor

/- What the first law of the pool needs of the pool: what is charged is what all that is used costs. Conditions: the blocks hold what PL.hl says. -/
namespace Go.Proofs.YtfefdleadocpmaaDoor
open Go.RowKit

theorem used_pairwise {c : CA} (ok : c.Ok) : c.used.Pairwise (· < ·) := by
  unfold CA.used
  rw [List.pairwise_flatMap]
  have hs0 := ok.s0
  constructor
  · intro x hx
    unfold usedPg
    rw [List.pairwise_map]
    refine (trues_sorted x.1.bits).imp fun {i j} h => ?_
    unfold addr
    have : i * c.size + c.size ≤ j * c.size := by
      have := Nat.mul_le_mul_right c.size h
      rw [Nat.succ_mul] at this
      exact this
    omega
  · refine List.Pairwise.imp_of_mem (fun {x y} hx hy h => ?_) ok.sorted
    intro a ha b hb
    have ha' : a ∈ c.used := List.mem_flatMap.2 ⟨x, hx, ha⟩
    unfold usedPg at ha hb
    obtain ⟨i, hi, rfl⟩ := List.mem_map.1 ha
    obtain ⟨j, hj, rfl⟩ := List.mem_map.1 hb
    have hil : i < x.1.bits.length := by
      have := mem_trues.1 hi
      rcases Nat.lt_or_ge i x.1.bits.length with e | e
      · exact e
      · rw [List.getElem?_eq_none e] at this; cases this
    have hp := place_lt (s := c.size) (by omega) hil (ok.many x hx)
    unfold addr
    have hxy : x.2 < y.2 := h
    omega
theorem usedOf_pairwise {P : PL} {fr : List Nat} (ok : P.Ok fr) (n : Nat) : (P.usedOf n).Pairwise (· < ·) := by
  unfold PL.usedOf
  split
  · rename_i h1
    split
    · rename_i c hc
      exact used_pairwise (PL.Cls.facts ok ⟨h1, hc⟩).1
    · exact List.Pairwise.nil
  · exact List.Pairwise.nil
def sumTo (P : PL) (k : Nat) : Nat := ((List.range k).map fun j => (P.usedOf j).length * costN j).sum
theorem sumTo_succ (P : PL) (k : Nat) : sumTo P (k + 1) = sumTo P k + (P.usedOf k).length * costN k := by
  unfold sumTo; rw [List.range_succ]; simp
/-- What all that is used costs. -/
def sumU (P : PL) : Nat := sumTo P 8
theorem sumU_eq (P : PL) : sumU P = (P.usedOf 1).length * 64 + (P.usedOf 2).length * 128 + (P.usedOf 3).length * 256 + (P.usedOf 4).length * 32 + (P.usedOf 5).length * 32 + (P.usedOf 6).length * 48 + (P.usedOf 7).length * 256 := by
  unfold sumU
  simp only [sumTo_succ]
  have : sumTo P 0 = 0 := rfl
  rw [this]
  simp [costN]
theorem sumTo_le (P : PL) {k : Nat} (hk : k ≤ 8) : sumTo P k ≤ sumU P := by
  have step : ∀ j, sumTo P j ≤ sumTo P (j + 1) := fun j => by rw [sumTo_succ]; omega
  have h : ∀ d, sumTo P k ≤ sumTo P (k + d) := fun d => by
    induction d with
    | zero => exact Nat.le_refl _
    | succ d ih => exact Nat.le_trans ih (step _)
  have := h (8 - k)
  rwa [show k + (8 - k) = 8 by omega] at this
theorem sumU_change {P P' : PL} {n x y : Nat} (h1 : 1 ≤ n) (h7 : n ≤ 7) (hn : (P'.usedOf n).length + x = (P.usedOf n).length + y) (ho : ∀ j, j ≠ n → P'.usedOf j = P.usedOf j) : sumU P' + x * costN n = sumU P + y * costN n := by
  rw [sumU_eq, sumU_eq]
  have h : n = 1 ∨ n = 2 ∨ n = 3 ∨ n = 4 ∨ n = 5 ∨ n = 6 ∨ n = 7 := by omega
  rcases h with rfl | rfl | rfl | rfl | rfl | rfl | rfl
  · rw [ho 2 (by omega), ho 3 (by omega), ho 4 (by omega), ho 5 (by omega), ho 6 (by omega), ho 7 (by omega), show costN 1 = 64 from rfl]; omega
  · rw [ho 1 (by omega), ho 3 (by omega), ho 4 (by omega), ho 5 (by omega), ho 6 (by omega), ho 7 (by omega), show costN 2 = 128 from rfl]; omega
  · rw [ho 1 (by omega), ho 2 (by omega), ho 4 (by omega), ho 5 (by omega), ho 6 (by omega), ho 7 (by omega), show costN 3 = 256 from rfl]; omega
  · rw [ho 1 (by omega), ho 2 (by omega), ho 3 (by omega), ho 5 (by omega), ho 6 (by omega), ho 7 (by omega), show costN 4 = 32 from rfl]; omega
  · rw [ho 1 (by omega), ho 2 (by omega), ho 3 (by omega), ho 4 (by omega), ho 6 (by omega), ho 7 (by omega), show costN 5 = 32 from rfl]; omega
  · rw [ho 1 (by omega), ho 2 (by omega), ho 3 (by omega), ho 4 (by omega), ho 5 (by omega), ho 7 (by omega), show costN 6 = 48 from rfl]; omega
  · rw [ho 1 (by omega), ho 2 (by omega), ho 3 (by omega), ho 4 (by omega), ho 5 (by omega), ho 6 (by omega), show costN 7 = 256 from rfl]; omega
theorem sumU_ge (P : PL) {n : Nat} (h1 : 1 ≤ n) (h7 : n ≤ 7) : (P.usedOf n).length * costN n ≤ sumU P := by
  rw [sumU_eq]
  have h : n = 1 ∨ n = 2 ∨ n = 3 ∨ n = 4 ∨ n = 5 ∨ n = 6 ∨ n = 7 := by omega
  rcases h with rfl | rfl | rfl | rfl | rfl | rfl | rfl <;> simp only [costN, List.getElem?_cons_succ, List.getElem?_cons_zero, Option.getD_some] <;> omega
/-- The first factory pays for all that is used. -/
structure PS (lim : Int) (P : PL) : Prop where
  ok : P.Ok []
  top : P.d.top = 6
  q : ∃ e, find P.q.E 0 = some e ∧ e.q.limit = lim ∧ e.q.given = 0 ∧ e.q.charged = ((sumU P : Nat) : Int)
theorem PS.le {lim : Int} {P : PL} (h : PS lim P) : ((sumU P : Nat) : Int) ≤ lim ∧ lim ≤ 1073741824 := by
  obtain ⟨e, hf, q1, q2, q3⟩ := h.q
  obtain ⟨f1, f2, f3, f4, _⟩ := h.ok.q.fa 0 e hf
  omega
theorem PS.new {P : PL} {lim : Int} (hl : P.cs.length = 7) (hf : FreshP P 6 lim) (h0 : 0 ≤ lim) (h1 : lim ≤ 1073741824) : PS lim P := by
  refine ⟨hf.ok hl (by omega) h0 h1, hf.etop, ?_⟩
  obtain ⟨t, m, b, hq⟩ := hf.q
  refine ⟨⟨0, b, ⟨lim, 0, 0, -1, 0⟩⟩, by rw [hq]; rfl, rfl, rfl, ?_⟩
  rw [sumU_eq]
  simp only [fresh_used hf]
  rfl
theorem PS.get {lim : Int} {P P' : PL} {n a : Nat} (h : PS lim P) (h1 : 1 ≤ n) (h7 : n ≤ 7) (g : GetOk P [] 0 n a P') : PS lim P' := by
  obtain ⟨e, hf, q1, q2, q3⟩ := h.q
  obtain ⟨A, B, u1, u2⟩ := g.used
  have hs := sumU_change (x := 0) (y := 1) h1 h7 (by rw [u1, u2]; simp; omega) g.other
  obtain ⟨e2, f2, _, hq⟩ := g.q
  rw [hf] at f2; cases f2
  refine ⟨g.ok, by rw [g.top]; exact h.top, ?_⟩
  rw [hq]
  exact ⟨_, find_upd_same hf _, q1, q2, by show e.q.charged + _ = _; rw [q3]; omega⟩
theorem PS.put {lim : Int} {P P' : PL} {n a : Nat} (h : PS lim P) (h1 : 1 ≤ n) (h7 : n ≤ 7) (g : PutOk P [] 0 n a P') : PS lim P' := by
  obtain ⟨e, hf, q1, q2, q3⟩ := h.q
  obtain ⟨A, B, u1, u2⟩ := g.used
  have hs := sumU_change (x := 1) (y := 0) h1 h7 (by rw [u1, u2]; simp; omega) g.other
  obtain ⟨e2, f2, _, hq⟩ := g.q
  rw [hf] at f2; cases f2
  refine ⟨g.ok, by rw [g.top]; exact h.top, ?_⟩
  rw [hq]
  exact ⟨_, find_upd_same hf _, q1, q2, by show e.q.charged - _ = _; rw [q3]; omega⟩
/-- A Get for the first factory, of whatever class. -/
def PsGet (lim : Int) (P : PL) (w : World) (r : Ending) (w' : World) : Prop := (∃ x e : Int, r = .returned (.tuple #[.int .i64 x, .int .i64 e])) ∧ ∃ P', PS lim P' ∧ P'.p = P.p ∧ Step P.hl P'.hl w w'
theorem ps_get {lim : Int} {w : World} {P : PL} (h : Sep w P.hl) (ps : PS lim P) (c : Int) : Calls Tryd.prog 8 #[.pointer (some ⟨P.p, 0, none⟩), .int .i64 0, .int .i64 c] w (PsGet lim P w) := by
  refine (pget_any h ps.ok 0 c).mono ?_
  rintro r w' (⟨_, rfl, st⟩ | ⟨_, _, rfl, st⟩ | ⟨_, _, rfl, st⟩ | ⟨n, e, _, h1, h7, _, _, hr⟩)
  · exact ⟨⟨_, _, rfl⟩, P, ps, rfl, st⟩
  · exact ⟨⟨_, _, rfl⟩, P, ps, rfl, st⟩
  · exact ⟨⟨_, _, rfl⟩, P, ps, rfl, st⟩
  · rcases hr with ⟨a, P', rfl, g, st⟩ | ⟨_, rfl, st⟩
    · exact ⟨⟨_, _, rfl⟩, P', ps.get h1 h7 g, g.p, st⟩
    · exact ⟨⟨_, _, rfl⟩, P, ps, rfl, st⟩
/-- A Put of a place that is used. -/
def PsPut (lim : Int) (P : PL) (n a : Nat) (w : World) (r : Ending) (w' : World) : Prop := r = .returned (.int .i64 0) ∧ ∃ P', PS lim P' ∧ P'.p = P.p ∧ (∃ A B, P.usedOf n = A ++ a :: B ∧ P'.usedOf n = A ++ B) ∧ (∀ j, j ≠ n → P'.usedOf j = P.usedOf j) ∧ Step P.hl P'.hl w w'
theorem ps_put {lim : Int} {w : World} {P : PL} (h : Sep w P.hl) (ps : PS lim P) (n a : Nat) (hm : a ∈ P.usedOf n) : Calls Tryd.prog 9 #[.pointer (some ⟨P.p, 0, none⟩), .int .i64 0, .int .i64 (n : Int), .int .i64 (a : Int)] w (PsPut lim P n a w) := by
  obtain ⟨hin, _, h1, h7⟩ := used_in_mem ps.ok hm
  have hml := mem_bound ps.ok
  obtain ⟨e, hf, q1, q2, q3⟩ := ps.q
  have hpos : 0 < costN n := costN_pos.2 ⟨h1, h7⟩
  have hcI : costI (n : Int) = costN n := by unfold costI; rw [if_pos (by omega), Int.toNat_natCast]
  have hhas : P.has (n : Int) (a : Int) = true := by
    unfold PL.has PL.usedI
    rw [decide_eq_true_eq, if_pos (by omega : (0 : Int) ≤ (n : Int)), Int.toNat_natCast, Int.toNat_natCast]
    exact ⟨by omega, hm⟩
  have hlen : 1 ≤ (P.usedOf n).length := List.length_pos_of_mem hm
  have hge := sumU_ge P h1 h7
  have hge2 : costN n ≤ sumU P := by
    have := Nat.mul_le_mul_right (costN n) hlen
    omega
  refine (pput_any h ps.ok 0 (n : Int) (a : Int) (by unfold Small; omega)).mono ?_
  rintro r w' (⟨h0, _⟩ | ⟨_, h0, _⟩ | ⟨_, _, h0, _⟩ | ⟨_, _, ⟨e', h0, h2⟩, _⟩ | ⟨n', m, e', hn, hm', _, _, _, _, _, rfl, P', g, st⟩)
  · rw [hcI] at h0; omega
  · rw [hhas] at h0; cases h0
  · rw [hf] at h0; cases h0
  · rw [hf] at h0; cases h0
    rw [hcI, q3] at h2
    omega
  · have e1 : n' = n := by omega
    have e2 : m = a := by omega
    subst e1 e2
    exact ⟨rfl, P', ps.put h1 h7 g, g.p, g.used, g.other, st⟩
theorem ps_charged {lim : Int} {w : World} {P : PL} (h : Sep w P.hl) (ps : PS lim P) : Calls Tryd.prog 12 #[ptr P.q.t, .int .i64 0] w fun r w' => r = .returned (.int .i64 ((sumU P : Nat) : Int)) ∧ w = w' := by
  obtain ⟨e, hf, q1, q2, q3⟩ := ps.q
  have := qcharged_some (PL.sQ h) hf
  rw [q3] at this
  exact this
theorem ps_use {lim : Int} {w : World} {P : PL} (h : Sep w P.hl) (ps : PS lim P) : Calls Tryd.prog 13 #[ptr P.q.t, .int .i64 0] w (Told w (.int .i64 ((sumU P : Nat) : Int))) := by
  obtain ⟨e, hf, q1, q2, q3⟩ := ps.q
  have := quse_some (PL.sQ h) ps.ok.q hf
  rw [q2, q3, Int.add_zero] at this
  exact this
theorem free_new : freeTo (fre (uOf []) 6) 6 7 = [(0, 6)] := by decide +kernel
theorem ps_free {lim : Int} {w : World} {P : PL} (h : Sep w P.hl) (ps : PS lim P) (he : ∀ j, P.usedOf j = []) : Calls Tryd.prog 15 #[ptr P.d.b] w fun r w' => (∃ g cap : Nat, r = .returned (.slice (some ⟨g, 0, none⟩) 1 cap)) ∧ Below w.heap.size w w' := by
  have := bfree_any (PL.sD h) ps.ok.d.is
  rw [empty_ps ps.ok he, ps.top, free_new] at this
  refine this.mono ?_
  rintro r w' ⟨v, L, rfl, p1, p2, ⟨_, p4⟩, p5⟩
  have hl : L.length = 1 := p1.length_eq
  rcases p4 with ⟨_, h0⟩ | ⟨g, cap, cur, rfl, _⟩
  · omega
  · exact ⟨⟨g, cap, by rw [hl]⟩, p5⟩
end Go.Proofs.YtfefdleadocpmaaDoor

/- What the second law of the pool needs, plain: used places lie apart, so few Gets find room. Conditions: the pool is in order. -/
namespace Go.Proofs.YtfefdleadocpmaaDoor
open Go.RowKit

theorem full_used {c : CA} (hs : c.size ≤ 256) (ok : c.Ok) (hf : ∀ y ∈ c.pg, freeP y = none) : 3 * c.pg.length ≤ c.used.length := by
  have h3 : 3 ≤ 960 / c.size := by
    have hs0 := ok.s0
    rw [Nat.le_div_iff_mul_le (by omega)]
    omega
  have each : ∀ y ∈ c.pg, 3 ≤ (usedPg c.size y).length := by
    intro y hy
    unfold usedPg
    rw [List.length_map]
    have hno := firstI_no (hf y hy)
    have : trues y.1.bits = List.range y.1.bits.length := by
      unfold trues
      rw [List.filter_eq_self]
      intro i hi
      have := hno i (Nat.zero_le _) (List.mem_range.1 hi)
      simpa using this
    rw [this, List.length_range, ok.many y hy]
    exact h3
  unfold CA.used
  generalize c.pg = l at each
  induction l with
  | nil => simp
  | cons y r ih =>
    have h1 := each y (by simp)
    have h2 := ih (fun z hz => each z (by simp [hz]))
    simp only [List.flatMap_cons, List.length_append, List.length_cons]
    omega
theorem used_apart {c : CA} (ok : c.Ok) : c.used.Pairwise (fun a b => a + c.size ≤ b) := by
  unfold CA.used
  rw [List.pairwise_flatMap]
  have hs0 := ok.s0
  constructor
  · intro x hx
    unfold usedPg
    rw [List.pairwise_map]
    refine (trues_sorted x.1.bits).imp fun {i j} h => ?_
    unfold addr
    have : i * c.size + c.size ≤ j * c.size := by
      have := Nat.mul_le_mul_right c.size h
      rw [Nat.succ_mul] at this
      exact this
    omega
  · refine List.Pairwise.imp_of_mem (fun {x y} hx hy h => ?_) ok.sorted
    intro a ha b hb
    unfold usedPg at ha hb
    obtain ⟨i, hi, rfl⟩ := List.mem_map.1 ha
    obtain ⟨j, hj, rfl⟩ := List.mem_map.1 hb
    have hil : i < x.1.bits.length := by
      have := mem_trues.1 hi
      rcases Nat.lt_or_ge i x.1.bits.length with e | e
      · exact e
      · rw [List.getElem?_eq_none e] at this; cases this
    have hp := place_lt (s := c.size) (by omega) hil (ok.many x hx)
    unfold addr at *
    have hxy : x.2 < y.2 := h
    omega
theorem pairwise_two {R : Nat → Nat → Prop} {l : List Nat} (h : l.Pairwise R) {a b : Nat} (ha : a ∈ l) (hb : b ∈ l) (hne : a ≠ b) : R a b ∨ R b a := by
  induction l with
  | nil => cases ha
  | cons x r ih =>
    have hp := List.pairwise_cons.1 h
    rcases List.mem_cons.1 ha with ea | ha'
    · rcases List.mem_cons.1 hb with eb | hb'
      · exact absurd (ea.trans eb.symm) hne
      · rw [ea]; exact .inl (hp.1 b hb')
    · rcases List.mem_cons.1 hb with eb | hb'
      · rw [eb]; exact .inr (hp.1 a ha')
      · exact ih hp.2 ha' hb'
theorem mem_usedOf {P : PL} {k a : Nat} (h : a ∈ P.usedOf k) : ∃ c, P.Cls k c ∧ a ∈ c.used := by
  unfold PL.usedOf at h
  split at h
  · rename_i h1
    split at h
    · rename_i c hc
      exact ⟨c, ⟨h1, hc⟩, h⟩
    · cases h
  · cases h
theorem pages_two {P : PL} {fr : List Nat} (ok : P.Ok fr) {j k : Nat} {c d : CA} (hjk : j < k) (hc : P.cs[j]? = some c) (hd : P.cs[k]? = some d) {x y : BM × Nat} (hx : x ∈ c.pg) (hy : y ∈ d.pg) : x.2 ≠ y.2 := by
  have hnd : P.pages.Nodup := by
    have h := (ok.pages.nodup_iff).2 ok.d.nd
    exact (List.nodup_append.1 h).2.1
  have : (P.cs.flatMap fun c => c.pg.map Prod.snd).Nodup := hnd
  unfold List.Nodup at this
  rw [List.pairwise_flatMap] at this
  obtain ⟨hj, ej⟩ := List.getElem?_eq_some_iff.1 hc
  obtain ⟨hk, ek⟩ := List.getElem?_eq_some_iff.1 hd
  have h2 := List.pairwise_iff_getElem.1 this.2 j k hj hk hjk
  exact h2 x.2 (by rw [ej]; exact List.mem_map_of_mem hx) y.2 (by rw [ek]; exact List.mem_map_of_mem hy)
/-- Two used places do not overlap. -/
theorem used_two {P : PL} {fr : List Nat} (ok : P.Ok fr) {j k a b : Nat} (ha : a ∈ P.usedOf j) (hb : b ∈ P.usedOf k) (hne : ¬ (j = k ∧ a = b)) : a + costN j ≤ b ∨ b + costN k ≤ a := by
  obtain ⟨c, hc, ha⟩ := mem_usedOf ha
  obtain ⟨d, hd, hb⟩ := mem_usedOf hb
  obtain ⟨k1, k2, _, _⟩ := PL.Cls.facts ok hc
  obtain ⟨l1, l2, _, _⟩ := PL.Cls.facts ok hd
  by_cases e : j = k
  · subst e
    obtain rfl : c = d := by
      have := hc.2.symm.trans hd.2
      exact Option.some.inj this
    have := pairwise_two (used_apart k1) ha hb (fun e => hne ⟨rfl, e⟩)
    rw [k2] at this
    exact this
  · obtain ⟨x, hx, x1, x2⟩ := used_lt k1 ha
    obtain ⟨y, hy, y1, y2⟩ := used_lt l1 hb
    rw [k2] at x2
    rw [l2] at y2
    have hp : x.2 ≠ y.2 := by
      have g1 := hc.1
      have g2 := hd.1
      rcases Nat.lt_or_ge j k with h | h
      · exact pages_two ok (by omega : j - 1 < k - 1) hc.2 hd.2 hx hy
      · exact (pages_two ok (by omega : k - 1 < j - 1) hd.2 hc.2 hy hx).symm
    omega
/-- A used place's page is used, its block of the first order. -/
theorem used_page {P : PL} {fr : List Nat} (ok : P.Ok fr) {k a : Nat} (ha : a ∈ P.usedOf k) : a / 1024 ∈ P.d.ps := by
  obtain ⟨c, hc, ha⟩ := mem_usedOf ha
  obtain ⟨k1, _, _, _⟩ := PL.Cls.facts ok hc
  obtain ⟨x, hx, x1, x2⟩ := used_lt k1 ha
  have hs0 := k1.s0
  have e : a / 1024 = x.2 := by omega
  rw [e]
  exact mem_pages ok hc.2 x hx
/-- No block is free: all pages are used. -/
theorem none_free {ps : List Nat} {top : Nat} (h : ∀ k, k ≤ top → fstG (fre (uOf ps) top) top k 0 = none) {p : Nat} (hp : p < 2 ^ top) : p ∈ ps := by
  by_cases hu : uOf ps p = true
  · simpa [uOf] using hu
  · exfalso
    obtain ⟨k, hk, hf⟩ := fre_cover (uOf ps) top p (by simpa using hu)
    have hlt : p / 2 ^ k < 2 ^ (top - k) := by
      rw [Nat.div_lt_iff_lt_mul (Nat.two_pow_pos k), ← Nat.pow_add, show top - k + k = top by omega]
      exact hp
    have := firstI_no (h k hk) (p / 2 ^ k) (Nat.zero_le _) (by simpa using hlt)
    rw [List.getElem?_map, List.getElem?_range hlt] at this
    simp [hf] at this
theorem sum7 (f : Nat → Nat) (P : PL) (h : P.cs.length = 7) : (P.cs.map fun c => c.pg.length).sum = ((List.range 7).map fun j => ((P.cs[j]?.map fun c => c.pg.length).getD 0)).sum := by
  have : P.cs.map (fun c => c.pg.length) = (List.range 7).map fun j => ((P.cs[j]?.map fun c => c.pg.length).getD 0) := by
    apply List.ext_getElem
    · simp [h]
    · intro j h1 h2
      simp at h1
      simp [h1]
  rw [this]
theorem pages_len {P : PL} {fr : List Nat} (ok : P.Ok fr) : fr.length + (P.cs.map fun c => c.pg.length).sum = P.d.ps.length := by
  rw [← ok.pages.length_eq, List.length_append]
  unfold PL.pages
  rw [List.length_flatMap]
  simp
/-- The law's order between two draws: L has what is used and known, i draws were gone through. -/
structure ZS (P : PL) (L : List (Nat × Nat)) (i : Nat) : Prop where
  ps : PS 65536 P
  nd : L.Nodup
  mem : ∀ x ∈ L, x.2 ∈ P.usedOf x.1
  len : L.length ≤ i
  sum : sumU P ≤ 256 * i
  few : ∃ G : Nat → Nat, (∀ k c, P.Cls k c → 3 * c.pg.length ≤ G k + 2 ∧ c.used.length ≤ G k) ∧ G 1 + G 2 + G 3 + G 4 + G 5 + G 6 + G 7 ≤ i
theorem cls_set {P P' : PL} {n : Nat} {c c' : CA} (hc : P.Cls n c) (h : P'.cs = P.cs.set (n - 1) c') {k : Nat} {d : CA} (hd : P'.Cls k d) : (k = n ∧ d = c') ∨ (k ≠ n ∧ P.Cls k d) := by
  have hk := (List.getElem?_eq_some_iff.1 hc.2).1
  obtain ⟨h1, h2⟩ := hd
  have g1 := hc.1
  rw [h, List.getElem?_set] at h2
  by_cases e : k = n
  · subst e
    simp [hk] at h2
    exact .inl ⟨rfl, h2.symm⟩
  · rw [if_neg (by omega)] at h2
    exact .inr ⟨e, h1, h2⟩
theorem few_up {G : Nat → Nat} {n i : Nat} (h1 : 1 ≤ n) (h7 : n ≤ 7) (h : G 1 + G 2 + G 3 + G 4 + G 5 + G 6 + G 7 ≤ i) : let G' : Nat → Nat := fun k => if k = n then G k + 1 else G k
    G' 1 + G' 2 + G' 3 + G' 4 + G' 5 + G' 6 + G' 7 ≤ i + 1 := by
  have hn : n = 1 ∨ n = 2 ∨ n = 3 ∨ n = 4 ∨ n = 5 ∨ n = 6 ∨ n = 7 := by omega
  rcases hn with rfl | rfl | rfl | rfl | rfl | rfl | rfl <;> simp <;> omega
theorem costN_le {n : Nat} (h7 : n ≤ 7) : costN n ≤ 256 := by
  have hn : n = 0 ∨ n = 1 ∨ n = 2 ∨ n = 3 ∨ n = 4 ∨ n = 5 ∨ n = 6 ∨ n = 7 := by omega
  rcases hn with rfl | rfl | rfl | rfl | rfl | rfl | rfl | rfl <;> decide
theorem ZS.get {P P' : PL} {L : List (Nat × Nat)} {i n a : Nat} (h : ZS P L i) (h1 : 1 ≤ n) (h7 : n ≤ 7) (g : GetOk P [] 0 n a P') : ZS P' (L ++ [(n, a)]) (i + 1) ∧ ∀ x ∈ L, a + costN n ≤ x.2 ∨ x.2 + costN x.1 ≤ a := by
  obtain ⟨A, B, u1, u2⟩ := g.used
  have ham : a ∈ P'.usedOf n := by rw [u2]; simp
  have hpw := usedOf_pairwise g.ok n
  have hnot : a ∉ P.usedOf n := by
    intro hm
    rw [u2] at hpw
    rw [u1] at hm
    rcases List.mem_append.1 hm with hm | hm
    · have := (List.pairwise_append.1 hpw).2.2 a hm a (by simp); omega
    · have := (List.pairwise_cons.1 (List.pairwise_append.1 hpw).2.1).1 a hm; omega
  have hkeep : ∀ x ∈ L, x.2 ∈ P'.usedOf x.1 := by
    intro x hx
    have hm := h.mem x hx
    by_cases e : x.1 = n
    · rw [e] at hm ⊢
      rw [u2]; rw [u1] at hm
      rcases List.mem_append.1 hm with hm | hm
      · exact List.mem_append_left _ hm
      · exact List.mem_append_right _ (List.mem_cons_of_mem _ hm)
    · rw [g.other _ e]; exact hm
  have hnew : ∀ x ∈ L, ¬ (n = x.1 ∧ a = x.2) := by
    rintro x hx ⟨e1, e2⟩
    have hm := h.mem x hx
    rw [← e1, ← e2] at hm
    exact hnot hm
  have hs := sumU_change (P := P) (P' := P') (x := 0) (y := 1) h1 h7 (by rw [u1, u2]; simp; omega) g.other
  have hc256 := costN_le h7
  obtain ⟨c, c', hc, hset, ht⟩ := g.which
  obtain ⟨k1, k2, k3, k4⟩ := PL.Cls.facts h.ps.ok hc
  obtain ⟨G, hG, hsum⟩ := h.few
  have hused : c'.used.length = c.used.length + 1 := by
    obtain ⟨A', B', v1, v2⟩ := ht.used
    rw [v1, v2]; simp; omega
  have hpg : 3 * c'.pg.length ≤ G n + 1 + 2 := by
    obtain ⟨g1, g2⟩ := hG n c hc
    have el : c.pgs.length = c.pg.length := by simp [CA.pgs]
    have el' : c'.pgs.length = c'.pg.length := by simp [CA.pgs]
    rcases ht.pages with ⟨p1, p2⟩ | ⟨p, hp, p1, p2⟩
    · rw [p1, el] at el'; omega
    · have hl := p1.length_eq
      rw [el', List.length_cons, el] at hl
      rcases ht.which with ⟨_, _, _, _, _, _, _, e⟩ | ⟨hfull, _⟩
      · rw [p2] at e
        have := congrArg List.length e
        simp at this
      · have := full_used (by rw [k2]; exact hc256) k1 hfull
        omega
  refine ⟨⟨h.ps.get h1 h7 g, ?_, ?_, ?_, ?_, ?_⟩, fun x hx => ?_⟩
  · rw [List.nodup_append]
    refine ⟨h.nd, by simp, fun x hx y hy e => ?_⟩
    simp at hy
    rw [hy] at e
    exact hnew x hx ⟨by rw [e], by rw [e]⟩
  · intro x hx
    rcases List.mem_append.1 hx with hx | hx
    · exact hkeep x hx
    · simp at hx; rw [hx]; exact ham
  · have := h.len; simp; omega
  · have := h.sum; omega
  · refine ⟨fun k => if k = n then G k + 1 else G k, fun k d hd => ?_, few_up h1 h7 hsum⟩
    rcases cls_set hc hset hd with ⟨e1, e2⟩ | ⟨e1, e2⟩
    · subst e1; subst e2
      obtain ⟨g1, g2⟩ := hG k c hc
      simp only [if_true]
      omega
    · obtain ⟨g1, g2⟩ := hG k d e2
      simp only [e1, if_false]
      exact ⟨g1, g2⟩
  · exact used_two g.ok ham (hkeep x hx) (hnew x hx)
theorem mem_left {A B : List Nat} {a x : Nat} (h : x ∈ A ++ a :: B) (hne : x ≠ a) : x ∈ A ++ B := by
  rcases List.mem_append.1 h with h | h
  · exact List.mem_append_left _ h
  · rcases List.mem_cons.1 h with h | h
    · exact absurd h hne
    · exact List.mem_append_right _ h
theorem ZS.put {P P' : PL} {A B : List (Nat × Nat)} {i n a : Nat} (h : ZS P (A ++ (n, a) :: B) i) (h1 : 1 ≤ n) (h7 : n ≤ 7) (g : PutOk P [] 0 n a P') : ZS P' (A ++ B) i := by
  obtain ⟨U, V, u1, u2⟩ := g.used
  have hs := sumU_change (P := P) (P' := P') (x := 1) (y := 0) h1 h7 (by rw [u1, u2]; simp; omega) g.other
  obtain ⟨c, c', hc, hset, ht⟩ := g.which
  obtain ⟨G, hG, hsum⟩ := h.few
  have hused : c'.used.length + 1 = c.used.length := by
    obtain ⟨A', B', v1, v2⟩ := ht.used
    rw [v1, v2]; simp; omega
  have hpg : c'.pg.length ≤ c.pg.length := by
    have el : c.pgs.length = c.pg.length := by simp [CA.pgs]
    have el' : c'.pgs.length = c'.pg.length := by simp [CA.pgs]
    rcases ht.pages with ⟨p1, p2⟩ | ⟨p, p1, p2⟩
    · rw [p1, el] at el'; omega
    · have hl := p1.length_eq
      rw [el, List.length_cons, el'] at hl
      omega
  have hnd := h.nd
  rw [List.nodup_append, List.nodup_cons] at hnd
  refine ⟨h.ps.put h1 h7 g, ?_, ?_, ?_, ?_, ?_⟩
  · rw [List.nodup_append]
    exact ⟨hnd.1, hnd.2.1.2, fun x hx y hy => hnd.2.2 x hx y (List.mem_cons_of_mem _ hy)⟩
  · intro x hx
    have hne : x ≠ (n, a) := by
      rintro rfl
      rcases List.mem_append.1 hx with hx | hx
      · exact hnd.2.2 _ hx (n, a) (by simp) rfl
      · exact hnd.2.1.1 hx
    have hm := h.mem x (by
      rcases List.mem_append.1 hx with hx | hx
      · exact List.mem_append_left _ hx
      · exact List.mem_append_right _ (List.mem_cons_of_mem _ hx))
    by_cases e : x.1 = n
    · rw [e] at hm ⊢
      rw [u1] at hm
      rw [u2]
      refine mem_left hm fun e2 => hne ?_
      rw [← e, ← e2]
    · rw [g.other _ e]; exact hm
  · have := h.len; simp at this ⊢; omega
  · have := h.sum; omega
  · refine ⟨G, fun k d hd => ?_, hsum⟩
    rcases cls_set hc hset hd with ⟨e1, e2⟩ | ⟨e1, e2⟩
    · subst e1; subst e2
      obtain ⟨g1, g2⟩ := hG k c hc
      omega
    · exact hG k d e2
theorem ZS.room {P : PL} {L : List (Nat × Nat)} {i n : Nat} (h : ZS P L i) (hi : i ≤ 100) : ¬ NoRoom P n := by
  rintro ⟨c, hc, _, hno⟩
  have hall : ∀ p, p < 64 → p ∈ P.d.ps := fun p hp => none_free hno (by rw [h.ps.top]; exact hp)
  have hlen : 64 ≤ P.d.ps.length := by
    have := List.Nodup.length_le_of_subset (List.nodup_range (n := 64)) (fun p hp => hall p (List.mem_range.1 hp))
    simpa using this
  have hp := pages_len h.ps.ok
  obtain ⟨G, hG, hsum⟩ := h.few
  have each : ∀ j, j < 7 → 3 * ((P.cs[j]?.map fun c => c.pg.length).getD 0) ≤ G (j + 1) + 2 := by
    intro j hj
    have hjl : j < P.cs.length := by rw [h.ps.ok.len]; exact hj
    have := (hG (j + 1) P.cs[j] ⟨by omega, by simp [hjl]⟩).1
    simpa [hjl] using this
  rw [sum7 G P h.ps.ok.len] at hp
  have e0 : 3 * _ ≤ G 1 + 2 := each 0 (by omega)
  have e1 : 3 * _ ≤ G 2 + 2 := each 1 (by omega)
  have e2 : 3 * _ ≤ G 3 + 2 := each 2 (by omega)
  have e3 : 3 * _ ≤ G 4 + 2 := each 3 (by omega)
  have e4 : 3 * _ ≤ G 5 + 2 := each 4 (by omega)
  have e5 : 3 * _ ≤ G 6 + 2 := each 5 (by omega)
  have e6 : 3 * _ ≤ G 7 + 2 := each 6 (by omega)
  simp only [show List.range 7 = [0, 1, 2, 3, 4, 5, 6] from rfl, List.map_cons, List.map_nil, List.sum_cons, List.sum_nil, List.length_nil] at hp
  omega
end Go.Proofs.YtfefdleadocpmaaDoor

/- What the walk of the law PoolZeros takes: own rows of numbers that grow or lose one, and the pool's calls beside them. Conditions: the blocks hold what is said. -/
namespace Go.Proofs.YtfefdleadocpmaaDoor
open Go.RowKit

theorem ints_len (l : List Nat) : (ints l).length = l.length := by simp [ints]
theorem ints_app (l m : List Nat) : ints (l ++ m) = ints l ++ ints m := by simp [ints]
theorem ints_at {l : List Nat} {j x : Nat} (h : l[j]? = some x) : (ints l)[j]? = some (.int .i64 (x : Int)) := by unfold ints; rw [List.getElem?_map, h]; rfl
/-- Behind an append of numbers to a row that the law has. -/
theorem app_ints {w : World} {H : HL} {rv : RV} {l news : List Nat} (h : Sep w (rowH rv 3 1 (ints l) ++ H)) (hok : rvOk rv l.length) (hl : l.length ≤ 1000) (hl2 : news.length ≤ 1000) (a : Addr) (c : Nat) (hn : ∀ j u, (ints news)[j]? = some u → w.cell? (a.add j) = some u) (ty : TypeId) :
    ∃ rv' w', (Builtin.append_ #[29, 29] ty #[lvOf rv l.length, .slice (some a) news.length c]).run Tryd.prog w = .ok (lvOf rv' (l.length + news.length)) w' ∧ rvOk rv' (l.length + news.length) ∧ Step (rowH rv 3 1 (ints l) ++ H) (rowH rv' 3 1 (ints (l ++ news)) ++ H) w w' := by
  obtain ⟨i0, hi, hz0, hz1, hz2⟩ := info_parts Tryd.infoint
  have hown := row_owns (h.left) hok (by rw [ints_len, Nat.mul_one])
  have o1 : ∀ u ∈ ints news, u.oneCell' = true := by
    intro u hu
    unfold ints at hu
    obtain ⟨x, _, rfl⟩ := List.mem_map.1 hu
    rfl
  obtain ⟨v', w', hr, q1, q2, _, q4⟩ := run_append_own_at (P := Tryd.prog) w 0 29 ty 3 i0 (.int .i64 0) 1 8 Tryd.underlying29 hi hz0 hz1 hz2 rfl (by decide) (lvOf rv l.length) l.length (ints l) hown a news.length c (ints news) (by rw [ints_len, Nat.mul_one]) hn o1 (by unfold maxLen; omega) (by omega) (Nat.zero_le _)
  obtain ⟨rv', rfl, e2, e3⟩ := row_appended (A := []) (B := H) (by simpa using h) q1 q2 q4
  refine ⟨rv', w', hr, e2, ?_⟩
  rw [ints_app]
  simpa using e3
/-- A new row without a cell. -/
theorem new_empty {w : World} {H : HL} (h : Sep w H) (T : TypeId) : Step H (rowH (some (w.heap.size, 0)) T 1 [] ++ H) w (w.alloc (.cells #[] T)) := by
  have s := h.new T []
  refine ⟨⟨s.sep.nd, ?_, s.sep.hi, s.sep.env⟩, s.chg, s.new⟩
  intro p hp
  rcases List.mem_cons.1 hp with rfl | hp
  · obtain ⟨o, ho, rfl⟩ := s.sep.at' (w.heap.size, isC T []) (by simp)
    exact ⟨_, ho, #[], rfl, by simp, by simp⟩
  · exact s.sep.at' p (List.mem_cons_of_mem _ hp)
/-- A row loses the element n: 'append(append([]int{}, l[:n]...), l[n+1:]...)'. -/
theorem cut_runs {w : World} {H : HL} {g cap : Nat} {l : List Nat} (h : Sep w (rowH (some (g, cap)) 3 1 (ints l) ++ H)) (hok : rvOk (some (g, cap)) l.length) (hl : l.length ≤ 1000) (n : Nat) (hn : n < l.length) :
    ∃ rv1 w1 rv2 w2, ((Builtin.append_ #[29, 29] 29 #[.slice (some ⟨w.heap.size, 0, none⟩) 0 0, .slice (some ⟨g, 0, none⟩) n cap]).run Tryd.prog (w.alloc (.cells #[] 3)) = .ok (lvOf rv1 n) w1) ∧
      ((Builtin.append_ #[29, 29] 29 #[lvOf rv1 n, .slice (if cap = n + 1 then some ⟨g, 0, none⟩ else some ⟨g, n + 1, none⟩) (l.length - (n + 1)) (cap - (n + 1))]).run Tryd.prog w1 = .ok (lvOf rv2 (l.length - 1)) w2) ∧
      rvOk rv2 (l.length - 1) ∧ Step (rowH (some (g, cap)) 3 1 (ints l) ++ H) (rowH rv2 3 1 (ints (l.take n ++ l.drop (n + 1))) ++ H) w w2 := by
  have s0 := new_empty h 3
  have c0 : ∀ (w' : World) (A : HL), Sep w' (A ++ (rowH (some (g, cap)) 3 1 (ints l) ++ H)) → ∀ (j x : Nat), l[j]? = some x → w'.cell? ⟨g, j, none⟩ = some (.int .i64 (x : Int)) := fun w' A h' j x hj => row_cell h'.right.left j _ (ints_at hj)
  have r1 : ∀ ty, ∃ rv' w', (Builtin.append_ #[29, 29] ty #[lvOf (some (w.heap.size, 0)) ([] : List Nat).length, .slice (some ⟨g, 0, none⟩) (l.take n).length cap]).run Tryd.prog (w.alloc (.cells #[] 3)) = .ok (lvOf rv' (([] : List Nat).length + (l.take n).length)) w' ∧ rvOk rv' (([] : List Nat).length + (l.take n).length) ∧
      Step (rowH (some (w.heap.size, 0)) 3 1 (ints []) ++ (rowH (some (g, cap)) 3 1 (ints l) ++ H)) (rowH rv' 3 1 (ints ([] ++ l.take n)) ++ (rowH (some (g, cap)) 3 1 (ints l) ++ H)) (w.alloc (.cells #[] 3)) w' := fun ty => app_ints (rv := some (w.heap.size, 0)) (l := []) (news := l.take n) s0.sep (show rvOk (some (w.heap.size, 0)) 0 from ⟨Nat.le_refl _, by unfold maxLen; omega⟩) (by simp) (by simp; omega) ⟨g, 0, none⟩ cap (by
    intro j u hj
    unfold ints at hj
    rw [List.getElem?_map] at hj
    obtain ⟨x, hx, rfl⟩ := Option.map_eq_some_iff.1 hj
    rw [List.getElem?_take] at hx
    split at hx
    · rw [addp, Nat.zero_add]
      exact c0 _ _ s0.sep j x hx
    · cases hx) ty
  obtain ⟨rv1, w1, hr1, ok1, s1⟩ := r1 29
  have ht : (l.take n).length = n := by rw [List.length_take]; omega
  have hd : (l.drop (n + 1)).length = l.length - (n + 1) := List.length_drop
  simp only [List.length_nil, Nat.zero_add, List.nil_append] at hr1 ok1 s1
  rw [ht] at hr1 ok1
  obtain ⟨a2, ha2, hc2⟩ : ∃ a2 : Addr, (if cap = n + 1 then some (⟨g, 0, none⟩ : Addr) else some ⟨g, n + 1, none⟩) = some a2 ∧ ∀ j u, (ints (l.drop (n + 1)))[j]? = some u → w1.cell? (a2.add j) = some u := by
    by_cases hc : cap = n + 1
    · refine ⟨⟨g, 0, none⟩, by simp [hc], fun j u hj => ?_⟩
      have h1 := hok.1
      have : l.drop (n + 1) = [] := List.drop_eq_nil_of_le (by omega)
      rw [this] at hj
      cases hj
    · refine ⟨⟨g, n + 1, none⟩, by simp [hc], fun j u hj => ?_⟩
      unfold ints at hj
      rw [List.getElem?_map] at hj
      obtain ⟨x, hx, rfl⟩ := Option.map_eq_some_iff.1 hj
      rw [List.getElem?_drop] at hx
      rw [addp]
      exact c0 _ _ s1.sep _ x hx
  obtain ⟨rv2, w2, hr2, ok2, s2⟩ := app_ints (news := l.drop (n + 1)) s1.sep (by rw [ht]; exact ok1) (by omega) (by omega) a2 (cap - (n + 1)) hc2 29
  rw [ht, hd, show n + (l.length - (n + 1)) = l.length - 1 by omega] at hr2 ok2
  rw [← ha2] at hr2
  refine ⟨rv1, w1, rv2, w2, hr1, hr2, ok2, ?_⟩
  have s012 := (s0.trans s1).trans s2
  refine s012.drop ?_
  exact List.Sublist.append (List.Sublist.refl _) (List.sublist_append_right _ _)
end Go.Proofs.YtfefdleadocpmaaDoor
