/- PoolSums returns true at every input, with the three listed tables tied to the program's text. No condition. Part of its proof. -/
import Derived.Test.YtfefdleadocpmaaDoorPs09
import Derived.Test.YtfefdleadocpmaaDoorPs10
import Derived.Deep.LoopGhost
import Derived.Deep.CutRange
/- The pool's example, as the law's package has it: what its calls come to. Conditions: the blocks hold what PL.hl says. -/
namespace Go.Proofs.YtfefdleadocpmaaDoor
open Go.RowKit

theorem used_nil {c : CA} (h : c.used = []) (hb : ∀ x ∈ c.pg, cntB x.1.bits ≠ 0) : c.pg = [] := by
  cases hp : c.pg with
  | nil => rfl
  | cons x r =>
    exfalso
    have hx : x ∈ c.pg := by rw [hp]; simp
    have h1 := hb x hx
    rw [← trues_len] at h1
    obtain ⟨i, hi⟩ := List.exists_mem_of_length_pos (Nat.pos_of_ne_zero h1)
    have : addr c.size x.2 i ∈ c.used := mem_used.2 ⟨x, hx, i, mem_trues.1 hi, rfl⟩
    rw [h] at this
    cases this
/-- Nothing is used: no cache has a page. -/
theorem empty_pg {P : PL} {fr : List Nat} (ok : P.Ok fr) (h : ∀ j, P.usedOf j = []) : ∀ (k : Nat) (c : CA), P.cs[k]? = some c → c.pg = [] := by
  intro k c hc
  have hcls : P.Cls (k + 1) c := ⟨by omega, by simpa using hc⟩
  have := h (k + 1)
  rw [usedOf_cls hcls] at this
  exact used_nil this (PL.busyC ok hc)
theorem empty_pages {P : PL} {fr : List Nat} (ok : P.Ok fr) (h : ∀ j, P.usedOf j = []) : P.pages = [] := by
  unfold PL.pages
  rw [List.flatMap_eq_nil_iff]
  intro c hc
  obtain ⟨k, hk⟩ := List.mem_iff_getElem?.1 hc
  rw [empty_pg ok h k c hk]; rfl
theorem empty_ps {P : PL} (ok : P.Ok []) (h : ∀ j, P.usedOf j = []) : P.d.ps = [] := by
  have := ok.pages
  rw [empty_pages ok h] at this
  exact List.nil_perm.1 this
theorem fresh_used {P : PL} {top : Nat} {limit : Int} (h : FreshP P top limit) (j : Nat) : P.usedOf j = [] := by
  unfold PL.usedOf
  split
  · split
    · rename_i c hc
      unfold CA.used
      rw [(h.cs _ c hc).2.2.2]; rfl
    · rfl
  · rfl
/-- The example's pool: so much charged of 100, these places of class 1 used. -/
structure AlS (P : PL) (ch : Int) (us : List Nat) : Prop where
  ok : P.Ok []
  top : P.d.top = 6
  q : ∃ e, find P.q.E 0 = some e ∧ e.q.limit = 100 ∧ e.q.charged = ch ∧ e.q.given = 0
  one : P.usedOf 1 = us
  other : ∀ j, j ≠ 1 → P.usedOf j = []
theorem fst_new : (∀ k, k < 6 → fstG (fre (uOf []) 6) 6 k 0 = none) ∧ fstG (fre (uOf []) 6) 6 6 0 = some 0 := by decide +kernel
theorem take_new_pool {c : CA} {d : BD} {a : Nat} {ps' : List Nat} (hpg : c.pg = []) (hps : d.ps = []) (ht : d.top = 6) (h : TakeW c d a ps') : a = 64 ∧ ps' = [0] := by
  rcases h with ⟨k, x, i, hx, _⟩ | ⟨_, k0, i0, hk, hf, hp, ha, hq⟩
  · rw [hpg] at hx; simp at hx
  · rw [hps, ht] at hf hp
    rw [ht] at hk
    obtain ⟨f1, f2⟩ := fst_new
    have hk6 : k0 = 6 := by
      rcases Nat.lt_or_ge k0 6 with e | e
      · rw [f1 k0 e] at hf; cases hf
      · omega
    subst hk6
    rw [f2] at hf
    cases hf
    rw [hps] at hq
    exact ⟨by rw [ha]; unfold addr; omega, by rw [hq]; rfl⟩
theorem noroom_new {P : PL} {n : Nat} (h : ∀ (k : Nat) (c : CA), P.cs[k]? = some c → c.pg = []) (hps : P.d.ps = []) (ht : P.d.top = 6) : ¬ NoRoom P n := by
  rintro ⟨c, hc, _, hn⟩
  rw [hps, ht] at hn
  have := hn 6 (Nat.le_refl _)
  rw [fst_new.2] at this
  cases this
theorem word8_zero (m : List Nat) (a n : Nat) (hn : 8 ≤ n) (hl : a ≤ m.length) : word8 (put_ m a (List.replicate n 0)) a = 0 := by
  unfold word8 put_
  rw [List.append_assoc, List.drop_append_of_le_length (by rw [List.length_take]; omega), List.drop_of_length_le (by rw [List.length_take]; omega), List.nil_append, List.take_append_of_le_length (by simpa using hn), List.take_replicate, Nat.min_eq_left hn]
  rfl
theorem al_get {w : World} {P : PL} (h : Sep w P.hl) (al : AlS P 0 []) : Calls Tryd.prog 8 #[.pointer (some ⟨P.p, 0, none⟩), .int .i64 0, .int .i64 1] w fun r w' => r = .returned (.tuple #[.int .i64 64, .int .i64 0]) ∧
    ∃ P', P'.p = P.p ∧ P'.q.t = P.q.t ∧ P'.d.b = P.d.b ∧ P'.a.a = P.a.a ∧ AlS P' 64 [64] ∧ P'.d.ps = [0] ∧ word8 P'.a.mem 64 = 0 ∧ Step P.hl P'.hl w w' := by
  have hall : ∀ j, P.usedOf j = [] := fun j => by
    by_cases e : j = 1
    · rw [e]; exact al.one
    · exact al.other j e
  have hpg := empty_pg al.ok hall
  have hps := empty_ps al.ok hall
  obtain ⟨e, hf, q1, q2, q3⟩ := al.q
  refine (pget_any h al.ok 0 1).mono ?_
  rintro r w' (⟨h0, _⟩ | ⟨_, h0, _⟩ | ⟨_, ⟨e', h0, h1⟩, _⟩ | ⟨n, e', hn, _, _, h0, _, hr⟩)
  · exact absurd h0 (by decide)
  · rw [hf] at h0; cases h0
  · rw [hf] at h0; cases h0
    rw [q1, q2, q3] at h1
    exact absurd h1 (by decide)
  · have hn1 : n = 1 := by omega
    subst hn1
    rcases hr with ⟨a, P', rfl, g, hst⟩ | ⟨hno, _⟩
    · obtain ⟨c, hc, hw⟩ := g.which
      obtain ⟨rfl, hps'⟩ := take_new_pool (hpg _ c hc.2) hps al.top hw
      obtain ⟨A, B, u1, u2⟩ := g.used
      rw [al.one] at u1
      obtain ⟨rfl, rfl⟩ := List.append_eq_nil_iff.1 u1.symm
      obtain ⟨e2, f2, _, hq⟩ := g.q
      rw [hf] at f2
      cases f2
      refine ⟨rfl, P', g.p, g.qt, g.db, g.aa, ⟨g.ok, by rw [g.top]; exact al.top, ?_, u2, fun j hj => by rw [g.other j hj]; exact al.other j hj⟩, hps', ?_, hst⟩
      · rw [hq]
        have e1 := find_upd_same hf { e.q with charged := e.q.charged + ((costN 1 : Nat) : Int) }
        exact ⟨_, e1, q1, by show e.q.charged + _ = 64; rw [q2]; rfl, q3⟩
      · rw [g.mem]
        exact word8_zero _ _ _ (by decide) (by rw [al.ok.mem, al.top]; decide)
    · exact absurd hno (noroom_new hpg hps al.top)
theorem al_no {w : World} {P : PL} (h : Sep w P.hl) (al : AlS P 0 []) : Calls Tryd.prog 8 #[.pointer (some ⟨P.p, 0, none⟩), .int .i64 0, .int .i64 2] w fun r w' => r = .returned (.tuple #[.int .i64 0, .int .i64 5]) ∧ Step P.hl P.hl w w' := by
  obtain ⟨e, hf, q1, q2, q3⟩ := al.q
  refine (pget_any h al.ok 0 2).mono ?_
  rintro r w' (⟨h0, _⟩ | ⟨_, h0, _⟩ | ⟨_, ⟨e', h0, h1⟩, rfl, hst⟩ | ⟨n, e', hn, _, _, h0, h1, hr⟩)
  · exact absurd h0 (by decide)
  · rw [hf] at h0; cases h0
  · exact ⟨rfl, hst⟩
  · have hn1 : n = 2 := by omega
    subst hn1
    rw [hf] at h0; cases h0
    rw [q1, q2, q3] at h1
    exact absurd h1 (by decide)
theorem al_put {w : World} {P : PL} (h : Sep w P.hl) (al : AlS P 64 [64]) : Calls Tryd.prog 9 #[.pointer (some ⟨P.p, 0, none⟩), .int .i64 0, .int .i64 1, .int .i64 64] w fun r w' => r = .returned (.int .i64 0) ∧
    ∃ P', P'.p = P.p ∧ P'.q.t = P.q.t ∧ P'.d.b = P.d.b ∧ P'.a.a = P.a.a ∧ AlS P' 0 [] ∧ Step P.hl P'.hl w w' := by
  obtain ⟨e, hf, q1, q2, q3⟩ := al.q
  have hhas : P.has 1 64 = true := by
    unfold PL.has PL.usedI
    rw [if_pos (by decide)]
    rw [decide_eq_true_eq]
    show _ ∧ 64 ∈ P.usedOf 1
    rw [al.one]
    exact ⟨by decide, by simp⟩
  refine (pput_any h al.ok 0 1 64 (by unfold Small; decide)).mono ?_
  rintro r w' (⟨h0, _⟩ | ⟨_, h0, _⟩ | ⟨_, _, h0, _⟩ | ⟨_, _, ⟨e', h0, h1⟩, _⟩ | ⟨n, m, e', hn, hm, _, _, hmem, h0, _, rfl, P', g, hst⟩)
  · exact absurd h0 (by decide)
  · rw [hhas] at h0; cases h0
  · rw [hf] at h0; cases h0
  · rw [hf] at h0; cases h0
    rw [q2] at h1
    exact absurd h1 (by decide)
  · have hn1 : n = 1 := by omega
    have hm1 : m = 64 := by omega
    subst hn1 hm1
    obtain ⟨A, B, u1, u2⟩ := g.used
    rw [al.one] at u1
    have hAB : A ++ B = [] := by
      have := congrArg List.length u1
      simp only [List.length_cons, List.length_nil, List.length_append] at this
      exact List.eq_nil_of_length_eq_zero (by rw [List.length_append]; omega)
    obtain ⟨e2, f2, _, hq⟩ := g.q
    rw [hf] at f2
    cases f2
    refine ⟨rfl, P', g.p, g.qt, g.db, by rw [g.aa], ⟨g.ok, by rw [g.top]; exact al.top, ?_, by rw [u2, hAB], fun j hj => by rw [g.other j hj]; exact al.other j hj⟩, hst⟩
    rw [hq]
    have e1 := find_upd_same hf { e.q with charged := e.q.charged - ((costN 1 : Nat) : Int) }
    exact ⟨_, e1, q1, by show e.q.charged - _ = 0; rw [q2]; rfl, q3⟩
theorem left_one : sumB (freeTo (fre (uOf [0]) 6) 6 7) = 64512 := by decide +kernel
end Go.Proofs.YtfefdleadocpmaaDoor

/- The walk of the pool's example: it is true. Condition: the package-level variables lie. -/
namespace Go.Proofs.YtfefdleadocpmaaDoor
open Go.RowKit

theorem Step.fresh {w w' : World} {H' : HL} (h : Step [] H' w w') : Below w.heap.size w w' := h.below (Nat.le_refl _) (by simp)
set_option maxHeartbeats 4000000 in
set_option maxRecDepth 100000 in
theorem pnew_over {w : World} (h : Env w) : Calls Tryd.prog 6 #[.int .i64 65536, .int .i64 65537] w (Told w (.pointer none)) := by
  have k1 := qnew_any (Sep.nil h) 65537 (by omega) (by omega)
  have HQ : Hid (∀ r w1, NewQ 65537 [] w r w1 → ∃ t, r = .returned (.pointer (some ⟨t, 0, none⟩)) ∧ Calls Tryd.prog 25 #[.int .i64 65536] w1 fun r w2 => ∃ d, r = .returned (.pointer (some ⟨d, 0, none⟩)) ∧
      Calls Tryd.prog 26 #[.int .i64 65536] w2 fun r w3 => ∃ a, r = .returned (.pointer (some ⟨a, 0, none⟩)) ∧ ∀ o, Told w (.pointer none) (.returned (.pointer none)) (w3.alloc o)) := by
    rintro r w1 ⟨t, m, b, rfl, s1⟩
    refine ⟨t, rfl, (buddy_new s1.sep 6 (by omega) (by omega)).mono ?_⟩
    rintro r w2 ⟨d, rfl, _, _, _, s2⟩
    refine ⟨_, rfl, (arena_new s2.sep 16 (by omega) (by omega)).mono ?_⟩
    rintro r w3 ⟨a, rfl, _, s3⟩
    have hb := ((s1.trans s2).trans s3).fresh
    exact ⟨_, rfl, fun o => ⟨rfl, hb.alloc (by exact hb.size) o⟩⟩
  clear h
  go_enter Tryd.func6, Tryd.ntmps6
  go_wp2_with fail
  refine k1.mono ?_
  intro r w1 hx
  obtain ⟨t, rfl, hb⟩ := HQ.out _ _ hx
  have HB := hidden hb
  clear hx hb
  go_wp2_with fail
  refine HB.out.mono ?_
  rintro r w2 ⟨d, rfl, hy⟩
  have HY := hidden hy
  clear hy
  go_wp2_with fail
  refine HY.out.mono ?_
  rintro r w3 ⟨a, rfl, hz⟩
  have HZ := hidden hz
  clear hz
  go_wp2_with fail
  first | exact HZ.out _ | (go_ret; exact HZ.out _)
theorem quse_al {w : World} {P : PL} (h : Sep w P.hl) {ch : Int} {us : List Nat} (al : AlS P ch us) : Calls Tryd.prog 13 #[ptr P.q.t, .int .i64 0] w (Told w (.int .i64 ch)) := by
  obtain ⟨e, hf, q1, q2, q3⟩ := al.q
  have := quse_some (PL.sQ h) al.ok.q hf
  rw [q2, q3, Int.add_zero] at this
  exact this
theorem used_al {w : World} {P : PL} (h : Sep w P.hl) {ch : Int} {a : Nat} (al : AlS P ch [a]) : Calls Tryd.prog 7 #[.pointer (some ⟨P.p, 0, none⟩), .int .i64 1] w fun r w' => ∃ (g cap : Nat), r = .returned (.slice (some ⟨g, 0, none⟩) 1 cap) ∧ Below w.heap.size w w' := by
  have := pused_any h al.ok 1
  have e : P.usedI 1 = [a] := by
    unfold PL.usedI
    rw [if_pos (by decide)]
    exact al.one
  rw [e] at this
  refine this.mono ?_
  rintro r w' ⟨v, rfl, ⟨_, h2⟩, hb⟩
  rcases h2 with ⟨_, h0⟩ | ⟨g, cap, cur, rfl, _⟩
  · simp at h0
  · exact ⟨g, cap, rfl, hb⟩
theorem left_al {w : World} {P : PL} (h : Sep w P.hl) {ch : Int} {us : List Nat} (al : AlS P ch us) (hps : P.d.ps = [0]) : Calls Tryd.prog 23 #[ptr P.d.b] w (Told w (.int .i64 64512)) := by
  have := left_any (PL.sD h) al.ok.d.is
  rw [hps, al.top, left_one] at this
  exact this
theorem has_al {w : World} {P : PL} (h : Sep w P.hl) {ch : Int} (al : AlS P ch [64]) : Calls Tryd.prog 22 #[.pointer (some ⟨P.p, 0, none⟩), .int .i64 1, .int .i64 64] w (Told w (.bool true)) := by
  have hhas : P.has 1 64 = true := by
    unfold PL.has PL.usedI
    rw [if_pos (by decide)]
    rw [decide_eq_true_eq]
    show _ ∧ 64 ∈ P.usedOf 1
    rw [al.one]
    exact ⟨by decide, by simp⟩
  have := phas_any h al.ok 1 64 (by unfold Small; decide)
  rw [hhas] at this
  exact this
theorem bytes8_lt (x : Nat) : ∀ b ∈ bytes8 x, b < 256 := by
  intro b hb
  simp only [bytes8, List.mem_cons, List.not_mem_nil, or_false] at hb
  rcases hb with rfl | rfl | rfl | rfl | rfl | rfl | rfl | rfl <;> exact Nat.mod_lt _ (by decide)
theorem put_bytes' {m bs : List Nat} {a : Nat} (h : ∀ b ∈ m, b < 256) (hb : ∀ b ∈ bs, b < 256) : ∀ b ∈ put_ m a bs, b < 256 := by
  intro b hx
  unfold put_ at hx
  simp only [List.mem_append] at hx
  rcases hx with (hx | hx) | hx
  · exact h b (List.mem_of_mem_take hx)
  · exact hb b hx
  · exact h b (List.mem_of_mem_drop hx)
theorem AlS.setA {P : PL} {ch : Int} {us : List Nat} (al : AlS P ch us) {m : List Nat} (hm : m.length = P.a.mem.length) (hb : ∀ b ∈ m, b < 256) : AlS (P.setA m) ch us := ⟨PL.ok_setA al.ok hm hb, al.top, al.q, al.one, al.other⟩
theorem al_store {w : World} {P : PL} (h : Sep w P.hl) {ch : Int} {us : List Nat} (al : AlS P ch us) : Calls Tryd.prog 20 #[ptr P.a.a, .int .i64 64, .slice (some ⟨w.heap.size, 0, none⟩) 1 1] (w.alloc (.cells #[.int .u64 7] 51)) fun r w' => r = .returned (.int .i64 0) ∧
    ∃ P', P'.p = P.p ∧ P'.a.a = P.a.a ∧ AlS P' ch us ∧ Step P.hl P'.hl w w' := by
  have hml : P.a.mem.length = 65536 := by rw [al.ok.mem, al.top]
  have ha := h.alloc (.cells #[.int .u64 7] 51)
  refine (store_ok (PL.sA ha) 64 7 (by decide) (by omega) (by omega) (by decide) w.heap.size ((Cells.new w 51 [.int .u64 7]).cell 0 _ rfl) (by simp) (fun hm => by have := (PL.sA h).lt hm; omega)).mono ?_
  rintro r w' ⟨rfl, st⟩
  have hm : (put_ P.a.mem 64 (bytes8 7)).length = P.a.mem.length := put_len _ _ _ (by show 64 + 8 ≤ _; omega)
  exact ⟨rfl, P.setA (put_ P.a.mem 64 (bytes8 7)), rfl, rfl, al.setA hm (put_bytes' al.ok.bytes (bytes8_lt 7)), (PL.stepA ha _ st).from_alloc⟩
theorem al_load {w : World} {P : PL} (h : Sep w P.hl) {ch : Int} {us : List Nat} (al : AlS P ch us) (hw : word8 P.a.mem 64 = 0) : Calls Tryd.prog 21 #[ptr P.a.a, .int .i64 64] w fun r w' => r = .returned (.tuple #[.int .u64 0, .int .i64 0]) ∧ w = w' := by
  have hml : P.a.mem.length = 65536 := by rw [al.ok.mem, al.top]
  have := load_ok (PL.sA h) al.ok.bytes 64 (by decide) (by omega) (by omega)
  rw [hw] at this
  exact this
set_option maxHeartbeats 1000000 in
set_option maxRecDepth 100000 in
theorem alive_any {w : World} (h : Env w) : Calls Tryd.prog 5 #[] w (Told w (.bool true)) := by
  have k1 := pnew_any (Sep.nil h) 6 (by omega) (by omega) 100 (by omega) (by decide)
  have HQ : Hid (∀ r w1, NewPL 6 100 [] w r w1 → ∃ P : PL, r = .returned (.pointer (some ⟨P.p, 0, none⟩)) ∧ AlS P 0 [] ∧ Step [] P.hl w w1) := by
    rintro r w1 ⟨P, rfl, hl, hf, hst⟩
    refine ⟨P, rfl, ⟨hf.ok hl (by omega) (by omega) (by omega), hf.etop, ?_, fresh_used hf 1, fun j _ => fresh_used hf j⟩, by simpa using hst⟩
    obtain ⟨t, m, b, hq⟩ := hf.q
    exact ⟨⟨0, b, ⟨100, 0, 0, -1, 0⟩⟩, by rw [hq]; rfl, rfl, rfl, rfl⟩
  clear h
  go_enter Tryd.func5, Tryd.ntmps5
  go_wp2_with fail
  refine k1.mono ?_
  intro r w1 hx
  obtain ⟨P, rfl, al, st1⟩ := HQ.out _ _ hx
  have hg := al_no st1.sep al
  have HG := hidden hg
  have Al := hidden al
  have S1 := hidden st1
  clear hx al st1 hg HQ
  go_wp2_with fail
  refine HG.out.mono ?_
  rintro r w2 ⟨rfl, st2⟩
  have st12 := S1.out.trans st2
  have hg := al_get st2.sep Al.out
  have HG2 := hidden hg
  have S2 := hidden st12
  clear st2 st12 hg HG S1
  go_wp2_with fail
  refine HG2.out.mono ?_
  rintro r w3 ⟨rfl, P3, ep, eq, eb, ea, al3, hps3, hw3, st3⟩
  have st13 := S2.out.trans st3
  have har := parena_any st13.sep
  have hso := al_store st13.sep al3
  rw [ep, ea] at har
  rw [ea] at hso
  have HAr := hidden har
  have HSo := hidden hso
  have EP := hidden ep
  have EA := hidden ea
  have S3 := hidden st13
  clear har hso ep eq eb ea al3 hps3 hw3 st3 st13 HG2 S2 Al
  unfold ptr at *
  go_wp2_with fail
  refine HAr.out.mono ?_
  rintro r w' ⟨rfl, rfl⟩
  go_wp2_with fail
  refine HSo.out.mono ?_
  rintro r w4 ⟨rfl, P4, ep4, ea4, al4, st4⟩
  have st14 := S3.out.trans st4
  have hpu := al_put st14.sep al4
  rw [ep4, EP.out] at hpu
  have HPu := hidden hpu
  have EP4 := hidden (ep4.trans EP.out)
  have EA4 := hidden ea4
  have S4 := hidden st14
  clear hpu ep4 ea4 al4 st4 st14 HAr HSo EP EA S3
  go_wp2_with fail
  refine HPu.out.mono ?_
  rintro r w5 ⟨rfl, P5, ep5, -, -, ea5, al5, st5⟩
  have st15 := S4.out.trans st5
  have hge := al_get st15.sep al5
  rw [ep5] at hge
  have HGe := hidden hge
  have EP5 := hidden ep5
  have EA5 := hidden (ea5.trans EA4.out)
  have S5 := hidden st15
  clear hge ep5 ea5 al5 st5 st15 HPu EP4 EA4 S4
  go_wp2_with fail
  refine HGe.out.mono ?_
  rintro r w6 ⟨rfl, P6, ep6, -, -, ea6, al6, hps6, hw6, st6⟩
  have st16 := S5.out.trans st6
  have har := parena_any st16.sep
  have hld := al_load st16.sep al6 hw6
  have ep6' := ep6
  have ea6' := ea6.trans EA5.out
  rw [ep6', ea6'] at har
  rw [ea6'] at hld
  unfold ptr at har hld
  have HAr := hidden har
  have HLd := hidden hld
  have EP6 := hidden ep6'
  have Al6 := hidden al6
  have HPs := hidden hps6
  have hcost := cost_any st16.sep.env 3
  rw [show costI 3 = 256 from rfl] at hcost
  have HCost := hidden hcost
  have hha := has_al st16.sep al6
  rw [ep6'] at hha
  have HHa := hidden hha
  have S6 := hidden st16
  clear har hld ep6 ea6 al6 hps6 hw6 st6 st16 ep6' ea6' hcost hha HGe EP5 EA5 S5
  go_wp2_with fail
  refine HAr.out.mono ?_
  rintro r w' ⟨rfl, rfl⟩
  go_wp2_with fail
  refine HLd.out.mono ?_
  rintro r w' ⟨rfl, rfl⟩
  clear HAr HLd
  go_wp2_with fail
  refine HCost.out.mono ?_
  rintro r w' ⟨rfl, rfl⟩
  clear HCost
  go_wp2_with fail
  refine HHa.out.mono ?_
  rintro r w7 ⟨rfl, hb7⟩
  have st17 := S6.out.trans (S6.out.sep.grown hb7)
  have hus := used_al st17.sep Al6.out
  rw [EP6.out] at hus
  have HUs := hidden hus
  have S7 := hidden st17
  clear hus hb7 st17 HHa S6
  go_wp2_with fail
  refine HUs.out.mono ?_
  rintro r w8 ⟨g8, cap8, rfl, hb8⟩
  have st18 := S7.out.trans (S7.out.sep.grown hb8)
  have hqu := pquota_any st18.sep
  have huse := quse_al st18.sep Al6.out
  rw [EP6.out] at hqu
  unfold ptr at hqu huse
  have HQu := hidden hqu
  have HUse := hidden huse
  have S8 := hidden st18
  clear hqu huse hb8 st18 HUs S7
  go_wp2_with fail
  refine HQu.out.mono ?_
  rintro r w' ⟨rfl, rfl⟩
  go_wp2_with fail
  refine HUse.out.mono ?_
  rintro r w9 ⟨rfl, hb9⟩
  have st19 := S8.out.trans (S8.out.sep.grown hb9)
  have hbl := pblocks_any st19.sep
  have hle := left_al st19.sep Al6.out HPs.out
  rw [EP6.out] at hbl
  unfold ptr at hbl hle
  have HBl := hidden hbl
  have HLe := hidden hle
  have S9 := hidden st19
  clear hbl hle hb9 st19 HQu HUse S8
  go_wp2_with fail
  refine HBl.out.mono ?_
  rintro r w' ⟨rfl, rfl⟩
  go_wp2_with fail
  refine HLe.out.mono ?_
  rintro r w10 ⟨rfl, hb10⟩
  have st110 := S9.out.trans (S9.out.sep.grown hb10)
  have hov := pnew_over st110.sep.env
  have HOv := hidden hov
  have S10 := hidden st110
  clear hov hb10 st110 HBl HLe S9
  go_wp2_with fail
  refine HOv.out.mono ?_
  rintro r w11 ⟨rfl, hb11⟩
  have HR : Hid (Told w (.bool true) (.returned (.bool true)) w11) := ⟨rfl, (S10.out.trans (S10.out.sep.grown hb11)).fresh⟩
  clear hb11 HOv S10
  go_wp2_with fail
  first | exact HR.out | (go_ret; exact HR.out)
end Go.Proofs.YtfefdleadocpmaaDoor

/- What the first law of the pool needs of the pool: what is charged is what all that is used costs. Conditions: the blocks hold what PL.hl says. -/
namespace Go.Proofs.YtfefdleadocpmaaDoor
open Go.RowKit

theorem used_pairwise {c : CA} (ok : c.Ok) : c.used.Pairwise (· < ·) := by
  unfold CA.used
  rw [List.pairwise_flatMap]
  have hs0 := ok.s0
  constructor
  · intro x hx
    unfold usedPg
    rw [List.pairwise_map]
    refine (trues_sorted x.1.bits).imp fun {i j} h => ?_
    unfold addr
    have : i * c.size + c.size ≤ j * c.size := by
      have := Nat.mul_le_mul_right c.size h
      rw [Nat.succ_mul] at this
      exact this
    omega
  · refine List.Pairwise.imp_of_mem (fun {x y} hx hy h => ?_) ok.sorted
    intro a ha b hb
    have ha' : a ∈ c.used := List.mem_flatMap.2 ⟨x, hx, ha⟩
    unfold usedPg at ha hb
    obtain ⟨i, hi, rfl⟩ := List.mem_map.1 ha
    obtain ⟨j, hj, rfl⟩ := List.mem_map.1 hb
    have hil : i < x.1.bits.length := by
      have := mem_trues.1 hi
      rcases Nat.lt_or_ge i x.1.bits.length with e | e
      · exact e
      · rw [List.getElem?_eq_none e] at this; cases this
    have hp := place_lt (s := c.size) (by omega) hil (ok.many x hx)
    unfold addr
    have hxy : x.2 < y.2 := h
    omega
theorem usedOf_pairwise {P : PL} {fr : List Nat} (ok : P.Ok fr) (n : Nat) : (P.usedOf n).Pairwise (· < ·) := by
  unfold PL.usedOf
  split
  · rename_i h1
    split
    · rename_i c hc
      exact used_pairwise (PL.Cls.facts ok ⟨h1, hc⟩).1
    · exact List.Pairwise.nil
  · exact List.Pairwise.nil
def sumTo (P : PL) (k : Nat) : Nat := ((List.range k).map fun j => (P.usedOf j).length * costN j).sum
theorem sumTo_succ (P : PL) (k : Nat) : sumTo P (k + 1) = sumTo P k + (P.usedOf k).length * costN k := by
  unfold sumTo; rw [List.range_succ]; simp
/-- What all that is used costs. -/
def sumU (P : PL) : Nat := sumTo P 8
theorem sumU_eq (P : PL) : sumU P = (P.usedOf 1).length * 64 + (P.usedOf 2).length * 128 + (P.usedOf 3).length * 256 + (P.usedOf 4).length * 32 + (P.usedOf 5).length * 32 + (P.usedOf 6).length * 48 + (P.usedOf 7).length * 256 := by
  unfold sumU
  simp only [sumTo_succ]
  have : sumTo P 0 = 0 := rfl
  rw [this]
  simp [costN]
theorem sumTo_le (P : PL) {k : Nat} (hk : k ≤ 8) : sumTo P k ≤ sumU P := by
  have step : ∀ j, sumTo P j ≤ sumTo P (j + 1) := fun j => by rw [sumTo_succ]; omega
  have h : ∀ d, sumTo P k ≤ sumTo P (k + d) := fun d => by
    induction d with
    | zero => exact Nat.le_refl _
    | succ d ih => exact Nat.le_trans ih (step _)
  have := h (8 - k)
  rwa [show k + (8 - k) = 8 by omega] at this
theorem sumU_change {P P' : PL} {n x y : Nat} (h1 : 1 ≤ n) (h7 : n ≤ 7) (hn : (P'.usedOf n).length + x = (P.usedOf n).length + y) (ho : ∀ j, j ≠ n → P'.usedOf j = P.usedOf j) : sumU P' + x * costN n = sumU P + y * costN n := by
  rw [sumU_eq, sumU_eq]
  have h : n = 1 ∨ n = 2 ∨ n = 3 ∨ n = 4 ∨ n = 5 ∨ n = 6 ∨ n = 7 := by omega
  rcases h with rfl | rfl | rfl | rfl | rfl | rfl | rfl
  · rw [ho 2 (by omega), ho 3 (by omega), ho 4 (by omega), ho 5 (by omega), ho 6 (by omega), ho 7 (by omega), show costN 1 = 64 from rfl]; omega
  · rw [ho 1 (by omega), ho 3 (by omega), ho 4 (by omega), ho 5 (by omega), ho 6 (by omega), ho 7 (by omega), show costN 2 = 128 from rfl]; omega
  · rw [ho 1 (by omega), ho 2 (by omega), ho 4 (by omega), ho 5 (by omega), ho 6 (by omega), ho 7 (by omega), show costN 3 = 256 from rfl]; omega
  · rw [ho 1 (by omega), ho 2 (by omega), ho 3 (by omega), ho 5 (by omega), ho 6 (by omega), ho 7 (by omega), show costN 4 = 32 from rfl]; omega
  · rw [ho 1 (by omega), ho 2 (by omega), ho 3 (by omega), ho 4 (by omega), ho 6 (by omega), ho 7 (by omega), show costN 5 = 32 from rfl]; omega
  · rw [ho 1 (by omega), ho 2 (by omega), ho 3 (by omega), ho 4 (by omega), ho 5 (by omega), ho 7 (by omega), show costN 6 = 48 from rfl]; omega
  · rw [ho 1 (by omega), ho 2 (by omega), ho 3 (by omega), ho 4 (by omega), ho 5 (by omega), ho 6 (by omega), show costN 7 = 256 from rfl]; omega
theorem sumU_ge (P : PL) {n : Nat} (h1 : 1 ≤ n) (h7 : n ≤ 7) : (P.usedOf n).length * costN n ≤ sumU P := by
  rw [sumU_eq]
  have h : n = 1 ∨ n = 2 ∨ n = 3 ∨ n = 4 ∨ n = 5 ∨ n = 6 ∨ n = 7 := by omega
  rcases h with rfl | rfl | rfl | rfl | rfl | rfl | rfl <;> simp only [costN, List.getElem?_cons_succ, List.getElem?_cons_zero, Option.getD_some] <;> omega
/-- The first factory pays for all that is used. -/
structure PS (lim : Int) (P : PL) : Prop where
  ok : P.Ok []
  top : P.d.top = 6
  q : ∃ e, find P.q.E 0 = some e ∧ e.q.limit = lim ∧ e.q.given = 0 ∧ e.q.charged = ((sumU P : Nat) : Int)
theorem PS.le {lim : Int} {P : PL} (h : PS lim P) : ((sumU P : Nat) : Int) ≤ lim ∧ lim ≤ 1073741824 := by
  obtain ⟨e, hf, q1, q2, q3⟩ := h.q
  obtain ⟨f1, f2, f3, f4, _⟩ := h.ok.q.fa 0 e hf
  omega
theorem PS.new {P : PL} {lim : Int} (hl : P.cs.length = 7) (hf : FreshP P 6 lim) (h0 : 0 ≤ lim) (h1 : lim ≤ 1073741824) : PS lim P := by
  refine ⟨hf.ok hl (by omega) h0 h1, hf.etop, ?_⟩
  obtain ⟨t, m, b, hq⟩ := hf.q
  refine ⟨⟨0, b, ⟨lim, 0, 0, -1, 0⟩⟩, by rw [hq]; rfl, rfl, rfl, ?_⟩
  rw [sumU_eq]
  simp only [fresh_used hf]
  rfl
theorem PS.get {lim : Int} {P P' : PL} {n a : Nat} (h : PS lim P) (h1 : 1 ≤ n) (h7 : n ≤ 7) (g : GetOk P [] 0 n a P') : PS lim P' := by
  obtain ⟨e, hf, q1, q2, q3⟩ := h.q
  obtain ⟨A, B, u1, u2⟩ := g.used
  have hs := sumU_change (x := 0) (y := 1) h1 h7 (by rw [u1, u2]; simp; omega) g.other
  obtain ⟨e2, f2, _, hq⟩ := g.q
  rw [hf] at f2; cases f2
  refine ⟨g.ok, by rw [g.top]; exact h.top, ?_⟩
  rw [hq]
  exact ⟨_, find_upd_same hf _, q1, q2, by show e.q.charged + _ = _; rw [q3]; omega⟩
theorem PS.put {lim : Int} {P P' : PL} {n a : Nat} (h : PS lim P) (h1 : 1 ≤ n) (h7 : n ≤ 7) (g : PutOk P [] 0 n a P') : PS lim P' := by
  obtain ⟨e, hf, q1, q2, q3⟩ := h.q
  obtain ⟨A, B, u1, u2⟩ := g.used
  have hs := sumU_change (x := 1) (y := 0) h1 h7 (by rw [u1, u2]; simp; omega) g.other
  obtain ⟨e2, f2, _, hq⟩ := g.q
  rw [hf] at f2; cases f2
  refine ⟨g.ok, by rw [g.top]; exact h.top, ?_⟩
  rw [hq]
  exact ⟨_, find_upd_same hf _, q1, q2, by show e.q.charged - _ = _; rw [q3]; omega⟩
/-- A Get for the first factory, of whatever class. -/
def PsGet (lim : Int) (P : PL) (w : World) (r : Ending) (w' : World) : Prop := (∃ x e : Int, r = .returned (.tuple #[.int .i64 x, .int .i64 e])) ∧ ∃ P', PS lim P' ∧ P'.p = P.p ∧ Step P.hl P'.hl w w'
theorem ps_get {lim : Int} {w : World} {P : PL} (h : Sep w P.hl) (ps : PS lim P) (c : Int) : Calls Tryd.prog 8 #[.pointer (some ⟨P.p, 0, none⟩), .int .i64 0, .int .i64 c] w (PsGet lim P w) := by
  refine (pget_any h ps.ok 0 c).mono ?_
  rintro r w' (⟨_, rfl, st⟩ | ⟨_, _, rfl, st⟩ | ⟨_, _, rfl, st⟩ | ⟨n, e, _, h1, h7, _, _, hr⟩)
  · exact ⟨⟨_, _, rfl⟩, P, ps, rfl, st⟩
  · exact ⟨⟨_, _, rfl⟩, P, ps, rfl, st⟩
  · exact ⟨⟨_, _, rfl⟩, P, ps, rfl, st⟩
  · rcases hr with ⟨a, P', rfl, g, st⟩ | ⟨_, rfl, st⟩
    · exact ⟨⟨_, _, rfl⟩, P', ps.get h1 h7 g, g.p, st⟩
    · exact ⟨⟨_, _, rfl⟩, P, ps, rfl, st⟩
/-- A Put of a place that is used. -/
def PsPut (lim : Int) (P : PL) (n a : Nat) (w : World) (r : Ending) (w' : World) : Prop := r = .returned (.int .i64 0) ∧ ∃ P', PS lim P' ∧ P'.p = P.p ∧ (∃ A B, P.usedOf n = A ++ a :: B ∧ P'.usedOf n = A ++ B) ∧ (∀ j, j ≠ n → P'.usedOf j = P.usedOf j) ∧ Step P.hl P'.hl w w'
theorem ps_put {lim : Int} {w : World} {P : PL} (h : Sep w P.hl) (ps : PS lim P) (n a : Nat) (hm : a ∈ P.usedOf n) : Calls Tryd.prog 9 #[.pointer (some ⟨P.p, 0, none⟩), .int .i64 0, .int .i64 (n : Int), .int .i64 (a : Int)] w (PsPut lim P n a w) := by
  obtain ⟨hin, _, h1, h7⟩ := used_in_mem ps.ok hm
  have hml := mem_bound ps.ok
  obtain ⟨e, hf, q1, q2, q3⟩ := ps.q
  have hpos : 0 < costN n := costN_pos.2 ⟨h1, h7⟩
  have hcI : costI (n : Int) = costN n := by unfold costI; rw [if_pos (by omega), Int.toNat_natCast]
  have hhas : P.has (n : Int) (a : Int) = true := by
    unfold PL.has PL.usedI
    rw [decide_eq_true_eq, if_pos (by omega : (0 : Int) ≤ (n : Int)), Int.toNat_natCast, Int.toNat_natCast]
    exact ⟨by omega, hm⟩
  have hlen : 1 ≤ (P.usedOf n).length := List.length_pos_of_mem hm
  have hge := sumU_ge P h1 h7
  have hge2 : costN n ≤ sumU P := by
    have := Nat.mul_le_mul_right (costN n) hlen
    omega
  refine (pput_any h ps.ok 0 (n : Int) (a : Int) (by unfold Small; omega)).mono ?_
  rintro r w' (⟨h0, _⟩ | ⟨_, h0, _⟩ | ⟨_, _, h0, _⟩ | ⟨_, _, ⟨e', h0, h2⟩, _⟩ | ⟨n', m, e', hn, hm', _, _, _, _, _, rfl, P', g, st⟩)
  · rw [hcI] at h0; omega
  · rw [hhas] at h0; cases h0
  · rw [hf] at h0; cases h0
  · rw [hf] at h0; cases h0
    rw [hcI, q3] at h2
    omega
  · have e1 : n' = n := by omega
    have e2 : m = a := by omega
    subst e1 e2
    exact ⟨rfl, P', ps.put h1 h7 g, g.p, g.used, g.other, st⟩
theorem ps_charged {lim : Int} {w : World} {P : PL} (h : Sep w P.hl) (ps : PS lim P) : Calls Tryd.prog 12 #[ptr P.q.t, .int .i64 0] w fun r w' => r = .returned (.int .i64 ((sumU P : Nat) : Int)) ∧ w = w' := by
  obtain ⟨e, hf, q1, q2, q3⟩ := ps.q
  have := qcharged_some (PL.sQ h) hf
  rw [q3] at this
  exact this
theorem ps_use {lim : Int} {w : World} {P : PL} (h : Sep w P.hl) (ps : PS lim P) : Calls Tryd.prog 13 #[ptr P.q.t, .int .i64 0] w (Told w (.int .i64 ((sumU P : Nat) : Int))) := by
  obtain ⟨e, hf, q1, q2, q3⟩ := ps.q
  have := quse_some (PL.sQ h) ps.ok.q hf
  rw [q2, q3, Int.add_zero] at this
  exact this
theorem free_new : freeTo (fre (uOf []) 6) 6 7 = [(0, 6)] := by decide +kernel
theorem ps_free {lim : Int} {w : World} {P : PL} (h : Sep w P.hl) (ps : PS lim P) (he : ∀ j, P.usedOf j = []) : Calls Tryd.prog 15 #[ptr P.d.b] w fun r w' => (∃ g cap : Nat, r = .returned (.slice (some ⟨g, 0, none⟩) 1 cap)) ∧ Below w.heap.size w w' := by
  have := bfree_any (PL.sD h) ps.ok.d.is
  rw [empty_ps ps.ok he, ps.top, free_new] at this
  refine this.mono ?_
  rintro r w' ⟨v, L, rfl, p1, p2, ⟨_, p4⟩, p5⟩
  have hl : L.length = 1 := p1.length_eq
  rcases p4 with ⟨_, h0⟩ | ⟨g, cap, cur, rfl, _⟩
  · omega
  · exact ⟨⟨g, cap, by rw [hl]⟩, p5⟩
end Go.Proofs.YtfefdleadocpmaaDoor

/- The walk of the law PoolSums. Conditions: the package-level variables lie, the acts are read. -/
namespace Go.Proofs.YtfefdleadocpmaaDoor
open Go.RowKit

/-- An act: its kind, a factory, a class, a number. -/
structure A4 where
  k : Int
  f : Int
  c : Int
  n : Int
/-- A slice that came in holds these acts. -/
def IsA4 (w : World) (a0 : Option Addr) (len : Nat) (A : Nat → A4) : Prop := ∀ j, j < len → ∃ g off, a0 = some ⟨g, off, none⟩ ∧ g < w.heap.size ∧ w.cell? ⟨g, off + j * 4, none⟩ = some (.int .i64 (A j).k) ∧ w.cell? ⟨g, off + j * 4 + 1, none⟩ = some (.int .i64 (A j).f) ∧ w.cell? ⟨g, off + j * 4 + 2, none⟩ = some (.int .i64 (A j).c) ∧ w.cell? ⟨g, off + j * 4 + 3, none⟩ = some (.int .i64 (A j).n) ∧ (A j).n ≤ 9223372036854775807
theorem IsA4.below {w w' : World} {a0 : Option Addr} {len : Nat} {A : Nat → A4} (h : IsA4 w a0 len A) (hb : Below w.heap.size w w') : IsA4 w' a0 len A := by
  intro j hj
  obtain ⟨g, off, h1, h2, h3, h4, h5, h6, h7⟩ := h j hj
  have e := hb.block g h2
  exact ⟨g, off, h1, Nat.lt_of_lt_of_le h2 hb.size, (block_same e _).trans h3, (block_same e _).trans h4, (block_same e _).trans h5, (block_same e _).trans h6, h7⟩
/-- The shape of a new slice of numbers. -/
theorem newints_shape {w : World} {L : List Nat} {r : Ending} {w' : World} (h : NewInts w L r w') : ∃ (a : Option Addr) (cap : Nat), r = .returned (.slice a L.length cap) ∧ Below w.heap.size w w' ∧ ∀ wr : World, (∀ b, w.heap.size ≤ b → b < w'.heap.size → wr.heap[b]? = w'.heap[b]?) → ∀ (j x : Nat), L[j]? = some x → ∃ g, a = some ⟨g, 0, none⟩ ∧ w.heap.size ≤ g ∧ g < w'.heap.size ∧ wr.cell? ⟨g, j, none⟩ = some (.int .i64 (x : Int)) := by
  obtain ⟨v, rfl, ⟨_, h2⟩, hb⟩ := h
  rcases h2 with ⟨rfl, h0⟩ | ⟨g, cap, cur, rfl, hg, hgb, hn, hm, hs, htk⟩
  · refine ⟨none, 0, by rw [h0], hb, fun wr _ j x hj => ?_⟩
    have := (List.getElem?_eq_some_iff.1 hj).1
    omega
  · refine ⟨_, cap, rfl, hb, fun wr hwr j x hj => ⟨g, rfl, hg, lt_of_block hgb, ?_⟩⟩
    have hbk : wr.heap[g]? = some (.cells cur 3 (0, 0)) := (hwr g hg (lt_of_block hgb)).trans hgb
    have hv : (ints L)[j]? = some (.int .i64 (x : Int)) := by unfold ints; rw [List.getElem?_map, hj]; rfl
    rw [← htk, List.getElem?_take] at hv
    split at hv
    · simp only [World.cell?, hbk, Option.isSome_none, Bool.false_eq_true, if_false]
      rw [← Array.getElem?_toList]; exact hv
    · cases hv
/-- The law's state between two acts. -/
def SumsAt (lim : Int) (pp : Nat) (w wr : World) : Prop := ∃ P : PL, PS lim P ∧ P.p = pp ∧ Step [] P.hl w wr
theorem SumsAt.fresh {lim : Int} {pp : Nat} {w wr : World} (h : SumsAt lim pp w wr) : Below w.heap.size w wr := by
  obtain ⟨P, _, _, st⟩ := h
  exact st.fresh
theorem SumsAt.below {lim : Int} {pp : Nat} {w wr wr' : World} (h : SumsAt lim pp w wr) (hb : Below wr.heap.size wr wr') : SumsAt lim pp w wr' := by
  obtain ⟨P, a, b, st⟩ := h
  exact ⟨P, a, b, st.trans (st.sep.grown hb)⟩
/-- An act's Used: the slice, what may be done behind it. -/
theorem sums_used {lim : Int} {pp : Nat} {w wr0 wr : World} (h : SumsAt lim pp w wr0) (hbr : Below wr0.heap.size wr0 wr) (c : Int) : Calls Tryd.prog 7 #[.pointer (some ⟨pp, 0, none⟩), .int .i64 c] wr fun r w2 => ∃ (a : Option Addr) (len cap : Nat), len ≤ 1073741824 ∧ r = .returned (.slice a len cap) ∧ Below wr.heap.size wr w2 ∧ SumsAt lim pp w w2 ∧
    (Calls Tryd.prog 8 #[.pointer (some ⟨pp, 0, none⟩), .int .i64 0, .int .i64 c] w2 fun r w3 => (∃ x e : Int, r = .returned (.tuple #[.int .i64 x, .int .i64 e])) ∧ SumsAt lim pp w w3) ∧
    ∀ j, j < len → ∃ (g : Nat) (x : Int), a = some ⟨g, 0, none⟩ ∧ wr0.heap.size ≤ g ∧ g < w2.heap.size ∧ w2.cell? ⟨g, j, none⟩ = some (.int .i64 x) ∧ Calls Tryd.prog 9 #[.pointer (some ⟨pp, 0, none⟩), .int .i64 0, .int .i64 c, .int .i64 x] w2.drew fun r w3 => r = .returned (.int .i64 0) ∧ SumsAt lim pp w w3 ∧ ∀ b, wr0.heap.size ≤ b → b < w2.heap.size → w3.heap[b]? = w2.heap[b]? := by
  obtain ⟨P, ps, rfl, st0⟩ := h
  have st := st0.trans (st0.sep.grown hbr)
  refine (pused_any st.sep ps.ok c).mono ?_
  intro r w2 hn
  obtain ⟨a, cap, rfl, hb, hrow⟩ := newints_shape hn
  have st2 := st.trans (st.sep.grown hb)
  have hlen : (P.usedI c).length ≤ 1073741824 := by
    unfold PL.usedI
    split
    · rename_i h0
      by_cases hz : (P.usedOf c.toNat).length = 0
      · omega
      · obtain ⟨x, hx⟩ := List.exists_mem_of_length_pos (Nat.pos_of_ne_zero hz)
        obtain ⟨_, _, h1, h7⟩ := used_in_mem ps.ok hx
        have := sumU_ge P h1 h7
        have hc := costN_pos.2 ⟨h1, h7⟩
        have := Nat.le_mul_of_pos_right (P.usedOf c.toNat).length hc
        have := ps.le
        omega
    · simp
  refine ⟨a, (P.usedI c).length, cap, hlen, rfl, hb, ⟨P, ps, rfl, st2⟩, ?_, ?_⟩
  · refine (ps_get st2.sep ps c).mono ?_
    rintro r w3 ⟨he, P', ps', ep, st3⟩
    exact ⟨he, P', ps', ep, st2.trans st3⟩
  · intro j hj
    have hx := List.getElem?_eq_getElem hj
    generalize (P.usedI c)[j] = x at hx
    obtain ⟨g, rfl, hg1, hg2, hcell⟩ := hrow w2 (fun _ _ _ => rfl) j x hx
    have hm := List.mem_of_getElem? hx
    have h0 : 0 ≤ c := by
      unfold PL.usedI at hm
      split at hm
      · assumption
      · cases hm
    obtain ⟨n, rfl⟩ := Int.eq_ofNat_of_zero_le h0
    unfold PL.usedI at hm
    rw [if_pos h0, Int.toNat_natCast] at hm
    refine ⟨g, x, rfl, Nat.le_trans hbr.size hg1, hg2, hcell, (ps_put st2.sep.drew ps n x hm).mono ?_⟩
    rintro r w3 ⟨rfl, P', ps', ep, _, _, st3⟩
    exact ⟨rfl, ⟨P', ps', ep, st2.trans st3.from_drew⟩, fun b hb1 hb2 => st3.from_drew.chg.block b hb2 fun hm' => by have := st0.sep.lt hm'; omega⟩
/-- The state while the sum is made: k classes are gone through. -/
def SumAt (lim : Int) (pp : Nat) (w wr : World) (P : PL) : Prop := PS lim P ∧ P.p = pp ∧ Step [] P.hl w wr
theorem sum_used {lim : Int} {pp : Nat} {w wr : World} {P : PL} (h : SumAt lim pp w wr P) (k : Nat) (h1 : 1 ≤ k) (h7 : k ≤ 7) : Calls Tryd.prog 7 #[.pointer (some ⟨pp, 0, none⟩), .int .i64 (k : Int)] wr fun r w2 => ∃ (a : Option Addr) (cap : Nat), r = .returned (.slice a (P.usedOf k).length cap) ∧ SumAt lim pp w w2 P ∧
    Calls Tryd.prog 10 #[.int .i64 (k : Int)] w2 fun r w' => r = .returned (.int .i64 ((costN k : Nat) : Int)) ∧ w2 = w' := by
  obtain ⟨ps, rfl, st⟩ := h
  refine (pused_any st.sep ps.ok (k : Int)).mono ?_
  intro r w2 hn
  obtain ⟨a, cap, rfl, hb, _⟩ := newints_shape hn
  have e : P.usedI (k : Int) = P.usedOf k := by unfold PL.usedI; rw [if_pos (by omega), Int.toNat_natCast]
  rw [e]
  have st2 := st.trans (st.sep.grown hb)
  have hc := cost_any st2.sep.env (k : Int)
  rw [show costI (k : Int) = costN k by unfold costI; rw [if_pos (by omega), Int.toNat_natCast]] at hc
  exact ⟨a, cap, rfl, ⟨ps, rfl, st2⟩, hc⟩
theorem sum_end {lim : Int} {pp : Nat} {w wr : World} {P : PL} (h : SumAt lim pp w wr P) : Calls Tryd.prog 11 #[.pointer (some ⟨pp, 0, none⟩)] wr fun r w' => ∃ q, r = .returned (.pointer (some ⟨q, 0, none⟩)) ∧ wr = w' ∧
    Calls Tryd.prog 12 #[.pointer (some ⟨q, 0, none⟩), .int .i64 0] wr fun r w' => r = .returned (.int .i64 ((sumU P : Nat) : Int)) ∧ wr = w' := by
  obtain ⟨ps, rfl, st⟩ := h
  refine (pquota_any st.sep).mono ?_
  rintro r w' ⟨rfl, rfl⟩
  exact ⟨P.q.t, rfl, rfl, ps_charged st.sep ps⟩
/-- The last round: classes below k have nothing left, of class k the places from i on are left. -/
def GoneAt (lim : Int) (pp : Nat) (w wr : World) (P : PL) (k : Nat) : Prop := SumAt lim pp w wr P ∧ ∀ j, j < k → P.usedOf j = []
def PartAt (lim : Int) (pp : Nat) (w wr : World) (k : Nat) (L : List Nat) (i : Nat) (a : Option Addr) : Prop := ∃ P, SumAt lim pp w wr P ∧ (∀ j, j < k → P.usedOf j = []) ∧ P.usedOf k = L.drop i ∧
  ∀ (j x : Nat), L[j]? = some x → ∃ g, a = some ⟨g, 0, none⟩ ∧ g ∉ keys P.hl ∧ g < wr.heap.size ∧ wr.cell? ⟨g, j, none⟩ = some (.int .i64 (x : Int))
theorem part_put {lim : Int} {pp : Nat} {w wr : World} {k i : Nat} {L : List Nat} {a : Option Addr} (h : PartAt lim pp w wr k L i a) (x : Nat) (hx : L[i]? = some x) : ∃ g, a = some ⟨g, 0, none⟩ ∧ wr.cell? ⟨g, i, none⟩ = some (.int .i64 (x : Int)) ∧
    Calls Tryd.prog 9 #[.pointer (some ⟨pp, 0, none⟩), .int .i64 0, .int .i64 (k : Int), .int .i64 (x : Int)] wr fun r w' => r = .returned (.int .i64 0) ∧ PartAt lim pp w w' k L (i + 1) a := by
  obtain ⟨P, ⟨ps, rfl, st⟩, hz, hu, hr⟩ := h
  obtain ⟨g, rfl, hgk, hgl, hc⟩ := hr i x hx
  have hi := (List.getElem?_eq_some_iff.1 hx)
  have hd : L.drop i = x :: L.drop (i + 1) := by rw [List.drop_eq_getElem_cons hi.1, hi.2]
  refine ⟨g, rfl, hc, (ps_put st.sep ps k x (by rw [hu, hd]; simp)).mono ?_⟩
  rintro r w' ⟨rfl, P', ps', ep, ⟨A, B, u1, u2⟩, ho, st'⟩
  have hpw := usedOf_pairwise ps.ok k
  rw [hu, hd] at u1
  have hA : A = [] := by
    cases A with
    | nil => rfl
    | cons y r =>
      exfalso
      simp only [List.cons_append, List.cons.injEq] at u1
      rw [hu, hd] at hpw
      have := (List.pairwise_cons.1 hpw).1 x (by rw [u1.2]; simp)
      omega
  subst hA
  simp only [List.nil_append, List.cons.injEq, true_and] at u1 u2
  refine ⟨rfl, P', ⟨ps', ep, st.trans st'⟩, fun j hj => by rw [ho j (by omega)]; exact hz j hj, by rw [u2, ← u1], fun j y hy => ?_⟩
  obtain ⟨g2, e2, hk2, hl2, hc2⟩ := hr j y hy
  have hbk := st'.chg.block g2 hl2 hk2
  refine ⟨g2, e2, fun hm => ?_, Nat.lt_of_lt_of_le hl2 st'.chg.size, (block_same hbk j).trans hc2⟩
  rcases st'.new g2 hm with h' | h'
  · exact hk2 h'
  · omega
theorem gone_used {lim : Int} {pp : Nat} {w wr : World} {P : PL} {k : Nat} (h : GoneAt lim pp w wr P k) (h1 : 1 ≤ k) (h7 : k ≤ 7) : Calls Tryd.prog 7 #[.pointer (some ⟨pp, 0, none⟩), .int .i64 (k : Int)] wr fun r w2 => ∃ (a : Option Addr) (cap : Nat), r = .returned (.slice a (P.usedOf k).length cap) ∧ PartAt lim pp w w2 k (P.usedOf k) 0 a := by
  obtain ⟨⟨ps, rfl, st⟩, hz⟩ := h
  refine (pused_any st.sep ps.ok (k : Int)).mono ?_
  intro r w2 hn
  have e : P.usedI (k : Int) = P.usedOf k := by unfold PL.usedI; rw [if_pos (by omega), Int.toNat_natCast]
  rw [e] at hn
  obtain ⟨v, rfl, ⟨_, h2⟩, hb⟩ := hn
  have st2 := st.trans (st.sep.grown hb)
  rcases h2 with ⟨rfl, h0⟩ | ⟨g, cap, cur, rfl, hg, hgb, hn, hm, hs, htk⟩
  · refine ⟨none, 0, by rw [h0], P, ⟨ps, rfl, st2⟩, hz, rfl, fun j x hj => ?_⟩
    have := (List.getElem?_eq_some_iff.1 hj).1
    omega
  · refine ⟨_, cap, rfl, P, ⟨ps, rfl, st2⟩, hz, rfl, fun j x hj => ⟨g, rfl, fun hm' => by have := st.sep.lt hm'; omega, lt_of_block hgb, ?_⟩⟩
    have hv : (ints (P.usedOf k))[j]? = some (.int .i64 (x : Int)) := by unfold ints; rw [List.getElem?_map, hj]; rfl
    rw [← htk, List.getElem?_take] at hv
    split at hv
    · simp only [World.cell?, hgb, Option.isSome_none, Bool.false_eq_true, if_false]
      rw [← Array.getElem?_toList]; exact hv
    · cases hv
/-- Behind the last round. -/
theorem gone_end {lim : Int} {pp : Nat} {w wr : World} {P : PL} (h : GoneAt lim pp w wr P 8) : Calls Tryd.prog 5 #[] wr fun r w1 => r = .returned (.bool true) ∧
    Calls Tryd.prog 11 #[.pointer (some ⟨pp, 0, none⟩)] w1 fun r w' => ∃ q, r = .returned (.pointer (some ⟨q, 0, none⟩)) ∧ w1 = w' ∧
    Calls Tryd.prog 13 #[.pointer (some ⟨q, 0, none⟩), .int .i64 0] w1 fun r w2 => r = .returned (.int .i64 0) ∧
    Calls Tryd.prog 14 #[.pointer (some ⟨pp, 0, none⟩)] w2 fun r w' => ∃ b, r = .returned (.pointer (some ⟨b, 0, none⟩)) ∧ w2 = w' ∧
    Calls Tryd.prog 15 #[.pointer (some ⟨b, 0, none⟩)] w2 fun r w3 => ∃ g cap : Nat, r = .returned (.slice (some ⟨g, 0, none⟩) 1 cap) ∧ Below w.heap.size w w3 := by
  obtain ⟨⟨ps, rfl, st⟩, hz⟩ := h
  have hall : ∀ j, P.usedOf j = [] := fun j => by
    rcases Nat.lt_or_ge j 8 with e | e
    · exact hz j e
    · exact usedOf_big ps.ok (costN_big e)
  have hsum : sumU P = 0 := by rw [sumU_eq]; simp only [hall]; rfl
  refine (alive_any st.sep.env).mono ?_
  rintro r w1 ⟨rfl, hb1⟩
  have st1 := st.trans (st.sep.grown hb1)
  refine ⟨rfl, (pquota_any st1.sep).mono ?_⟩
  rintro r w' ⟨rfl, rfl⟩
  have hu := ps_use st1.sep ps
  rw [hsum] at hu
  refine ⟨_, rfl, rfl, hu.mono ?_⟩
  rintro r w2 ⟨rfl, hb2⟩
  have st2 := st1.trans (st1.sep.grown hb2)
  refine ⟨rfl, (pblocks_any st2.sep).mono ?_⟩
  rintro r w' ⟨rfl, rfl⟩
  refine ⟨_, rfl, rfl, (ps_free st2.sep ps hall).mono ?_⟩
  rintro r w3 ⟨⟨g, cap, rfl⟩, hb3⟩
  exact ⟨g, cap, rfl, (st2.trans (st2.sep.grown hb3)).fresh⟩
end Go.Proofs.YtfefdleadocpmaaDoor

/- The law PoolSums is true. Conditions: the package-level variables lie, the acts are read. -/
namespace Go.Proofs.YtfefdleadocpmaaDoor
open Go.RowKit

theorem wraps_mul {a b : Nat} (h : a * b ≤ 65536) : wrap64 ((a : Int) * (b : Int)) = ((a * b : Nat) : Int) ∧ IntKind.i64.wrap ((a : Int) * (b : Int)) = ((a * b : Nat) : Int) := by
  rw [← Int.natCast_mul]
  generalize a * b = m at *
  exact ⟨Go.IntWalk.wrap64_in _ (by omega), Go.IntWalk.i64_in _ (by omega)⟩
theorem used_few {lim : Int} {P : PL} (h : PS lim P) {k : Nat} (h1 : 1 ≤ k) (h7 : k ≤ 7) : (P.usedOf k).length ≤ 1073741824 := by
  have h2 := sumU_ge P h1 h7
  have h3 := Nat.le_mul_of_pos_right (P.usedOf k).length (costN_pos.2 ⟨h1, h7⟩)
  have h4 := h.le
  omega
theorem sums_arith {s m lim : Nat} (h : s + m ≤ lim) (hl : lim ≤ 65536) : (s : Int) + (m : Int) ≤ 65536 := by omega
set_option maxHeartbeats 4000000 in
set_option maxRecDepth 100000 in
theorem sums_any {w : World} (henv : Env w) (limit : Nat) (hl : limit < 4294967296) (a0 : Option Addr) (len cap : Nat) (A : Nat → A4) (hA : IsA4 w a0 len A) : Calls Tryd.prog 3 #[.int .u32 (limit : Int), .slice a0 len cap] w (Told w (.bool true)) := by
  have hal := alive_any henv
  have HAl : Hid (∀ r w1, Told w (.bool true) r w1 → r = .returned (.bool true) ∧ Below w.heap.size w w1 ∧ Calls Tryd.prog 6 #[.int .i64 65536, .int .i64 ((limit % 65537 : Nat) : Int)] w1 fun r w2 => ∃ P : PL, r = .returned (.pointer (some ⟨P.p, 0, none⟩)) ∧ SumAt ((limit % 65537 : Nat) : Int) P.p w w2 P) := by
    rintro r w1 ⟨rfl, hb⟩
    have h2 : (2 : Nat) ^ (6 + 10) = 65536 := by decide
    refine ⟨rfl, hb, (pnew_any (Sep.nil (henv.below hb)) 6 (by omega) (by omega) ((limit % 65537 : Nat) : Int) (by omega) (by rw [h2]; omega)).mono ?_⟩
    rintro r w2 ⟨P, rfl, hlen, hf, st⟩
    refine ⟨P, rfl, PS.new hlen hf (by omega) (by omega), rfl, ?_⟩
    have : Step [] P.hl w1 w2 := by simpa using st
    exact ((Sep.nil henv).grown hb).trans this
  have hmod : ((limit : Int)) % 65537 = ((limit % 65537 : Nat) : Int) := by omega
  have hl0 : (0 : Int) ≤ limit := by omega
  have hl1 : (limit : Int) < 4294967296 := by omega
  have HA := hidden hA
  have HMod := hidden hmod
  clear henv hA hmod
  obtain ⟨lim, hlim⟩ : ∃ lim : Nat, lim = limit % 65537 := ⟨_, rfl⟩
  rw [← hlim] at HAl HMod
  have hlb : lim ≤ 65536 := by omega
  clear hlim
  go_enter Tryd.func3, Tryd.ntmps3
  go_wp2_with fail
  refine hal.mono ?_
  intro r w1 hx
  obtain ⟨rfl, hb1, hnew⟩ := HAl.out _ _ hx
  have HNew := hidden hnew
  have HB1 := hidden hb1
  clear hx hb1 hnew hal HAl
  go_wp2_with fail
  rw [HMod.out]
  refine HNew.out.mono ?_
  rintro r w2 ⟨P0, rfl, hs0⟩
  have HS0 := hidden hs0
  have HL0 := hidden hl0
  have HL1 := hidden hl1
  clear hs0 HNew hl hl0 hl1
  by_cases h150 : 150 < len
  · have HR : Hid (Told w (.bool true) (.returned (.bool true)) w2) := ⟨rfl, HS0.out.2.2.fresh⟩
    have h150i : (150 : Int) < len := by omega
    clear HS0 h150
    go_wp2_with fail
    first | exact HR.out | (go_ret; exact HR.out)
  generalize hpp : P0.p = pp at *
  have HPP := hidden hpp
  clear hpp
  have hlen : (len : Int) ≤ 150 := by omega
  have hd150 : decide ((150 : Int) < (len : Int)) = false := by rw [decide_eq_false_iff_not]; omega
  have HLB := hidden hlb
  clear h150 hlb
  go_wp2_with fail
  go_loopg [6] len (fun gk iv wr => ∃ i : Nat, iv = .int .i64 i ∧ i + gk = len ∧ SumsAt lim pp w wr)
  case atStart => exact ⟨0, rfl, Nat.zero_add _, P0, HS0.out.1, HPP.out, HS0.out.2.2⟩
  case round =>
    clear HS0
    obtain ⟨i, rfl, hig, hst⟩ := hrel
    have HSt := hidden hst
    have HIg := hidden hig
    clear hst
    by_cases hlt : i < len
    · obtain ⟨g, off, rfl, hgl, a0, a1, a2, a3, hnb⟩ := (HA.out.below HSt.out.fresh) i hlt
      generalize (A i).k = ak at *
      generalize (A i).f = af at *
      generalize (A i).c = ac at *
      generalize (A i).n = an at *
      have hb9 : Below wr.heap.size wr (wr.alloc (.cells #[.int .i64 ak, .int .i64 af, .int .i64 ac, .int .i64 an] 28)) := (Below.refl _ _).alloc (Nat.le_refl _) _
      have hus := sums_used HSt.out hb9 ac
      have HUs := hidden hus
      clear hus hb9 hig
      go_wp2_with fail
      refine HUs.out.mono ?_
      rintro r w3 ⟨ua, ul, ucap, hul, rfl, hb3, hs3, hget, hput⟩
      have hbk := hb3.block wr.heap.size (by simp)
      have hcn := Cells.new wr 28 [.int .i64 ak, .int .i64 af, .int .i64 ac, .int .i64 an]
      have b0 := (block_same hbk 0).trans (hcn.cell 0 _ rfl)
      have b2 := (block_same hbk 2).trans (hcn.cell 2 _ rfl)
      have b3 := (block_same hbk 3).trans (hcn.cell 3 _ rfl)
      have HLt : Hid (wr.heap.size < w3.heap.size) := by have := hb3.size; simp at this; show _ < _; omega
      have HGet := hidden hget
      have HPut := hidden hput
      have HS3 := hidden hs3
      clear hget hput hs3 hb3 hbk hcn HUs a1
      dsimp only
      iterate 8 go_step
      go_cut [] from 29 to 99 (fun wc => SumsAt lim pp w wc)
      case first =>
        have hcase : (ak = 0 ∨ ak = 3) ∨ (ak ≠ 0 ∧ ak ≠ 3 ∧ an < 0) ∨ (ak ≠ 0 ∧ ak ≠ 3 ∧ 0 ≤ an ∧ ul = 0) ∨ (ak ≠ 0 ∧ ak ≠ 3 ∧ 0 ≤ an ∧ 0 < ul) := by omega
        rcases hcase with (rfl | rfl) | ⟨hk0, hk3, hn0⟩ | ⟨hk0, hk3, hn0, hu0⟩ | ⟨hk0, hk3, hn0, hu0⟩
        focus
          go_wp2_with fail
          refine HGet.out.mono ?_
          rintro r w4 ⟨⟨gx, ge, rfl⟩, hs4⟩
          have HS4 := hidden hs4
          clear hs4
          go_wp2_with fail
          go_meet
          case rel => exact HS4.out
        focus
          go_wp2_with fail
          refine HGet.out.mono ?_
          rintro r w4 ⟨⟨gx, ge, rfl⟩, hs4⟩
          have HS4 := hidden hs4
          clear hs4
          go_wp2_with fail
          go_meet
          case rel => exact HS4.out
        focus
          have e0 : (ak == 0) = false := by simpa using hk0
          have e3 : (ak == 3) = false := by simpa using hk3
          have en : decide ((0 : Int) ≤ an) = false := by rw [decide_eq_false_iff_not]; omega
          go_wp2_with fail
          obtain ⟨w4, hw4⟩ : ∃ w4, w4 = w3 := ⟨_, rfl⟩
          subst hw4
          have HS4 := HS3
          go_wp2_with fail
          go_meet
          case rel => exact HS4.out
        focus
          have e0 : (ak == 0) = false := by simpa using hk0
          have e3 : (ak == 3) = false := by simpa using hk3
          have en : decide ((0 : Int) < (ul : Int)) = false := by rw [decide_eq_false_iff_not]; omega
          go_wp2_with fail
          obtain ⟨w4, hw4⟩ : ∃ w4, w4 = w3 := ⟨_, rfl⟩
          subst hw4
          have HS4 := HS3
          go_wp2_with fail
          go_meet
          case rel => exact HS4.out
        focus
          have e0 : (ak == 0) = false := by simpa using hk0
          have e3 : (ak == 3) = false := by simpa using hk3
          have hj : (an % (ul : Int)).toNat < ul := by
            have h1 := Int.emod_nonneg an (b := (ul : Int)) (by omega)
            have h2 := Int.emod_lt_of_pos an (b := (ul : Int)) (by omega)
            omega
          obtain ⟨gu, x, rfl, hg1, hg2, hcx, hput⟩ := HPut.out _ hj
          have hgs : wr.heap.size < w3.heap.size ∧ gu < w3.heap.size ∧ wr.heap.size ≤ gu := ⟨HLt.out, hg2, hg1⟩
          have HPut1 : Hid (Calls Tryd.prog 9 #[.pointer (some ⟨pp, 0, none⟩), .int .i64 0, .int .i64 ac, .int .i64 x] w3.drew fun r w4 => r = .returned (.int .i64 0) ∧ SumsAt lim pp w w4 ∧ w4.cell? ⟨wr.heap.size, 2, none⟩ = some (.int .i64 ac) ∧ w4.cell? ⟨wr.heap.size, 3, none⟩ = some (.int .i64 an) ∧ w4.cell? ⟨gu, (an % (ul : Int)).toNat, none⟩ = some (.int .i64 x)) := hput.mono (by
            rintro r w4 ⟨e, hs, hk⟩
            exact ⟨e, hs, (block_same (hk wr.heap.size (Nat.le_refl _) hgs.1) 2).trans b2, (block_same (hk wr.heap.size (Nat.le_refl _) hgs.1) 3).trans b3, (block_same (hk gu hgs.2.2 hgs.2.1) _).trans hcx⟩)
          clear hput hgs hg1 hg2
          have hmod : an.tmod (ul : Int) = (((an % (ul : Int)).toNat : Nat) : Int) := by
            rw [Int.tmod_eq_emod_of_nonneg hn0, Int.toNat_of_nonneg (Int.emod_nonneg an (by omega))]
          generalize (an % (ul : Int)).toNat = j at *
          have hui : (0 : Int) < (ul : Int) := by omega
          have hun : ((ul : Int) == 0) = false := by simp; omega
          have hun2 : ¬ ul = 0 := by omega
          have hun3 : ¬ (ul : Int) = 0 := by omega
          have hji : (j : Int) < (ul : Int) := by omega
          have hj0 : (0 : Int) ≤ (j : Int) := by omega
          have hw1 : IntKind.i64.wrap ((j : Nat) : Int) = (j : Int) := Go.IntWalk.i64_in _ (by omega)
          have hw2 : IntKind.i64.wrap (an.tmod (ul : Int)) = (j : Int) := by rw [hmod]; exact hw1
          have d2 : w3.drew.cell? ⟨wr.heap.size, 2, none⟩ = some (.int .i64 ac) := b2
          have d3 : w3.drew.cell? ⟨wr.heap.size, 3, none⟩ = some (.int .i64 an) := b3
          have dx : w3.drew.cell? ⟨gu, j, none⟩ = some (.int .i64 x) := hcx
          go_wp2_with fail
          go_region_held3 (fun w' => w'.cell? ⟨wr.heap.size, 2, none⟩ = some (.int .i64 ac) ∧ w'.cell? ⟨wr.heap.size, 3, none⟩ = some (.int .i64 an) ∧ w'.cell? ⟨gu, j, none⟩ = some (.int .i64 x)) (first | exact ⟨b2, b3, hcx⟩ | exact ⟨d2, d3, dx⟩ | exact ⟨f2, f3, fx⟩)
            (first | (go_at_call 9; refine HPut1.out.mono ?_; rintro r w4 ⟨rfl, hs4, f2, f3, fx⟩; have HS4 := hidden hs4; clear hs4))
          go_wp2_with fail
          go_meet
          case rel => exact HS4.out
      case rest =>
        obtain ⟨P, hsum⟩ : ∃ P, SumAt lim pp w wc P := hcut
        have HSum := hidden hsum
        clear hsum HGet HPut b0 b2 b3
        go_wp2_with fail
        obtain ⟨gko, hgo⟩ : ∃ g, g = gk := ⟨_, rfl⟩
        subst hgo
        obtain ⟨wo, hwo⟩ : ∃ wo, wo = wr := ⟨_, rfl⟩
        subst hwo
        go_loopg [9, 10] 7 (fun gi sv kv wi => ∃ k : Nat, kv = .int .i64 k ∧ 1 ≤ k ∧ k + gi = 8 ∧ sv = .int .i64 ((sumTo P k : Nat) : Int) ∧ SumAt lim pp w wi P)
        case atStart => exact ⟨1, rfl, Nat.le_refl _, rfl, rfl, HSum.out⟩
        case round =>
          clear HSum HS3
          obtain ⟨k, rfl, hk1, hkg, rfl, hsm⟩ := hrel
          have HSm := hidden hsm
          have HKg := hidden hkg
          clear hsm hkg
          by_cases hk7 : k ≤ 7
          · have hus := sum_used HSm.out k hk1 hk7
            have HUs := hidden hus
            have hsc := sumTo_succ P k
            have hsl : sumTo P (k + 1) ≤ lim := by
              have h1 := sumTo_le P (k := k + 1) (by omega)
              have h2 := HSm.out.1.le.1
              omega
            have hlb := HLB.out
            rw [hsc] at hsl
            have HSc := hidden hsc
            have hki : (k : Int) ≤ 7 := by omega
            have hk0 : (0 : Int) ≤ k := by omega
            have hml : (P.usedOf k).length * costN k ≤ 65536 := Nat.le_trans (Nat.le_trans (Nat.le_add_left _ _) hsl) hlb
            obtain ⟨hm1, hm2⟩ := wraps_mul hml
            clear hsc hus hml
            generalize sumTo P k = s at *
            generalize hmm : (P.usedOf k).length * costN k = m at *
            have HMm := hidden hmm
            clear hmm
            have hsm1 := sums_arith hsl hlb
            clear hsl hlb
            generalize (P.usedOf k).length = ln at *
            generalize costN k = cn at *
            go_wp2_with fail
            refine HUs.out.mono ?_
            rintro r w5 ⟨ua2, ucap2, rfl, hs5, hcost⟩
            have HS5 := hidden hs5
            have HCost := hidden hcost
            clear hs5 hcost HUs
            go_wp2_with fail
            refine HCost.out.mono ?_
            rintro r w' ⟨rfl, rfl⟩
            go_wp2_with fail
            go_roundg (8 - (k + 1))
            case measure => have := HKg.out; omega
            case rel => exact ⟨k + 1, by go_num, by omega, by omega, by rw [HSc.out]; go_num, HS5.out⟩
          · obtain rfl : k = 8 := by have := HKg.out; omega
            have hse := sum_end HSm.out
            have hle := HSm.out.1.le.1
            rw [show sumU P = sumTo P 8 from rfl] at hse hle
            have HSe := hidden hse
            have hgt : decide (lim < sumTo P 8) = false := by rw [decide_eq_false_iff_not]; omega
            have hgt2 : decide (((lim : Nat) : Int) < ((sumTo P 8 : Nat) : Int)) = false := by rw [decide_eq_false_iff_not]; omega
            clear hse hle
            generalize sumTo P 8 = s8 at *
            have hl0 := HL0.out
            have hl1 := HL1.out
            have hmod := HMod.out
            push_cast
            go_wp2_with fail
            refine HSe.out.mono ?_
            rintro r w' ⟨q, rfl, rfl, hch⟩
            have HCh := hidden hch
            clear hch HSe
            go_wp2_with fail
            refine HCh.out.mono ?_
            rintro r w' ⟨rfl, rfl⟩
            go_wp2_with fail
            go_roundg (len - (i + 1))
            case measure => have := HIg.out; omega
            case rel => exact ⟨i + 1, by go_num, by have := HIg.out; omega, P, HSm.out.1, HSm.out.2.1, HSm.out.2.2⟩
    · obtain rfl : i = len := by omega
      clear hig HIg hlen hd150
      obtain ⟨P, hgo⟩ : ∃ P, GoneAt lim pp w wr P 1 := by
        obtain ⟨P, ps, ep, st⟩ := HSt.out
        refine ⟨P, ⟨ps, ep, st⟩, fun j hj => ?_⟩
        have : j = 0 := by omega
        subst this
        rfl
      have HGo := hidden hgo
      clear hgo HSt HA
      go_wp2_with fail
      go_loopg [11] 7 (fun gk kv wk => ∃ (k : Nat) (P : PL), kv = .int .i64 k ∧ 1 ≤ k ∧ k + gk = 8 ∧ GoneAt lim pp w wk P k)
      case atStart => exact ⟨1, P, rfl, Nat.le_refl _, rfl, HGo.out⟩
      case round =>
        clear HGo
        obtain ⟨k, P, rfl, hk1, hkg, hgone⟩ := hrel
        have HGone := hidden hgone
        have HKg := hidden hkg
        clear hgone hkg
        by_cases hk7 : k ≤ 7
        · have hus := gone_used HGone.out hk1 hk7
          have HUs := hidden hus
          have hki : (k : Int) ≤ 7 := by omega
          have hllb := used_few HGone.out.1.1 hk1 hk7
          clear hus
          obtain ⟨L, hL⟩ : ∃ L, L = P.usedOf k := ⟨_, rfl⟩
          rw [← hL] at HUs hllb
          clear hL
          generalize hll : L.length = ll at *
          have HLL := hidden hll
          clear hll
          go_wp2_with fail
          refine HUs.out.mono ?_
          rintro r w5 ⟨ua, ucap, rfl, hpart⟩
          have HPart := hidden hpart
          clear hpart HUs
          go_wp2_with fail
          obtain ⟨gko, hgo⟩ : ∃ g, g = gk := ⟨_, rfl⟩
          subst hgo
          obtain ⟨wo, hwo⟩ : ∃ wo, wo = wr := ⟨_, rfl⟩
          subst hwo
          go_loopg [13] ll (fun gi iv wi => ∃ j : Nat, iv = .int .i64 j ∧ j + gi = ll ∧ PartAt lim pp w wi k L j ua)
          case atStart => exact ⟨0, rfl, Nat.zero_add _, HPart.out⟩
          case round =>
            clear HPart
            obtain ⟨j, rfl, hjg, hpt⟩ := hrel
            have HPt := hidden hpt
            have HJg := hidden hjg
            clear hpt hjg
            by_cases hjl : j < ll
            · have hx : L[j]? = some (L[j]'(by rw [HLL.out]; exact hjl)) := List.getElem?_eq_getElem _
              generalize L[j]'(by rw [HLL.out]; exact hjl) = x at hx
              obtain ⟨gu, rfl, hcx, hput⟩ := part_put HPt.out x hx
              have HPut := hidden hput
              clear hput hx
              go_wp2_with fail
              refine HPut.out.mono ?_
              rintro r w6 ⟨rfl, hp6⟩
              have HP6 := hidden hp6
              clear hp6 HPut hcx
              go_wp2_with fail
              go_roundg (ll - (j + 1))
              case measure => have := HJg.out; omega
              case rel => exact ⟨j + 1, by go_num, by have := HJg.out; omega, HP6.out⟩
            · obtain rfl : j = ll := by have := HJg.out; omega
              go_wp2_with fail
              go_roundg (8 - (k + 1))
              case measure => have := HKg.out; omega
              case rel =>
                obtain ⟨P', hs', hz', hu', _⟩ := HPt.out
                refine ⟨k + 1, P', by go_num, by omega, by omega, hs', fun i hi => ?_⟩
                by_cases e : i = k
                · rw [e, hu', ← HLL.out]; simp
                · exact hz' i (by omega)
        · obtain rfl : k = 8 := by have := HKg.out; omega
          have hge := gone_end HGone.out
          have HGe := hidden hge
          clear hge
          push_cast
          go_wp2_with fail
          refine HGe.out.mono ?_
          rintro r w7 ⟨rfl, hx⟩
          have H7 := hidden hx
          clear hx HGe
          go_wp2_with fail
          refine H7.out.mono ?_
          rintro r w' ⟨q, rfl, rfl, hx⟩
          have H8 := hidden hx
          clear hx H7
          go_wp2_with fail
          refine H8.out.mono ?_
          rintro r w8 ⟨rfl, hx⟩
          have H9 := hidden hx
          clear hx H8
          go_wp2_with fail
          refine H9.out.mono ?_
          rintro r w' ⟨b, rfl, rfl, hx⟩
          have H10 := hidden hx
          clear hx H9
          go_wp2_with fail
          refine H10.out.mono ?_
          rintro r w9 ⟨gf, fcap, rfl, hb⟩
          have HR : Hid (Told w (.bool true) (.returned (.bool true)) w9) := ⟨rfl, hb⟩
          clear hb H10
          go_wp2_with fail
          first | exact HR.out | (go_ret; exact HR.out)
end Go.Proofs.YtfefdleadocpmaaDoor
