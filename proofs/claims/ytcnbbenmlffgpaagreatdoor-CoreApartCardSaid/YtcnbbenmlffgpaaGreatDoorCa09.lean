/- CoreApart returns true at every input. No condition. Part of its proof. -/
import Derived.Test.YtcnbbenmlffgpaaGreatDoorCa08
import Derived.Test.YtcnbbenmlffgpaaGreatDoorCa01
set_option linter.unusedVariables false
/- The walk of the pool's Get, by its ways. Conditions: the blocks hold what PL.hl says. -/
namespace Go.Proofs.YtcnbbenmlffgpaaGreatDoor
open Go.RowKit

theorem told_drew {w : World} {v : Value} {r : Ending} {w' : World} (h : Told w.drew v r w') : Told w v r w' := ⟨h.1, ((Below.refl _ _).drew).trans h.2⟩
set_option maxHeartbeats 400000 in
theorem pget_arg {w : World} {P : PL} (h : Sep w P.hl) (f k : Int) (hk : costI k = 0) : Calls Tryz.prog 55 #[.pointer (some ⟨P.p, 0, none⟩), .int .i64 f, .int .i64 k] w fun r w' => r = .returned (.tuple #[.int .i64 0, .int .i64 1]) ∧ w = w' := by
  have hcost := cost_any h.env k
  rw [hk] at hcost
  clear h hk
  go_enter Tryz.func55, Tryz.ntmps55
  go_wp2_with (go_at_call 99; refine hcost.mono ?_; rintro e w' ⟨rfl, rfl⟩)
  go_ret2
  exact ⟨rfl, rfl⟩
set_option maxHeartbeats 1000000 in
theorem pget_err {w : World} {P : PL} (h : Sep w P.hl) (f k : Int) (hk : costI k ≠ 0) (e0 : Int) (he : e0 = 5 ∨ e0 = 6)
    (hch : Calls Tryz.prog 100 #[ptr P.q.t, .int .i64 f, .int .i64 ((costI k : Nat) : Int)] w.drew (Told w.drew (.int .i64 e0))) :
    Calls Tryz.prog 55 #[.pointer (some ⟨P.p, 0, none⟩), .int .i64 f, .int .i64 k] w (Told w (.tuple #[.int .i64 0, .int .i64 e0])) := by
  have hcost := cost_any h.env k
  have hcost2 := cost_any h.drew.env k
  have c0 := PL.c0 h
  have d0 := PL.c0 h.drew
  have HT : Hid (∀ r w', Told w.drew (.int .i64 e0) r w' → r = .returned (.int .i64 e0) ∧ w'.cell? ⟨P.p, 0, none⟩ = some (ptr P.q.t) ∧ Told w (.tuple #[.int .i64 0, .int .i64 e0]) (.returned (.tuple #[.int .i64 0, .int .i64 e0])) w') := fun r w' hx => ⟨(told_drew hx).1, PL.c0 (h.grown (told_drew hx).2).sep, rfl, (told_drew hx).2⟩
  have hne : (((costI k : Nat) : Int) == 0) = false := by simpa using hk
  clear h hk
  unfold ptr at *
  generalize ((costI k : Nat) : Int) = cst at *
  rcases he with rfl | rfl
  all_goals
    go_enter Tryz.func55, Tryz.ntmps55
    go_wp2_with (go_at_call 99; refine hcost.mono ?_; rintro e w' ⟨rfl, rfl⟩)
    go_region_held3 (fun w' => w'.cell? ⟨P.p, 0, none⟩ = some (.pointer (some ⟨P.q.t, 0, none⟩))) (first | exact c0 | exact d0 | exact e1)
      (first | (go_at_call 99; refine hcost2.mono ?_; rintro e w' ⟨rfl, rfl⟩) | (go_at_call 100; refine hch.mono ?_; intro r w' hx; obtain ⟨rfl, e1, hy⟩ := HT.out _ _ hx; have HY := hidden hy; clear hx hy))
    go_wp2_with fail
    first | exact HY.out | (go_ret2; exact HY.out)
/-- What a Get that is OK leaves. -/
structure GetOk (P : PL) (fr : List Nat) (f : Int) (n a : Nat) (P' : PL) : Prop where
  ok : P'.Ok fr
  p : P'.p = P.p
  qt : P'.q.t = P.q.t
  db : P'.d.b = P.d.b
  aa : P'.a.a = P.a.a
  amb : P'.a.mb = P.a.mb
  top : P'.d.top = P.d.top
  q : ∃ e, find P.q.E f = some e ∧ ((costN n : Nat) : Int) ≤ e.q.limit - (e.q.charged + e.q.given) ∧ P'.q = { P.q with E := upd P.q.E f { e.q with charged := e.q.charged + ((costN n : Nat) : Int) } }
  mem : P'.a.mem = put_ P.a.mem a (List.replicate (costN n) 0)
  used : ∃ A B, P.usedOf n = A ++ B ∧ P'.usedOf n = A ++ a :: B
  other : ∀ j, j ≠ n → P'.usedOf j = P.usedOf j
  which : ∃ c c', P.Cls n c ∧ P'.cs = P.cs.set (n - 1) c' ∧ TakeOk c P.d a c' P'.d
def NoRoom (P : PL) (n : Nat) : Prop := ∃ c, P.Cls n c ∧ NoPlace c P.d
/-- What a Get comes to that the account can pay. -/
def GetR (P : PL) (fr : List Nat) (f : Int) (n : Nat) (w : World) (r : Ending) (w' : World) : Prop :=
  (∃ a P', r = .returned (.tuple #[.int .i64 ((a : Nat) : Int), .int .i64 0]) ∧ GetOk P fr f n a P' ∧ Step P.hl P'.hl w w') ∨ (NoRoom P n ∧ r = .returned (.tuple #[.int .i64 0, .int .i64 4]) ∧ Step P.hl P.hl w w')
theorem used_in_mem {P : PL} {fr : List Nat} (ok : P.Ok fr) {n a : Nat} (ha : a ∈ P.usedOf n) : a + costN n ≤ P.a.mem.length ∧ 64 ≤ a ∧ 1 ≤ n ∧ n ≤ 7 := by
  unfold PL.usedOf at ha
  split at ha
  · rename_i h1
    split at ha
    · rename_i c hc
      obtain ⟨k1, k2, k3, k4⟩ := PL.Cls.facts ok ⟨h1, hc⟩
      obtain ⟨x, hx, l1, l2⟩ := used_lt k1 ha
      have hp := ok.d.lt _ (mem_pages ok hc x hx)
      rw [k2] at l2
      rw [ok.mem, Nat.pow_add, show (2 : Nat) ^ 10 = 1024 from rfl]
      omega
    · cases ha
  · cases ha
theorem put_bytes {m : List Nat} {a n : Nat} (h : ∀ b ∈ m, b < 256) (v : Nat) (hv : v < 256) : ∀ b ∈ put_ m a (List.replicate n v), b < 256 := by
  intro b hb
  unfold put_ at hb
  simp only [List.mem_append] at hb
  rcases hb with (hb | hb) | hb
  · exact h b (List.mem_of_mem_take hb)
  · rw [List.eq_of_mem_replicate hb]; exact hv
  · exact h b (List.mem_of_mem_drop hb)
theorem mem_bound {P : PL} {fr : List Nat} (ok : P.Ok fr) : P.a.mem.length ≤ 1073741824 := by
  rw [ok.mem]
  exact Nat.le_trans (Nat.pow_le_pow_right (by omega) (by have := ok.d.is.top; omega : P.d.top + 10 ≤ 30)) (by decide)
theorem get_chain {w : World} {P : PL} {fr : List Nat} (h : Sep w P.hl) (ok : P.Ok fr) (f : Int) {e : En Fa} (hf : find P.q.E f = some e) (n : Nat) (hq : ((costN n : Nat) : Int) ≤ e.q.limit - (e.q.charged + e.q.given)) (c : CA) (hc : P.Cls n c) :
    Calls Tryz.prog 100 #[ptr P.q.t, .int .i64 f, .int .i64 ((costN n : Nat) : Int)] w.drew fun r w1 => r = .returned (.int .i64 0) ∧ w1.cell? ⟨P.p, 0, none⟩ = some (ptr P.q.t) ∧ w1.cell? ⟨P.p, 3 + n, none⟩ = some (ptr c.c) ∧
      Calls Tryz.prog 101 #[ptr c.c] w1 fun r w2 => 
        (∃ a : Nat, r = .returned (.tuple #[.int .i64 (a : Int), .int .i64 0]) ∧ Env w2 ∧ w2.cell? ⟨P.p, 2, none⟩ = some (ptr P.a.a) ∧
          Calls Tryz.prog 31 #[ptr P.a.a, .int .i64 (a : Int), .int .i64 ((costN n : Nat) : Int), .int .u8 0] w2.drew fun r w3 => r = .returned (.int .i64 0) ∧ w3.cell? ⟨P.p, 2, none⟩ = some (ptr P.a.a) ∧ GetR P fr f n w (.returned (.tuple #[.int .i64 (a : Int), .int .i64 0])) w3)
        ∨ (r = .returned (.tuple #[.int .i64 0, .int .i64 4]) ∧ Env w2 ∧ w2.cell? ⟨P.p, 0, none⟩ = some (ptr P.q.t) ∧
          Calls Tryz.prog 102 #[ptr P.q.t, .int .i64 f, .int .i64 ((costN n : Nat) : Int)] w2.drew fun r w3 => r = .returned (.int .i64 0) ∧ w3.cell? ⟨P.p, 0, none⟩ = some (ptr P.q.t) ∧ GetR P fr f n w (.returned (.tuple #[.int .i64 0, .int .i64 4])) w3) := by
  obtain ⟨k1, k2, k3, k4⟩ := PL.Cls.facts ok hc
  obtain ⟨f1, f2, f3, f4, f5, f6, f7, f8⟩ := ok.q.fa f e hf
  have hpos : 0 < costN n := costN_pos.2 ⟨hc.1, k4⟩
  have hn0 : (0 : Int) ≤ ((costN n : Nat) : Int) := by omega
  refine (qcharge_ok (PL.sQ h.drew) ok.q hf _ hn0 hq).mono ?_
  rintro r w1 ⟨rfl, st1⟩
  have s1 : Step P.hl (P.setQ { P.q with E := upd P.q.E f { e.q with charged := e.q.charged + ((costN n : Nat) : Int) } }).hl w w1 := (PL.stepQ h.drew { P.q with E := upd P.q.E f { e.q with charged := e.q.charged + ((costN n : Nat) : Int) } } rfl st1).from_drew
  have ok1 := PL.ok_setQ ok (ok_charge ok.q hf { e.q with charged := e.q.charged + ((costN n : Nat) : Int) } ⟨by show 0 ≤ e.q.charged + _; omega, f2, by show e.q.charged + _ + e.q.given ≤ e.q.limit; omega, rfl, rfl⟩)
  have hf1 : find (upd P.q.E f { e.q with charged := e.q.charged + ((costN n : Nat) : Int) }) f = some { e with q := { e.q with charged := e.q.charged + ((costN n : Nat) : Int) } } := find_upd_same hf _
  have hids := ok.q.ids
  obtain ⟨q1, hq1⟩ : ∃ q1 : QT, q1 = { P.q with E := upd P.q.E f { e.q with charged := e.q.charged + ((costN n : Nat) : Int) } } := ⟨_, rfl⟩
  rw [← hq1] at s1 ok1
  have hcc := PL.cc s1.sep (n - 1) c hc.2
  rw [show 3 + (n - 1 + 1) = 3 + n by have := hc.1; omega] at hcc
  have hp0 := PL.c0 s1.sep
  have eqt : (P.setQ q1).q.t = P.q.t := by subst hq1; rfl
  rw [eqt] at hp0
  refine ⟨rfl, hp0, hcc, ?_⟩
  refine (ctake_any (PL.sC s1.sep (n - 1) c hc.2) k1 ok1.d k3 (mem_pages ok1 hc.2)).mono ?_
  rintro r w2 (⟨a, c', d', rfl, ht, st2⟩ | ⟨hno, rfl, hb⟩)
  · left
    have s2 : Step (P.setQ q1).hl ((P.setQ q1).setC (n - 1) c' d').hl w1 w2 := PL.stepC s1.sep (n - 1) c c' d' hc.2 ht.ec ht.b st2
    have ok2 := PL.ok_take ok1 hc.2 ht
    have hu := usedOf_set (P.setQ q1) n c c' d' hc n
    rw [if_pos rfl] at hu
    obtain ⟨A, B, u1, u2⟩ := ht.used
    have ham : a ∈ ((P.setQ q1).setC (n - 1) c' d').usedOf n := by rw [hu, u2]; simp
    have hin := used_in_mem ok2 ham
    have s12 := s1.trans s2
    have hp2 := PL.c2 s2.sep
    refine ⟨a, rfl, s2.sep.env, hp2, ?_⟩
    have hmb := mem_bound ok2
    refine (fill_ok (PL.sA s2.sep.drew) a (costN n) 0 hpos hin.1 hmb).mono ?_
    rintro r w3 ⟨rfl, st3⟩
    have s3 := PL.stepA s2.sep.drew _ st3
    have hlen : (put_ P.a.mem a (List.replicate (costN n) 0)).length = P.a.mem.length := put_len _ _ _ (by rw [List.length_replicate]; exact hin.1)
    have ok3 := PL.ok_setA ok2 (m := put_ P.a.mem a (List.replicate (costN n) 0)) hlen (put_bytes ok.bytes 0 (by omega))
    have hp3 := PL.c2 s3.sep
    refine ⟨rfl, hp3, .inl ⟨a, _, rfl, ⟨ok3, rfl, eqt, ht.b, rfl, rfl, ht.top, ⟨e, hf, hq, hq1⟩, rfl, ⟨A, B, ?_, ?_⟩, ?_, ⟨c, c', hc, rfl, ht⟩⟩, s12.trans s3.from_drew⟩⟩
    · rw [usedOf_cls hc]; exact u1
    · show ((P.setQ q1).setC (n - 1) c' d').usedOf n = _
      rw [hu]; exact u2
    · intro j hj
      have := usedOf_set (P.setQ q1) n c c' d' hc j
      rw [if_neg hj] at this
      exact this
  · right
    have s2 := s1.sep.grown hb
    have hp0' := PL.c0 s2.sep
    rw [eqt] at hp0'
    refine ⟨rfl, s2.sep.env, hp0', ?_⟩
    have hrf := qrefund_ok (PL.sQ s2.sep.drew) ok1.q (id := f) (e := { e with q := { e.q with charged := e.q.charged + ((costN n : Nat) : Int) } }) (by subst hq1; exact hf1) _ hn0 (by show _ ≤ e.q.charged + _; omega)
    rw [eqt] at hrf
    refine hrf.mono ?_
    rintro r w3 ⟨rfl, st3⟩
    have eback : ({ (P.setQ q1).q with E := upd (P.setQ q1).q.E f { (({ e with q := { e.q with charged := e.q.charged + ((costN n : Nat) : Int) } } : En Fa)).q with charged := e.q.charged + ((costN n : Nat) : Int) - ((costN n : Nat) : Int) } } : QT) = P.q := by
      subst hq1
      simp only [PL.setQ, upd_upd, Int.add_sub_cancel]
      rw [upd_id hids hf]
    rw [eback] at st3
    have s3 := PL.stepQ s2.sep.drew P.q eqt.symm st3
    have eP : (P.setQ q1).setQ P.q = P := rfl
    rw [eP] at s3
    exact ⟨rfl, PL.c0 s3.sep, .inr ⟨⟨c, hc, hno⟩, rfl, (s1.trans s2).trans s3.from_drew⟩⟩
set_option maxHeartbeats 4000000 in
set_option maxRecDepth 100000 in
theorem pget_paid {w : World} {P : PL} {fr : List Nat} (h : Sep w P.hl) (ok : P.Ok fr) (f : Int) {e : En Fa} (hf : find P.q.E f = some e) (n : Nat) (hq : ((costN n : Nat) : Int) ≤ e.q.limit - (e.q.charged + e.q.given)) (c : CA) (hc : P.Cls n c) :
    Calls Tryz.prog 55 #[.pointer (some ⟨P.p, 0, none⟩), .int .i64 f, .int .i64 (n : Int)] w (GetR P fr f n w) := by
  have hch := get_chain h ok f hf n hq c hc
  obtain ⟨k1, k2, k3, k4⟩ := PL.Cls.facts ok hc
  have hpos : 0 < costN n := costN_pos.2 ⟨hc.1, k4⟩
  have hcI : costI (n : Int) = costN n := by unfold costI; rw [if_pos (by omega), Int.toNat_natCast]
  have HCost : Hid (∀ w1, Env w1 → Calls Tryz.prog 99 #[.int .i64 (n : Int)] w1 fun r w' => r = .returned (.int .i64 ((costN n : Nat) : Int)) ∧ w1 = w') := fun w1 he => by
    have := cost_any he (n : Int)
    rw [hcI] at this
    exact this
  have hcost := HCost.out w h.env
  have hcost2 := HCost.out w.drew h.drew.env
  have c0 := PL.c0 h
  have d0 := PL.c0 h.drew
  have hne : (((costN n : Nat) : Int) == 0) = false := by simp; omega
  have hn8 : (n : Int) < 8 := by omega
  have hn1 : (1 : Int) ≤ n := by have := hc.1; omega
  have HE : Hid (∀ w : World, Env w → Env w.drew) := fun w he => he.same (fun _ _ => rfl) he.gb
  obtain ⟨GR, hGR⟩ : ∃ GR : Ending → World → Prop, GR = GetR P fr f n w := ⟨_, rfl⟩
  rw [← hGR] at hch ⊢
  have HCh := hidden hch
  clear h ok hf hq hc hGR hch hcI k1 k2 k3 k4 hpos
  unfold ptr at *
  generalize ((costN n : Nat) : Int) = cst at *
  generalize P.p = pp at *
  generalize P.q.t = qt at *
  generalize P.a.a = aa at *
  generalize c.c = cc at *
  go_enter Tryz.func55, Tryz.ntmps55
  go_wp2_with (go_at_call 99; refine hcost.mono ?_; rintro e w' ⟨rfl, rfl⟩)
  go_region_held3 (fun w' => w'.cell? ⟨pp, 0, none⟩ = some (.pointer (some ⟨qt, 0, none⟩))) (first | exact c0 | exact d0 | exact e1)
    (first | (go_at_call 99; refine hcost2.mono ?_; rintro e w' ⟨rfl, rfl⟩) | (go_at_call 100; refine HCh.out.mono ?_; rintro r w1 ⟨rfl, e1, e2, hx⟩; have HT := hidden hx; clear hx))
  clear c0 d0 hcost hcost2
  go_wp2_with fail
  refine HT.out.mono ?_
  rintro r w2 (⟨a, rfl, he, e3, hx⟩ | ⟨rfl, he, e3, hx⟩)
  · have HX := hidden hx
    have hcost3 := HCost.out w2.drew (HE.out _ he)
    have d3 : w2.drew.cell? ⟨pp, 2, none⟩ = some (.pointer (some ⟨aa, 0, none⟩)) := e3
    clear hx he e1 e2
    go_wp2_with fail
    go_region_held3 (fun w' => w'.cell? ⟨pp, 2, none⟩ = some (.pointer (some ⟨aa, 0, none⟩))) (first | exact e3 | exact d3 | exact e4)
      (first | (go_at_call 99; refine hcost3.mono ?_; rintro e w' ⟨rfl, rfl⟩) | (go_at_call 31; refine HX.out.mono ?_; rintro r w3 ⟨rfl, e4, hy⟩; have HY := hidden hy; clear hy))
    go_wp2_with fail
    first | exact HY.out | (go_ret2; exact HY.out)
  · have HX := hidden hx
    have hcost3 := HCost.out w2.drew (HE.out _ he)
    have d3 : w2.drew.cell? ⟨pp, 0, none⟩ = some (.pointer (some ⟨qt, 0, none⟩)) := e3
    clear hx he e1 e2
    go_wp2_with fail
    go_region_held3 (fun w' => w'.cell? ⟨pp, 0, none⟩ = some (.pointer (some ⟨qt, 0, none⟩))) (first | exact e3 | exact d3 | exact e4)
      (first | (go_at_call 99; refine hcost3.mono ?_; rintro e w' ⟨rfl, rfl⟩) | (go_at_call 102; refine HX.out.mono ?_; rintro r w3 ⟨rfl, e4, hy⟩; have HY := hidden hy; clear hy))
    go_wp2_with fail
    first | exact HY.out | (go_ret2; exact HY.out)
end Go.Proofs.YtcnbbenmlffgpaaGreatDoor

/- Walks of the pool's Has and Put. Conditions: the blocks hold what PL.hl says. -/
namespace Go.Proofs.YtcnbbenmlffgpaaGreatDoor
open Go.RowKit

/-- Get, whatever it is asked for. -/
def GetP (P : PL) (fr : List Nat) (f k : Int) (w : World) (r : Ending) (w' : World) : Prop :=
  (costI k = 0 ∧ r = .returned (.tuple #[.int .i64 0, .int .i64 1]) ∧ Step P.hl P.hl w w') ∨
  (costI k ≠ 0 ∧ find P.q.E f = none ∧ r = .returned (.tuple #[.int .i64 0, .int .i64 6]) ∧ Step P.hl P.hl w w') ∨
  (costI k ≠ 0 ∧ (∃ e, find P.q.E f = some e ∧ e.q.limit - (e.q.charged + e.q.given) < ((costI k : Nat) : Int)) ∧ r = .returned (.tuple #[.int .i64 0, .int .i64 5]) ∧ Step P.hl P.hl w w') ∨
  (∃ n e, k = ((n : Nat) : Int) ∧ 1 ≤ n ∧ n ≤ 7 ∧ find P.q.E f = some e ∧ ((costN n : Nat) : Int) ≤ e.q.limit - (e.q.charged + e.q.given) ∧ GetR P fr f n w r w')
theorem costI_nat {k : Int} (h : costI k ≠ 0) : ∃ n : Nat, k = n ∧ 1 ≤ n ∧ n ≤ 7 ∧ costI k = costN n := by
  have h0 : 0 ≤ k := by unfold costI at h; split at h <;> omega
  obtain ⟨n, rfl⟩ := Int.eq_ofNat_of_zero_le h0
  have e : costI (n : Int) = costN n := by unfold costI; rw [if_pos h0, Int.toNat_natCast]
  rw [e] at h
  obtain ⟨h1, h7⟩ := costN_pos.1 (Nat.pos_of_ne_zero h)
  exact ⟨n, rfl, h1, h7, e⟩
theorem pget_any {w : World} {P : PL} {fr : List Nat} (h : Sep w P.hl) (ok : P.Ok fr) (f k : Int) :
    Calls Tryz.prog 55 #[.pointer (some ⟨P.p, 0, none⟩), .int .i64 f, .int .i64 k] w (GetP P fr f k w) := by
  by_cases hk : costI k = 0
  · refine (pget_arg h f k hk).mono ?_
    rintro r w' ⟨rfl, rfl⟩
    exact .inl ⟨hk, rfl, Step.refl h⟩
  · cases hf : find P.q.E f with
    | none =>
      refine (pget_err h f k hk 6 (.inr rfl) ((qcharge_none (PL.sQ h.drew) hf _).mono fun r w' ⟨e, e'⟩ => ⟨e, by rw [← e']; exact Below.refl _ _⟩)).mono ?_
      rintro r w' ⟨rfl, hb⟩
      exact .inr (.inl ⟨hk, hf, rfl, h.grown hb⟩)
    | some e =>
      by_cases hq : ((costI k : Nat) : Int) ≤ e.q.limit - (e.q.charged + e.q.given)
      · obtain ⟨n, rfl, h1, h7, hn⟩ := costI_nat hk
        rw [hn] at hq
        obtain ⟨c, hc⟩ := PL.cls ok h1 h7
        refine (pget_paid h ok f hf n hq c hc).mono ?_
        intro r w' hr
        exact .inr (.inr (.inr ⟨n, e, rfl, h1, h7, hf, hq, hr⟩))
      · refine (pget_err h f k hk 5 (.inl rfl) (qcharge_quota (PL.sQ h.drew) ok.q hf _ (by omega) (by omega))).mono ?_
        rintro r w' ⟨rfl, hb⟩
        exact .inr (.inr (.inl ⟨hk, ⟨e, hf, by omega⟩, rfl, h.grown hb⟩))
set_option maxHeartbeats 400000 in
theorem chas_neg {w : World} (c : CA) (a : Int) (ha : a < 0) : Calls Tryz.prog 179 #[.pointer (some ⟨c.c, 0, none⟩), .int .i64 a] w (Told w (.bool false)) := by
  have k1 := spot_neg (w := w) c a ha
  unfold spotT at k1
  have HB : Hid (Told w (.bool false) (.returned (.bool false)) w) := ⟨rfl, Below.refl _ _⟩
  go_enter Tryz.func179, Tryz.ntmps179
  go_wp2_with (go_at_call 180; refine k1.mono ?_; rintro e w' ⟨rfl, rfl⟩)
  go_ret
  exact HB.out
/-- An address is below this, where the walks go. -/
def Small (a : Int) : Prop := a < 4611686018427387904
theorem chas_any {w : World} {c : CA} (h : Sep w c.hl) (ok : c.Ok) (a : Int) (ha : Small a) : Calls Tryz.prog 179 #[.pointer (some ⟨c.c, 0, none⟩), .int .i64 a] w (Told w (.bool (decide (0 ≤ a ∧ a.toNat ∈ c.used)))) := by
  unfold Small at ha
  by_cases h0 : a < 0
  · have : decide (0 ≤ a ∧ a.toNat ∈ c.used) = false := by rw [decide_eq_false_iff_not]; omega
    rw [this]
    exact chas_neg c a h0
  · obtain ⟨n, rfl⟩ := Int.eq_ofNat_of_zero_le (by omega : 0 ≤ a)
    have := has_any h ok n (by omega)
    rw [spot_mem ok n] at this
    have e : decide (n ∈ c.used) = decide (0 ≤ (n : Int) ∧ (n : Int).toNat ∈ c.used) := by
      rw [Int.toNat_natCast]; congr 1; apply propext; exact ⟨fun h => ⟨by omega, h⟩, fun h => h.2⟩
    rw [← e]
    exact this
/-- Is an address where a used place of the class begins? -/
def PL.has (P : PL) (k a : Int) : Bool := decide (0 ≤ a ∧ a.toNat ∈ P.usedI k)
set_option maxHeartbeats 1000000 in
theorem phas_any {w : World} {P : PL} {fr : List Nat} (h : Sep w P.hl) (ok : P.Ok fr) (k a : Int) (ha : Small a) : Calls Tryz.prog 156 #[.pointer (some ⟨P.p, 0, none⟩), .int .i64 k, .int .i64 a] w (Told w (.bool (P.has k a))) := by
  have hcost := cost_any h.env k
  by_cases hz : costI k = 0
  · have e : P.has k a = false := by
      unfold PL.has PL.usedI
      rw [decide_eq_false_iff_not]
      rintro ⟨_, hm⟩
      split at hm
      · rename_i h0
        unfold costI at hz
        rw [if_pos h0] at hz
        rw [usedOf_big ok hz] at hm
        cases hm
      · cases hm
    rw [e, ]
    have HB : Hid (Told w (.bool false) (.returned (.bool false)) w) := ⟨rfl, Below.refl _ _⟩
    rw [hz] at hcost
    clear h ok hz e
    go_enter Tryz.func156, Tryz.ntmps156
    go_wp2_with (go_at_call 99; refine hcost.mono ?_; rintro e w' ⟨rfl, rfl⟩)
    go_ret
    exact HB.out
  · obtain ⟨n, rfl, h1, h7, hn⟩ := costI_nat hz
    obtain ⟨c, hc⟩ := PL.cls ok h1 h7
    have hcell := PL.cc h (n - 1) c hc.2
    rw [show 3 + (n - 1 + 1) = 3 + n by omega] at hcell
    have hu := chas_any (PL.sC h (n - 1) c hc.2).left (hc.facts ok).1 a ha
    have e : P.has (n : Int) a = decide (0 ≤ a ∧ a.toNat ∈ c.used) := by
      unfold PL.has PL.usedI; rw [if_pos (by omega : (0 : Int) ≤ (n : Int)), Int.toNat_natCast, usedOf_cls hc]
    rw [e]
    have hpos : (0 : Int) < ((costI (n : Int) : Nat) : Int) := by omega
    have hn8 : (n : Int) < 8 := by omega
    have hn0 : (0 : Int) ≤ n := by omega
    generalize decide (0 ≤ a ∧ a.toNat ∈ c.used) = b at *
    clear h ok hz e hc ha hn
    have HQ : Hid (∀ r w', Told w (.bool b) r w' → r = .returned (.bool b) ∧ Told w (.bool b) (.returned (.bool b)) w') := fun r w' hx => ⟨hx.1, rfl, hx.2⟩
    unfold ptr at *
    generalize ((costI (n : Int) : Nat) : Int) = cst at *
    go_enter Tryz.func156, Tryz.ntmps156
    go_wp2_with (first | (go_at_call 99; refine hcost.mono ?_; rintro e w' ⟨rfl, rfl⟩) | (go_at_call 179; refine hu.mono ?_; intro r w' hx; obtain ⟨rfl, hy⟩ := HQ.out _ _ hx; have HY := hidden hy; clear hx hy))
    first | exact HY.out | (go_ret; exact HY.out)
set_option maxHeartbeats 400000 in
theorem pput_arg {w : World} {P : PL} (h : Sep w P.hl) (f k a : Int) (hk : costI k = 0) : Calls Tryz.prog 110 #[.pointer (some ⟨P.p, 0, none⟩), .int .i64 f, .int .i64 k, .int .i64 a] w fun r w' => r = .returned (.int .i64 1) ∧ w = w' := by
  have hcost := cost_any h.env k
  rw [hk] at hcost
  clear h hk
  go_enter Tryz.func110, Tryz.ntmps110
  go_wp2_with (go_at_call 99; refine hcost.mono ?_; rintro e w' ⟨rfl, rfl⟩)
  go_ret
  exact ⟨rfl, rfl⟩
set_option maxHeartbeats 1000000 in
theorem pput_none {w : World} {P : PL} {fr : List Nat} (h : Sep w P.hl) (ok : P.Ok fr) (f k a : Int) (hk : costI k ≠ 0) (ha : Small a) (hno : P.has k a = false) : Calls Tryz.prog 110 #[.pointer (some ⟨P.p, 0, none⟩), .int .i64 f, .int .i64 k, .int .i64 a] w (Told w (.int .i64 6)) := by
  have hcost := cost_any h.env k
  have hh := phas_any h ok k a ha
  rw [hno] at hh
  have hne : (((costI k : Nat) : Int) == 0) = false := by simpa using hk
  have HQ : Hid (∀ r w', Told w (.bool false) r w' → r = .returned (.bool false) ∧ Told w (.int .i64 6) (.returned (.int .i64 6)) w') := fun r w' hx => ⟨hx.1, rfl, hx.2⟩
  clear h ok hk hno ha
  generalize ((costI k : Nat) : Int) = cst at *
  go_enter Tryz.func110, Tryz.ntmps110
  go_wp2_with (first | (go_at_call 99; refine hcost.mono ?_; rintro e w' ⟨rfl, rfl⟩) | (go_at_call 156; refine hh.mono ?_; intro r w' hx; obtain ⟨rfl, hy⟩ := HQ.out _ _ hx; have HY := hidden hy; clear hx hy))
  first | exact HY.out | (go_ret; exact HY.out)
end Go.Proofs.YtcnbbenmlffgpaaGreatDoor

/- The walk of the pool's Put where there is such a place. Conditions: the blocks hold what PL.hl says. -/
namespace Go.Proofs.YtcnbbenmlffgpaaGreatDoor
open Go.RowKit

set_option maxHeartbeats 1000000 in
theorem pput_err {w : World} {P : PL} {fr : List Nat} (h : Sep w P.hl) (ok : P.Ok fr) (f k a : Int) (hk : costI k ≠ 0) (ha : Small a) (hyes : P.has k a = true) (e0 : Int) (he : e0 = 1 ∨ e0 = 6)
    (hch : ∀ w1, Below w.heap.size w w1 → Calls Tryz.prog 102 #[ptr P.q.t, .int .i64 f, .int .i64 ((costI k : Nat) : Int)] w1.drew fun r w' => r = .returned (.int .i64 e0) ∧ w1.drew = w') :
    Calls Tryz.prog 110 #[.pointer (some ⟨P.p, 0, none⟩), .int .i64 f, .int .i64 k, .int .i64 a] w (Told w (.int .i64 e0)) := by
  have hcost := cost_any h.env k
  have hh := phas_any h ok k a ha
  rw [hyes] at hh
  have hne : (((costI k : Nat) : Int) == 0) = false := by simpa using hk
  have HQ : Hid (∀ r w1, Told w (.bool true) r w1 → r = .returned (.bool true) ∧ w1.cell? ⟨P.p, 0, none⟩ = some (ptr P.q.t) ∧ Told w (.int .i64 e0) (.returned (.int .i64 e0)) w1.drew ∧
      (Calls Tryz.prog 99 #[.int .i64 k] w1.drew fun r w' => r = .returned (.int .i64 ((costI k : Nat) : Int)) ∧ w1.drew = w') ∧
      Calls Tryz.prog 102 #[ptr P.q.t, .int .i64 f, .int .i64 ((costI k : Nat) : Int)] w1.drew fun r w' => r = .returned (.int .i64 e0) ∧ w1.drew = w') := fun r w1 hx =>
    ⟨hx.1, PL.c0 (h.grown hx.2).sep, ⟨rfl, hx.2.drew⟩, cost_any (h.grown hx.2).sep.drew.env k, hch w1 hx.2⟩
  clear h ok hk hyes ha hch
  unfold ptr at *
  generalize ((costI k : Nat) : Int) = cst at *
  rcases he with rfl | rfl
  all_goals
    go_enter Tryz.func110, Tryz.ntmps110
    go_wp2_with (go_at_call 99; refine hcost.mono ?_; rintro e w' ⟨rfl, rfl⟩)
    refine hh.mono ?_
    intro r w1 hx
    obtain ⟨rfl, c0, hy, hc2, hr2⟩ := HQ.out _ _ hx
    have HY := hidden hy
    have HC2 := hidden hc2
    have HR2 := hidden hr2
    have d0 : w1.drew.cell? ⟨P.p, 0, none⟩ = some (.pointer (some ⟨P.q.t, 0, none⟩)) := c0
    clear hx hy hc2 hr2
    go_wp2_with fail
    go_region_held3 (fun w' => w'.cell? ⟨P.p, 0, none⟩ = some (.pointer (some ⟨P.q.t, 0, none⟩))) (first | exact c0 | exact d0)
      (first | (go_at_call 99; refine HC2.out.mono ?_; rintro e w' ⟨rfl, rfl⟩) | (go_at_call 102; refine HR2.out.mono ?_; rintro e w' ⟨rfl, rfl⟩))
    go_wp2_with fail
    first | exact HY.out | (go_ret; exact HY.out)
/-- What a Put that is OK leaves. -/
structure PutOk (P : PL) (fr : List Nat) (f : Int) (n a : Nat) (P' : PL) : Prop where
  ok : P'.Ok fr
  p : P'.p = P.p
  qt : P'.q.t = P.q.t
  db : P'.d.b = P.d.b
  aa : P'.a = P.a
  top : P'.d.top = P.d.top
  q : ∃ e, find P.q.E f = some e ∧ ((costN n : Nat) : Int) ≤ e.q.charged ∧ P'.q = { P.q with E := upd P.q.E f { e.q with charged := e.q.charged - ((costN n : Nat) : Int) } }
  used : ∃ A B, P.usedOf n = A ++ a :: B ∧ P'.usedOf n = A ++ B
  other : ∀ j, j ≠ n → P'.usedOf j = P.usedOf j
  which : ∃ c c', P.Cls n c ∧ P'.cs = P.cs.set (n - 1) c' ∧ GiveOk c P.d a c' P'.d
def PutR (P : PL) (fr : List Nat) (f : Int) (n a : Nat) (w : World) (r : Ending) (w' : World) : Prop := r = .returned (.int .i64 0) ∧ ∃ P', PutOk P fr f n a P' ∧ Step P.hl P'.hl w w'
theorem put_chain {w w1 : World} {P : PL} {fr : List Nat} (h : Sep w P.hl) (hb : Below w.heap.size w w1) (ok : P.Ok fr) (f : Int) {e : En Fa} (hf : find P.q.E f = some e) (n : Nat) (hq : ((costN n : Nat) : Int) ≤ e.q.charged) (c : CA) (hc : P.Cls n c) (a : Nat) (hm : a ∈ c.used) (hal : a < 4611686018427387904) :
    Calls Tryz.prog 102 #[ptr P.q.t, .int .i64 f, .int .i64 ((costN n : Nat) : Int)] w1.drew fun r w2 => r = .returned (.int .i64 0) ∧ w2.cell? ⟨P.p, 0, none⟩ = some (ptr P.q.t) ∧ w2.cell? ⟨P.p, 3 + n, none⟩ = some (ptr c.c) ∧
      Calls Tryz.prog 157 #[ptr c.c, .int .i64 (a : Int)] w2 (PutR P fr f n a w) := by
  have s0 := h.grown hb
  obtain ⟨k1, k2, k3, k4⟩ := PL.Cls.facts ok hc
  obtain ⟨f1, f2, f3, f4, f5, f6, f7, f8⟩ := ok.q.fa f e hf
  have hn0 : (0 : Int) ≤ ((costN n : Nat) : Int) := by omega
  refine (qrefund_ok (PL.sQ s0.sep.drew) ok.q hf _ hn0 hq).mono ?_
  rintro r w2 ⟨rfl, st1⟩
  have s1 : Step P.hl (P.setQ { P.q with E := upd P.q.E f { e.q with charged := e.q.charged - ((costN n : Nat) : Int) } }).hl w w2 := s0.trans (PL.stepQ s0.sep.drew { P.q with E := upd P.q.E f { e.q with charged := e.q.charged - ((costN n : Nat) : Int) } } rfl st1).from_drew
  have ok1 := PL.ok_setQ ok (ok_charge ok.q hf { e.q with charged := e.q.charged - ((costN n : Nat) : Int) } ⟨by show 0 ≤ e.q.charged - _; omega, f2, by show e.q.charged - _ + e.q.given ≤ e.q.limit; omega, rfl, rfl⟩)
  obtain ⟨q1, hq1⟩ : ∃ q1 : QT, q1 = { P.q with E := upd P.q.E f { e.q with charged := e.q.charged - ((costN n : Nat) : Int) } } := ⟨_, rfl⟩
  rw [← hq1] at s1 ok1
  have hcc := PL.cc s1.sep (n - 1) c hc.2
  rw [show 3 + (n - 1 + 1) = 3 + n by have := hc.1; omega] at hcc
  have hp0 := PL.c0 s1.sep
  have eqt : (P.setQ q1).q.t = P.q.t := by subst hq1; rfl
  rw [eqt] at hp0
  refine ⟨rfl, hp0, hcc, ?_⟩
  refine (cgive_any (PL.sC s1.sep (n - 1) c hc.2) k1 ok1.d k3 (mem_pages ok1 hc.2) a hm hal).mono ?_
  rintro r w3 ⟨rfl, c', d', hg, st2⟩
  have s2 : Step (P.setQ q1).hl ((P.setQ q1).setC (n - 1) c' d').hl w2 w3 := PL.stepC s1.sep (n - 1) c c' d' hc.2 hg.ec hg.b st2
  have ok2 := PL.ok_give ok1 hc.2 hg
  have hu := usedOf_set (P.setQ q1) n c c' d' hc n
  rw [if_pos rfl] at hu
  obtain ⟨A, B, u1, u2⟩ := hg.used
  refine ⟨rfl, _, ⟨ok2, rfl, eqt, hg.b, rfl, hg.top, ⟨e, hf, hq, hq1⟩, ⟨A, B, ?_, ?_⟩, ?_, ⟨c, c', hc, rfl, hg⟩⟩, s1.trans s2⟩
  · rw [usedOf_cls hc]; exact u1
  · rw [hu]; exact u2
  · intro j hj
    have := usedOf_set (P.setQ q1) n c c' d' hc j
    rw [if_neg hj] at this
    exact this
set_option maxHeartbeats 4000000 in
set_option maxRecDepth 100000 in
theorem pput_paid {w : World} {P : PL} {fr : List Nat} (h : Sep w P.hl) (ok : P.Ok fr) (f : Int) {e : En Fa} (hf : find P.q.E f = some e) (n : Nat) (hq : ((costN n : Nat) : Int) ≤ e.q.charged) (c : CA) (hc : P.Cls n c) (a : Nat) (hm : a ∈ c.used) (hal : a < 4611686018427387904) :
    Calls Tryz.prog 110 #[.pointer (some ⟨P.p, 0, none⟩), .int .i64 f, .int .i64 (n : Int), .int .i64 (a : Int)] w (PutR P fr f n a w) := by
  obtain ⟨k1, k2, k3, k4⟩ := PL.Cls.facts ok hc
  have hpos : 0 < costN n := costN_pos.2 ⟨hc.1, k4⟩
  have hcI : costI (n : Int) = costN n := by unfold costI; rw [if_pos (by omega), Int.toNat_natCast]
  have hyes : P.has (n : Int) (a : Int) = true := by
    unfold PL.has PL.usedI
    rw [if_pos (by omega : (0 : Int) ≤ (n : Int)), Int.toNat_natCast, Int.toNat_natCast, usedOf_cls hc, decide_eq_true_eq]
    exact ⟨by omega, hm⟩
  have hcost := cost_any h.env (n : Int)
  rw [hcI] at hcost
  have hh := phas_any h ok (n : Int) (a : Int) (by unfold Small; omega)
  rw [hyes] at hh
  have hne : (((costN n : Nat) : Int) == 0) = false := by simp; omega
  have hn8 : (n : Int) < 8 := by omega
  have hn1 : (1 : Int) ≤ n := by have := hc.1; omega
  obtain ⟨PR, hPR⟩ : ∃ PR : Ending → World → Prop, PR = PutR P fr f n a w := ⟨_, rfl⟩
  have HQ : Hid (∀ r w1, Told w (.bool true) r w1 → r = .returned (.bool true) ∧ w1.cell? ⟨P.p, 0, none⟩ = some (ptr P.q.t) ∧
      (Calls Tryz.prog 99 #[.int .i64 (n : Int)] w1.drew fun r w' => r = .returned (.int .i64 ((costN n : Nat) : Int)) ∧ w1.drew = w') ∧
      Calls Tryz.prog 102 #[ptr P.q.t, .int .i64 f, .int .i64 ((costN n : Nat) : Int)] w1.drew fun r w2 => r = .returned (.int .i64 0) ∧ w2.cell? ⟨P.p, 0, none⟩ = some (ptr P.q.t) ∧ w2.cell? ⟨P.p, 3 + n, none⟩ = some (ptr c.c) ∧
        Calls Tryz.prog 157 #[ptr c.c, .int .i64 (a : Int)] w2 PR) := fun r w1 hx => by
    subst hPR
    have hcc := cost_any (h.grown hx.2).sep.drew.env (n : Int)
    rw [hcI] at hcc
    exact ⟨hx.1, PL.c0 (h.grown hx.2).sep, hcc, put_chain h hx.2 ok f hf n hq c hc a hm hal⟩
  have HZ : Hid (∀ r w', PR r w' → ∃ w'', r = .returned (.int .i64 0) ∧ w' = w'' ∧ PR (.returned (.int .i64 0)) w'') := fun r w' hx => by subst hPR; obtain ⟨rfl, hy⟩ := hx; exact ⟨w', rfl, rfl, rfl, hy⟩
  rw [← hPR]
  clear h ok hf hq hc hPR hcI k1 k2 k3 k4 hpos hyes hm hal
  unfold ptr at *
  generalize ((costN n : Nat) : Int) = cst at *
  generalize P.p = pp at *
  generalize P.q.t = qt at *
  generalize c.c = cc at *
  go_enter Tryz.func110, Tryz.ntmps110
  go_wp2_with (go_at_call 99; refine hcost.mono ?_; rintro e w' ⟨rfl, rfl⟩)
  refine hh.mono ?_
  intro r w1 hx
  obtain ⟨rfl, c0, hc2, hr2⟩ := HQ.out _ _ hx
  have HC2 := hidden hc2
  have HR2 := hidden hr2
  have d0 : w1.drew.cell? ⟨pp, 0, none⟩ = some (.pointer (some ⟨qt, 0, none⟩)) := c0
  clear hx hc2 hr2
  go_wp2_with fail
  go_region_held3 (fun w' => w'.cell? ⟨pp, 0, none⟩ = some (.pointer (some ⟨qt, 0, none⟩))) (first | exact c0 | exact d0 | exact e1)
    (first | (go_at_call 99; refine HC2.out.mono ?_; rintro e w' ⟨rfl, rfl⟩) | (go_at_call 102; refine HR2.out.mono ?_; rintro r w2 ⟨rfl, e1, e2, hx⟩; have HT := hidden hx; clear hx))
  clear c0 d0
  go_wp2_with fail
  refine HT.out.mono ?_
  intro r w3 hx
  obtain ⟨w3', rfl, rfl, hy⟩ := HZ.out _ _ hx
  have HY := hidden hy
  clear hx hy
  go_wp2_with fail
  first | exact HY.out | (go_ret; exact HY.out)
/-- Put, whatever it is asked for. -/
def PutP (P : PL) (fr : List Nat) (f k a : Int) (w : World) (r : Ending) (w' : World) : Prop :=
  (costI k = 0 ∧ r = .returned (.int .i64 1) ∧ Step P.hl P.hl w w') ∨
  (costI k ≠ 0 ∧ P.has k a = false ∧ r = .returned (.int .i64 6) ∧ Step P.hl P.hl w w') ∨
  (costI k ≠ 0 ∧ P.has k a = true ∧ find P.q.E f = none ∧ r = .returned (.int .i64 6) ∧ Step P.hl P.hl w w') ∨
  (costI k ≠ 0 ∧ P.has k a = true ∧ (∃ e, find P.q.E f = some e ∧ e.q.charged < ((costI k : Nat) : Int)) ∧ r = .returned (.int .i64 1) ∧ Step P.hl P.hl w w') ∨
  (∃ (n m : Nat) (e : En Fa), k = (n : Int) ∧ a = (m : Int) ∧ 1 ≤ n ∧ n ≤ 7 ∧ m ∈ P.usedOf n ∧ find P.q.E f = some e ∧ ((costN n : Nat) : Int) ≤ e.q.charged ∧ PutR P fr f n m w r w')
theorem pput_any {w : World} {P : PL} {fr : List Nat} (h : Sep w P.hl) (ok : P.Ok fr) (f k a : Int) (ha : Small a) :
    Calls Tryz.prog 110 #[.pointer (some ⟨P.p, 0, none⟩), .int .i64 f, .int .i64 k, .int .i64 a] w (PutP P fr f k a w) := by
  by_cases hk : costI k = 0
  · refine (pput_arg h f k a hk).mono ?_
    rintro r w' ⟨rfl, rfl⟩
    exact .inl ⟨hk, rfl, Step.refl h⟩
  · cases hh : P.has k a with
    | false =>
      refine (pput_none h ok f k a hk ha hh).mono ?_
      rintro r w' ⟨rfl, hb⟩
      exact .inr (.inl ⟨hk, hh, rfl, h.grown hb⟩)
    | true =>
      cases hf : find P.q.E f with
      | none =>
        refine (pput_err h ok f k a hk ha hh 6 (.inr rfl) fun w1 hb => qrefund_none (PL.sQ (h.grown hb).sep.drew) hf _).mono ?_
        rintro r w' ⟨rfl, hb⟩
        exact .inr (.inr (.inl ⟨hk, hh, hf, rfl, h.grown hb⟩))
      | some e =>
        by_cases hq : ((costI k : Nat) : Int) ≤ e.q.charged
        · obtain ⟨n, rfl, h1, h7, hn⟩ := costI_nat hk
          rw [hn] at hq
          obtain ⟨c, hc⟩ := PL.cls ok h1 h7
          have hm := hh
          unfold PL.has PL.usedI at hm
          rw [decide_eq_true_eq, if_pos (by omega : (0 : Int) ≤ (n : Int)), Int.toNat_natCast] at hm
          obtain ⟨h0, hm⟩ := hm
          obtain ⟨m, rfl⟩ := Int.eq_ofNat_of_zero_le h0
          rw [Int.toNat_natCast] at hm
          have hm2 := hm
          rw [usedOf_cls hc] at hm2
          refine (pput_paid h ok f hf n hq c hc m hm2 (by unfold Small at ha; omega)).mono ?_
          intro r w' hr
          exact .inr (.inr (.inr (.inr ⟨n, m, e, rfl, rfl, h1, h7, hm, hf, hq, hr⟩)))
        · refine (pput_err h ok f k a hk ha hh 1 (.inl rfl) fun w1 hb => qrefund_arg (PL.sQ (h.grown hb).sep.drew) hf _ (by omega) (by omega)).mono ?_
          rintro r w' ⟨rfl, hb⟩
          exact .inr (.inr (.inr (.inl ⟨hk, hh, ⟨e, hf, by omega⟩, rfl, h.grown hb⟩)))
end Go.Proofs.YtcnbbenmlffgpaaGreatDoor

/- Used places of a pool lie apart. Plain. No condition. -/
namespace Go.Proofs.YtcnbbenmlffgpaaGreatDoor
open Go.RowKit

theorem Step.fresh {w w' : World} {H' : HL} (h : Step [] H' w w') : Below w.heap.size w w' := h.below (Nat.le_refl _) (by simp)
theorem used_pairwise {c : CA} (ok : c.Ok) : c.used.Pairwise (· < ·) := by
  unfold CA.used
  rw [List.pairwise_flatMap]
  have hs0 := ok.s0
  constructor
  · intro x hx
    unfold usedPg
    rw [List.pairwise_map]
    refine (trues_sorted x.1.bits).imp fun {i j} h => ?_
    unfold addr
    have : i * c.size + c.size ≤ j * c.size := by
      have := Nat.mul_le_mul_right c.size h
      rw [Nat.succ_mul] at this
      exact this
    omega
  · refine List.Pairwise.imp_of_mem (fun {x y} hx hy h => ?_) ok.sorted
    intro a ha b hb
    have ha' : a ∈ c.used := List.mem_flatMap.2 ⟨x, hx, ha⟩
    unfold usedPg at ha hb
    obtain ⟨i, hi, rfl⟩ := List.mem_map.1 ha
    obtain ⟨j, hj, rfl⟩ := List.mem_map.1 hb
    have hil : i < x.1.bits.length := by
      have := mem_trues.1 hi
      rcases Nat.lt_or_ge i x.1.bits.length with e | e
      · exact e
      · rw [List.getElem?_eq_none e] at this; cases this
    have hp := place_lt (s := c.size) (by omega) hil (ok.many x hx)
    unfold addr
    have hxy : x.2 < y.2 := h
    omega
theorem usedOf_pairwise {P : PL} {fr : List Nat} (ok : P.Ok fr) (n : Nat) : (P.usedOf n).Pairwise (· < ·) := by
  unfold PL.usedOf
  split
  · rename_i h1
    split
    · rename_i c hc
      exact used_pairwise (PL.Cls.facts ok ⟨h1, hc⟩).1
    · exact List.Pairwise.nil
  · exact List.Pairwise.nil
theorem full_used {c : CA} (hs : c.size ≤ 256) (ok : c.Ok) (hf : ∀ y ∈ c.pg, freeP y = none) : 3 * c.pg.length ≤ c.used.length := by
  have h3 : 3 ≤ 960 / c.size := by
    have hs0 := ok.s0
    rw [Nat.le_div_iff_mul_le (by omega)]
    omega
  have each : ∀ y ∈ c.pg, 3 ≤ (usedPg c.size y).length := by
    intro y hy
    unfold usedPg
    rw [List.length_map]
    have hno := firstI_no (hf y hy)
    have : trues y.1.bits = List.range y.1.bits.length := by
      unfold trues
      rw [List.filter_eq_self]
      intro i hi
      have := hno i (Nat.zero_le _) (List.mem_range.1 hi)
      simpa using this
    rw [this, List.length_range, ok.many y hy]
    exact h3
  unfold CA.used
  generalize c.pg = l at each
  induction l with
  | nil => simp
  | cons y r ih =>
    have h1 := each y (by simp)
    have h2 := ih (fun z hz => each z (by simp [hz]))
    simp only [List.flatMap_cons, List.length_append, List.length_cons]
    omega
theorem used_apart {c : CA} (ok : c.Ok) : c.used.Pairwise (fun a b => a + c.size ≤ b) := by
  unfold CA.used
  rw [List.pairwise_flatMap]
  have hs0 := ok.s0
  constructor
  · intro x hx
    unfold usedPg
    rw [List.pairwise_map]
    refine (trues_sorted x.1.bits).imp fun {i j} h => ?_
    unfold addr
    have : i * c.size + c.size ≤ j * c.size := by
      have := Nat.mul_le_mul_right c.size h
      rw [Nat.succ_mul] at this
      exact this
    omega
  · refine List.Pairwise.imp_of_mem (fun {x y} hx hy h => ?_) ok.sorted
    intro a ha b hb
    unfold usedPg at ha hb
    obtain ⟨i, hi, rfl⟩ := List.mem_map.1 ha
    obtain ⟨j, hj, rfl⟩ := List.mem_map.1 hb
    have hil : i < x.1.bits.length := by
      have := mem_trues.1 hi
      rcases Nat.lt_or_ge i x.1.bits.length with e | e
      · exact e
      · rw [List.getElem?_eq_none e] at this; cases this
    have hp := place_lt (s := c.size) (by omega) hil (ok.many x hx)
    unfold addr at *
    have hxy : x.2 < y.2 := h
    omega
theorem pairwise_two {R : Nat → Nat → Prop} {l : List Nat} (h : l.Pairwise R) {a b : Nat} (ha : a ∈ l) (hb : b ∈ l) (hne : a ≠ b) : R a b ∨ R b a := by
  induction l with
  | nil => cases ha
  | cons x r ih =>
    have hp := List.pairwise_cons.1 h
    rcases List.mem_cons.1 ha with ea | ha'
    · rcases List.mem_cons.1 hb with eb | hb'
      · exact absurd (ea.trans eb.symm) hne
      · rw [ea]; exact .inl (hp.1 b hb')
    · rcases List.mem_cons.1 hb with eb | hb'
      · rw [eb]; exact .inr (hp.1 a ha')
      · exact ih hp.2 ha' hb'
theorem mem_usedOf {P : PL} {k a : Nat} (h : a ∈ P.usedOf k) : ∃ c, P.Cls k c ∧ a ∈ c.used := by
  unfold PL.usedOf at h
  split at h
  · rename_i h1
    split at h
    · rename_i c hc
      exact ⟨c, ⟨h1, hc⟩, h⟩
    · cases h
  · cases h
theorem pages_two {P : PL} {fr : List Nat} (ok : P.Ok fr) {j k : Nat} {c d : CA} (hjk : j < k) (hc : P.cs[j]? = some c) (hd : P.cs[k]? = some d) {x y : BM × Nat} (hx : x ∈ c.pg) (hy : y ∈ d.pg) : x.2 ≠ y.2 := by
  have hnd : P.pages.Nodup := by
    have h := (ok.pages.nodup_iff).2 ok.d.nd
    exact (List.nodup_append.1 h).2.1
  have : (P.cs.flatMap fun c => c.pg.map Prod.snd).Nodup := hnd
  unfold List.Nodup at this
  rw [List.pairwise_flatMap] at this
  obtain ⟨hj, ej⟩ := List.getElem?_eq_some_iff.1 hc
  obtain ⟨hk, ek⟩ := List.getElem?_eq_some_iff.1 hd
  have h2 := List.pairwise_iff_getElem.1 this.2 j k hj hk hjk
  exact h2 x.2 (by rw [ej]; exact List.mem_map_of_mem hx) y.2 (by rw [ek]; exact List.mem_map_of_mem hy)
/-- Two used places do not overlap. -/
theorem used_two {P : PL} {fr : List Nat} (ok : P.Ok fr) {j k a b : Nat} (ha : a ∈ P.usedOf j) (hb : b ∈ P.usedOf k) (hne : ¬ (j = k ∧ a = b)) : a + costN j ≤ b ∨ b + costN k ≤ a := by
  obtain ⟨c, hc, ha⟩ := mem_usedOf ha
  obtain ⟨d, hd, hb⟩ := mem_usedOf hb
  obtain ⟨k1, k2, _, _⟩ := PL.Cls.facts ok hc
  obtain ⟨l1, l2, _, _⟩ := PL.Cls.facts ok hd
  by_cases e : j = k
  · subst e
    obtain rfl : c = d := by
      have := hc.2.symm.trans hd.2
      exact Option.some.inj this
    have := pairwise_two (used_apart k1) ha hb (fun e => hne ⟨rfl, e⟩)
    rw [k2] at this
    exact this
  · obtain ⟨x, hx, x1, x2⟩ := used_lt k1 ha
    obtain ⟨y, hy, y1, y2⟩ := used_lt l1 hb
    rw [k2] at x2
    rw [l2] at y2
    have hp : x.2 ≠ y.2 := by
      have g1 := hc.1
      have g2 := hd.1
      rcases Nat.lt_or_ge j k with h | h
      · exact pages_two ok (by omega : j - 1 < k - 1) hc.2 hd.2 hx hy
      · exact (pages_two ok (by omega : k - 1 < j - 1) hd.2 hc.2 hy hx).symm
    omega
/-- A used place's page is used, its block of the first order. -/
theorem used_page {P : PL} {fr : List Nat} (ok : P.Ok fr) {k a : Nat} (ha : a ∈ P.usedOf k) : a / 1024 ∈ P.d.ps := by
  obtain ⟨c, hc, ha⟩ := mem_usedOf ha
  obtain ⟨k1, _, _, _⟩ := PL.Cls.facts ok hc
  obtain ⟨x, hx, x1, x2⟩ := used_lt k1 ha
  have hs0 := k1.s0
  have e : a / 1024 = x.2 := by omega
  rw [e]
  exact mem_pages ok hc.2 x hx
/-- No block is free: all pages are used. -/
theorem none_free {ps : List Nat} {top : Nat} (h : ∀ k, k ≤ top → fstG (fre (uOf ps) top) top k 0 = none) {p : Nat} (hp : p < 2 ^ top) : p ∈ ps := by
  by_cases hu : uOf ps p = true
  · simpa [uOf] using hu
  · exfalso
    obtain ⟨k, hk, hf⟩ := fre_cover (uOf ps) top p (by simpa using hu)
    have hlt : p / 2 ^ k < 2 ^ (top - k) := by
      rw [Nat.div_lt_iff_lt_mul (Nat.two_pow_pos k), ← Nat.pow_add, show top - k + k = top by omega]
      exact hp
    have := firstI_no (h k hk) (p / 2 ^ k) (Nat.zero_le _) (by simpa using hlt)
    rw [List.getElem?_map, List.getElem?_range hlt] at this
    simp [hf] at this
theorem cls_set {P P' : PL} {n : Nat} {c c' : CA} (hc : P.Cls n c) (h : P'.cs = P.cs.set (n - 1) c') {k : Nat} {d : CA} (hd : P'.Cls k d) : (k = n ∧ d = c') ∨ (k ≠ n ∧ P.Cls k d) := by
  have hk := (List.getElem?_eq_some_iff.1 hc.2).1
  obtain ⟨h1, h2⟩ := hd
  have g1 := hc.1
  rw [h, List.getElem?_set] at h2
  by_cases e : k = n
  · subst e
    simp [hk] at h2
    exact .inl ⟨rfl, h2.symm⟩
  · rw [if_neg (by omega)] at h2
    exact .inr ⟨e, h1, h2⟩
theorem costN_le {n : Nat} (h7 : n ≤ 7) : costN n ≤ 256 := by
  have hn : n = 0 ∨ n = 1 ∨ n = 2 ∨ n = 3 ∨ n = 4 ∨ n = 5 ∨ n = 6 ∨ n = 7 := by omega
  rcases hn with rfl | rfl | rfl | rfl | rfl | rfl | rfl | rfl <;> decide
theorem mem_left {A B : List Nat} {a x : Nat} (h : x ∈ A ++ a :: B) (hne : x ≠ a) : x ∈ A ++ B := by
  rcases List.mem_append.1 h with h | h
  · exact List.mem_append_left _ h
  · rcases List.mem_cons.1 h with h | h
    · exact absurd h hne
    · exact List.mem_append_right _ h
end Go.Proofs.YtcnbbenmlffgpaaGreatDoor

/- The core's objects as plain data: what they keep to, and what a making, a dooming and a freeing leave. No condition. -/
namespace Go.Proofs.YtcnbbenmlffgpaaGreatDoor
open Go.RowKit

def Pl.is (p : Pl) : Bool := p.st == 1 || p.st == 2
theorem Pl.is_iff {p : Pl} : p.is = true ↔ p.st = 1 ∨ p.st = 2 := by simp [Pl.is]
theorem Pl.not_is {p : Pl} : p.is = false ↔ p.st ≠ 1 ∧ p.st ≠ 2 := by simp [Pl.is]
/-- What an object costs. -/
def costK (k : Nat) : Nat := if k = 8 then 1024 else costN k
def atsF (k : Nat) (p : Pl) : Option Nat := if p.is && p.kind == k then some p.at_ else none
def ownF (p : Pl) : Option Int := if p.is && p.kind == 1 then some (p.own : Int) else none
/-- Where the objects of a kind are. -/
def atsOf (l : List Pl) (k : Nat) : List Nat := l.filterMap (atsF k)
/-- The factories' own accounts. -/
def ownsOf (l : List Pl) : List Int := l.filterMap ownF
def costP (a : Int) (p : Pl) : Int := if p.is && decide ((p.fac : Int) = a) then (costK p.kind : Int) else 0
/-- What all costs that an account pays for. -/
def costSum (l : List Pl) (a : Int) : Int := (l.map (costP a)).sum
def givF (a : Int) (e : En Fa) : Int := if e.q.parent = a then e.q.limit else 0
def kidF (a : Int) (e : En Fa) : Int := if e.q.parent = a then 1 else 0
def givSum (E : List (En Fa)) (a : Int) : Int := (E.map (givF a)).sum
def kidCnt (E : List (En Fa)) (a : Int) : Int := (E.map (kidF a)).sum

theorem sum_perm {α : Type} (f : α → Int) {l m : List α} (h : l.Perm m) : (l.map f).sum = (m.map f).sum := by
  induction h with
  | nil => rfl
  | cons x _ ih => simp [ih]
  | swap x y l => simp; omega
  | trans _ _ h1 h2 => exact h1.trans h2
theorem set_perm {α : Type} {l : List α} {i : Nat} {p : α} (q : α) (h : l[i]? = some p) : ∃ R, l.Perm (p :: R) ∧ (l.set i q).Perm (q :: R) := by
  have hi := List.getElem?_eq_some_iff.1 h
  refine ⟨l.take i ++ l.drop (i + 1), ?_, ?_⟩
  · have e : l = l.take i ++ p :: l.drop (i + 1) := by rw [← hi.2, List.getElem_cons_drop, List.take_append_drop]
    conv => lhs; rw [e]
    exact List.perm_middle
  · have e : l.set i q = l.take i ++ q :: l.drop (i + 1) := by rw [List.set_eq_take_append_cons_drop, if_pos hi.1]
    rw [e]; exact List.perm_middle
theorem fmp_add {β : Type} {l : List Pl} {i : Nat} {p q : Pl} (f : Pl → Option β) {b : β} (h : l[i]? = some p) (hp : f p = none) (hq : f q = some b) : ((l.set i q).filterMap f).Perm (b :: l.filterMap f) := by
  obtain ⟨R, h1, h2⟩ := set_perm q h
  have e1 := h1.filterMap f
  have e2 := h2.filterMap f
  rw [List.filterMap_cons_none hp] at e1
  rw [List.filterMap_cons_some hq] at e2
  exact e2.trans (e1.symm.cons b)
theorem fmp_keep {β : Type} {l : List Pl} {i : Nat} {p q : Pl} (f : Pl → Option β) (h : l[i]? = some p) (hpq : f q = f p) : ((l.set i q).filterMap f).Perm (l.filterMap f) := by
  obtain ⟨R, h1, h2⟩ := set_perm q h
  have e1 := h1.filterMap f
  have e2 := h2.filterMap f
  refine e2.trans (List.Perm.trans ?_ e1.symm)
  rw [List.filterMap_cons, List.filterMap_cons, hpq]
theorem fmp_drop {β : Type} {l : List Pl} {i : Nat} {p q : Pl} (f : Pl → Option β) {b : β} (h : l[i]? = some p) (hp : f p = some b) (hq : f q = none) : (l.filterMap f).Perm (b :: (l.set i q).filterMap f) := by
  obtain ⟨R, h1, h2⟩ := set_perm q h
  have e1 := h1.filterMap f
  have e2 := h2.filterMap f
  rw [List.filterMap_cons_some hp] at e1
  rw [List.filterMap_cons_none hq] at e2
  exact e1.trans (e2.symm.cons b)
theorem costSum_set {l : List Pl} {i : Nat} {p : Pl} (q : Pl) (h : l[i]? = some p) (a : Int) : costSum (l.set i q) a + costP a p = costSum l a + costP a q := by
  obtain ⟨R, h1, h2⟩ := set_perm q h
  have e1 := sum_perm (costP a) h1
  have e2 := sum_perm (costP a) h2
  unfold costSum
  rw [e1, e2]
  simp only [List.map_cons, List.sum_cons]
  omega
theorem costP_nn (a : Int) (p : Pl) : 0 ≤ costP a p := by
  unfold costP; split <;> omega
theorem costSum_nn : ∀ (l : List Pl) (a : Int), 0 ≤ costSum l a
  | [], _ => by simp [costSum]
  | p :: r, a => by
    have := costSum_nn r a
    have := costP_nn a p
    unfold costSum at *
    simp only [List.map_cons, List.sum_cons]; omega
theorem costSum_ge : ∀ {l : List Pl} {p : Pl} (a : Int), p ∈ l → costP a p ≤ costSum l a
  | [], _, _, h => by cases h
  | q :: r, p, a, h => by
    have h1 := costSum_nn r a
    have h2 := costP_nn a q
    unfold costSum at *
    simp only [List.map_cons, List.sum_cons]
    rcases List.mem_cons.1 h with rfl | h
    · omega
    · have := costSum_ge a h
      unfold costSum at this
      omega
theorem costSum_zero : ∀ {l : List Pl} {a : Int}, (∀ p ∈ l, p.is = true → (p.fac : Int) ≠ a) → costSum l a = 0
  | [], _, _ => rfl
  | p :: r, a, h => by
    have ih := costSum_zero (l := r) (a := a) fun q hq => h q (by simp [hq])
    have e : costP a p = 0 := by
      unfold costP
      cases hi : p.is with
      | false => rfl
      | true => simp [h p (by simp) hi]
    unfold costSum at *
    simp [e, ih]
theorem givSum_zero : ∀ {E : List (En Fa)} {a : Int}, (∀ e ∈ E, e.q.parent ≠ a) → givSum E a = 0 ∧ kidCnt E a = 0
  | [], _, _ => ⟨rfl, rfl⟩
  | e :: r, a, h => by
    have ih := givSum_zero (E := r) (a := a) fun x hx => h x (by simp [hx])
    have := h e (by simp)
    unfold givSum kidCnt at *
    simp [givF, kidF, this, ih]
theorem givSum_nn : ∀ (E : List (En Fa)) (a : Int), (∀ e ∈ E, 0 ≤ e.q.limit) → 0 ≤ givSum E a ∧ 0 ≤ kidCnt E a
  | [], _, _ => by simp [givSum, kidCnt]
  | e :: r, a, h => by
    have ih := givSum_nn r a fun x hx => h x (by simp [hx])
    have h1 := h e (by simp)
    have : 0 ≤ givF a e ∧ 0 ≤ kidF a e := by unfold givF kidF; split <;> simp; exact h1
    unfold givSum kidCnt at *
    simp only [List.map_cons, List.sum_cons]; omega
theorem sum_upd {E : List (En Fa)} (hids : E.Pairwise (fun a b => a.id ≠ b.id)) {id : Int} {e : En Fa} (hf : find E id = some e) (x : Fa) (f : En Fa → Int) (hx : f { e with q := x } = f e) : ((upd E id x).map f).sum = (E.map f).sum := by
  obtain ⟨A, B, e1, e2, _⟩ := find_at hids hf
  rw [e2]
  conv => rhs; rw [e1]
  simp [hx]
theorem sum_rem {E : List (En Fa)} (hids : E.Pairwise (fun a b => a.id ≠ b.id)) {id : Int} {e : En Fa} (hf : find E id = some e) (f : En Fa → Int) : ((rem E id).map f).sum + f e = (E.map f).sum := by
  obtain ⟨A, B, e1, _, e3⟩ := find_at hids hf
  rw [e3]
  conv => rhs; rw [e1]
  simp; omega
theorem map_id_upd (E : List (En Fa)) (id : Int) (x : Fa) : (upd E id x).map En.id = E.map En.id := by
  unfold upd
  rw [List.map_map]
  apply List.map_congr_left
  intro e _
  show (if e.id = id then _ else _ : En Fa).id = e.id
  split <;> rfl
theorem find_upd_fwd {E : List (En Fa)} {id j : Int} {e : En Fa} (x : Fa) (h : find E j = some e) : ∃ e', find (upd E id x) j = some e' := by
  by_cases hj : j = id
  · subst hj; exact ⟨_, find_upd_same h x⟩
  · exact ⟨e, by rw [find_upd_other hj]; exact h⟩
theorem find_upd_back {E : List (En Fa)} {id j : Int} {e' e0 : En Fa} (x : Fa) (h0 : find E id = some e0) (h : find (upd E id x) j = some e') : ∃ e, find E j = some e ∧ (j = id → e = e0 ∧ e'.q = x) ∧ (j ≠ id → e' = e) := by
  by_cases hj : j = id
  · subst hj
    rw [find_upd_same h0] at h; cases h
    exact ⟨e0, h0, fun _ => ⟨rfl, rfl⟩, fun h => absurd rfl h⟩
  · rw [find_upd_other hj] at h
    exact ⟨e', h, fun h => absurd h hj, fun _ => rfl⟩
theorem find_some_of_mem {E : List (En Fa)} {j : Int} (h : j ∈ E.map En.id) : ∃ e, find E j = some e := by
  induction E with
  | nil => cases h
  | cons x r ih =>
    by_cases hk : j = x.id
    · exact ⟨x, by simp [find, hk]⟩
    · simp only [List.map_cons, List.mem_cons] at h
      rcases h with h | h
      · exact absurd h hk
      · obtain ⟨e, he⟩ := ih h
        exact ⟨e, by simp only [find, hk, if_false]; exact he⟩
theorem find_of_mem {E : List (En Fa)} (hids : E.Pairwise (fun a b => a.id ≠ b.id)) {e : En Fa} (h : e ∈ E) : find E e.id = some e := by
  induction E with
  | nil => cases h
  | cons x r ih =>
    obtain ⟨h1, h2⟩ := List.pairwise_cons.1 hids
    rcases List.mem_cons.1 h with rfl | h
    · simp [find]
    · have hne : ¬ e.id = x.id := fun e' => h1 e h e'.symm
      simp only [find, hne, if_false]; exact ih h2 h

/-! What the memory holds. -/
structure MemI (P : PL) (l : List Pl) (fr : List Nat) : Prop where
  pool : P.Ok fr
  kind : ∀ p ∈ l, p.is = true → p.kind = 8 ∨ (1 ≤ p.kind ∧ p.kind ≤ 5)
  ats : ∀ k, 1 ≤ k → k ≤ 5 → (atsOf l k).Perm (P.usedOf k)
  frs : (atsOf l 8).Perm (fr.map (1024 * ·))
  word : ∀ p ∈ l, p.is = true → p.kind = 1 → word8 P.a.mem p.at_ = p.own
/-- What the accounts say. -/
structure TreI (E : List (En Fa)) (l : List Pl) (xc : Int → Int) : Prop where
  ids : (E.map En.id).Perm (ownsOf l)
  fac : ∀ p ∈ l, p.is = true → ∃ e, find E p.fac = some e
  par : ∀ p ∈ l, p.is = true → p.kind = 1 → ∀ e, find E p.own = some e → (p.own = 0 → e.q.parent = -1) ∧ (p.own ≠ 0 → e.q.parent = p.fac ∧ p.fac < p.own)
  charged : ∀ id e, find E id = some e → e.q.charged = costSum l id + xc id
  given : ∀ id e, find E id = some e → e.q.given = givSum E id ∧ e.q.kids = kidCnt E id
/-- What the handles and the queue say; zs: the zombies, who is freed first ahead. -/
structure QueI (l : List Pl) (xc : Int → Int) (zs : List Nat) : Prop where
  root : ∃ p, l[0]? = some p ∧ p.kind = 1 ∧ p.fac = 0 ∧ p.st = 1 ∧ p.age = 0 ∧ p.own = 0
  live : ∀ i p, l[i]? = some p → i ≠ 0 → p.st = 1 → ∃ f ∈ l, f.st = 1 ∧ f.kind = 1 ∧ f.own = p.fac
  xc : ∀ id, 0 ≤ xc id ∧ (xc id ≠ 0 → ∃ p ∈ l, p.st = 1 ∧ (p.fac : Int) = id)
  nd : zs.Nodup
  has : ∀ h, h ∈ zs ↔ ∃ p, pget l 2 h = some p
  ord : zs.Pairwise fun a b => ∀ p q, pget l 2 a = some p → pget l 2 b = some q → p.kind = 1 → q.fac ≠ p.own
structure Inv (P : PL) (l : List Pl) (fr : List Nat) (xc : Int → Int) (zs : List Nat) : Prop where
  len : l.length = 256
  st : ∀ p ∈ l, p.st ≤ 2 ∧ p.age ≤ 1048575
  mem : MemI P l fr
  tre : TreI P.q.E l xc
  que : QueI l xc zs

theorem pget_mem {l : List Pl} {s h : Nat} {p : Pl} (hp : pget l s h = some p) : p ∈ l := List.mem_of_getElem? (pget_some.1 hp).1
theorem pget_set {l : List Pl} {i : Nat} {p : Pl} (q : Pl) (hi : l[i]? = some p) (s h : Nat) : pget (l.set i q) s h = if h % 256 = i then (if nm i q = h ∧ q.st = s then some q else none) else pget l s h := by
  unfold pget
  by_cases e : h % 256 = i
  · subst e
    simp [(List.getElem?_eq_some_iff.1 hi).1]
  · rw [if_neg e, List.getElem?_set_ne (fun h => e h.symm)]
theorem mem_of_set {l : List Pl} {i : Nat} {q r : Pl} (h : r ∈ l.set i q) : r = q ∨ r ∈ l := by
  rcases List.mem_or_eq_of_mem_set h with h | h
  · exact .inr h
  · exact .inl h
theorem fmp_inj {β : Type} {l : List Pl} (f : Pl → Option β) (hn : (l.filterMap f).Nodup) {i j : Nat} {p q : Pl} {b : β} (hi : l[i]? = some p) (hj : l[j]? = some q) (hp : f p = some b) (hq : f q = some b) : i = j := by
  unfold List.Nodup at hn
  rw [List.pairwise_filterMap] at hn
  obtain ⟨hi1, hi2⟩ := List.getElem?_eq_some_iff.1 hi
  obtain ⟨hj1, hj2⟩ := List.getElem?_eq_some_iff.1 hj
  rcases Nat.lt_trichotomy i j with h | h | h
  · exact absurd rfl (List.pairwise_iff_getElem.1 hn i j hi1 hj1 h b (by rw [hi2]; exact hp) b (by rw [hj2]; exact hq))
  · exact h
  · exact absurd rfl (List.pairwise_iff_getElem.1 hn j i hj1 hi1 h b (by rw [hj2]; exact hq) b (by rw [hi2]; exact hp))
theorem TreI.owns_nodup {E : List (En Fa)} {l : List Pl} {xc : Int → Int} (t : TreI E l xc) (hids : E.Pairwise (fun a b => a.id ≠ b.id)) : (ownsOf l).Nodup := by
  refine t.ids.nodup_iff.1 ?_
  unfold List.Nodup
  rw [List.pairwise_map]
  exact hids
theorem ownF_some {p : Pl} (hi : p.is = true) (hk : p.kind = 1) : ownF p = some (p.own : Int) := by simp [ownF, hi, hk]
theorem TreI.inj {E : List (En Fa)} {l : List Pl} {xc : Int → Int} (t : TreI E l xc) (hids : E.Pairwise (fun a b => a.id ≠ b.id)) {i j : Nat} {p q : Pl} (hi : l[i]? = some p) (hj : l[j]? = some q) (hp : p.is = true) (hq : q.is = true) (kp : p.kind = 1) (kq : q.kind = 1) (e : p.own = q.own) : i = j :=
  fmp_inj ownF (t.owns_nodup hids) hi hj (ownF_some hp kp) (by rw [ownF_some hq kq, e])
theorem TreI.acc {E : List (En Fa)} {l : List Pl} {xc : Int → Int} (t : TreI E l xc) {p : Pl} (hp : p ∈ l) (hi : p.is = true) (hk : p.kind = 1) : ∃ e, find E p.own = some e :=
  find_some_of_mem (t.ids.mem_iff.2 (List.mem_filterMap.2 ⟨p, hp, ownF_some hi hk⟩))
theorem Inv.tree {P : PL} {l : List Pl} {fr : List Nat} {xc : Int → Int} {zs : List Nat} (v : Inv P l fr xc zs) : Tre l P.q.next.toNat := by
  have hids := v.mem.pool.q.ids
  have his : ∀ {h p}, pget l 1 h = some p → p.is = true := fun hp => Pl.is_iff.2 (.inl (pget_some.1 hp).2.2)
  have hinj : ∀ h k p q, pget l 1 h = some p → pget l 1 k = some q → p.kind = 1 → q.kind = 1 → p.own = q.own → h = k := by
    intro h k p q hp hq kp kq e
    have := v.tre.inj hids (pget_some.1 hp).1 (pget_some.1 hq).1 (his hp) (his hq) kp kq e
    exact (pget_same hp hq this).1
  obtain ⟨r, r1, r2, r3, r4, r5, r6⟩ := v.que.root
  have hroot : pget l 1 0 = some r := pget_some.2 ⟨r1, by simp [nm, r5], r4⟩
  refine ⟨by rw [v.len]; omega, fun h p hp hk => ?_, fun h p hp h0 hk => ?_, hinj⟩
  · obtain ⟨e, he⟩ := v.tre.acc (pget_mem hp) (his hp) hk
    have := (v.mem.pool.q.fa _ e he).2.2.2.2.2.2
    omega
  · obtain ⟨e, he⟩ := v.tre.acc (pget_mem hp) (his hp) hk
    refine ((v.tre.par p (pget_mem hp) (his hp) hk e he).2 fun e0 => ?_).2
    exact h0 (hinj h 0 p r hp hroot hk r2 (by rw [r6]; exact e0))
theorem MemI.at_nd {P : PL} {l : List Pl} {fr : List Nat} (m : MemI P l fr) (k : Nat) (h1 : 1 ≤ k) (h5 : k ≤ 5) : (atsOf l k).Nodup :=
  (m.ats k h1 h5).nodup_iff.2 ((usedOf_pairwise m.pool k).imp fun h e => by subst e; exact absurd h (by omega))
theorem atsF_some {p : Pl} (hi : p.is = true) : atsF p.kind p = some p.at_ := by simp [atsF, hi]
theorem MemI.used {P : PL} {l : List Pl} {fr : List Nat} (m : MemI P l fr) {p : Pl} (hp : p ∈ l) (hi : p.is = true) (h8 : p.kind ≠ 8) : p.at_ ∈ P.usedOf p.kind := by
  obtain ⟨h1, h5⟩ := (m.kind p hp hi).resolve_left h8
  exact (m.ats _ h1 h5).mem_iff.1 (List.mem_filterMap.2 ⟨p, hp, atsF_some hi⟩)
theorem MemI.frame {P : PL} {l : List Pl} {fr : List Nat} (m : MemI P l fr) {p : Pl} (hp : p ∈ l) (hi : p.is = true) (h8 : p.kind = 8) : ∃ g ∈ fr, p.at_ = 1024 * g := by
  have : p.at_ ∈ fr.map (1024 * ·) := m.frs.mem_iff.1 (List.mem_filterMap.2 ⟨p, hp, by rw [← h8]; exact atsF_some hi⟩)
  obtain ⟨g, hg, e⟩ := List.mem_map.1 this
  exact ⟨g, hg, e.symm⟩
end Go.Proofs.YtcnbbenmlffgpaaGreatDoor
