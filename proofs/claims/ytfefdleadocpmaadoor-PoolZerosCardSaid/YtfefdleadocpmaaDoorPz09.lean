/- PoolZeros returns true at every input, with the three listed tables tied to the program's text. No condition. Part of its proof. -/
import Derived.Test.YtfefdleadocpmaaDoorPz08
import Derived.Test.YtfefdleadocpmaaDoorPz07
import Derived.Test.YtfefdleadocpmaaDoorPz06
import Derived.Deep.RegionHeld3
import Derived.Deep.RegionWith
import Derived.Test.YtfefdleadocpmaaDoorPz03
import Derived.Deep.QuietTactic
import Derived.BigQuiet
/- The walk of the pool's Get, by its ways. Conditions: the blocks hold what PL.hl says. -/
namespace Go.Proofs.YtfefdleadocpmaaDoor
open Go.RowKit

theorem told_drew {w : World} {v : Value} {r : Ending} {w' : World} (h : Told w.drew v r w') : Told w v r w' := ⟨h.1, ((Below.refl _ _).drew).trans h.2⟩
set_option maxHeartbeats 400000 in
theorem pget_arg {w : World} {P : PL} (h : Sep w P.hl) (f k : Int) (hk : costI k = 0) : Calls Tryd.prog 8 #[.pointer (some ⟨P.p, 0, none⟩), .int .i64 f, .int .i64 k] w fun r w' => r = .returned (.tuple #[.int .i64 0, .int .i64 1]) ∧ w = w' := by
  have hcost := cost_any h.env k
  rw [hk] at hcost
  clear h hk
  go_enter Tryd.func8, Tryd.ntmps8
  go_wp2_with (go_at_call 10; refine hcost.mono ?_; rintro e w' ⟨rfl, rfl⟩)
  go_ret2
  exact ⟨rfl, rfl⟩
set_option maxHeartbeats 1000000 in
theorem pget_err {w : World} {P : PL} (h : Sep w P.hl) (f k : Int) (hk : costI k ≠ 0) (e0 : Int) (he : e0 = 5 ∨ e0 = 6)
    (hch : Calls Tryd.prog 29 #[ptr P.q.t, .int .i64 f, .int .i64 ((costI k : Nat) : Int)] w.drew (Told w.drew (.int .i64 e0))) :
    Calls Tryd.prog 8 #[.pointer (some ⟨P.p, 0, none⟩), .int .i64 f, .int .i64 k] w (Told w (.tuple #[.int .i64 0, .int .i64 e0])) := by
  have hcost := cost_any h.env k
  have hcost2 := cost_any h.drew.env k
  have c0 := PL.c0 h
  have d0 := PL.c0 h.drew
  have HT : Hid (∀ r w', Told w.drew (.int .i64 e0) r w' → r = .returned (.int .i64 e0) ∧ w'.cell? ⟨P.p, 0, none⟩ = some (ptr P.q.t) ∧ Told w (.tuple #[.int .i64 0, .int .i64 e0]) (.returned (.tuple #[.int .i64 0, .int .i64 e0])) w') := fun r w' hx => ⟨(told_drew hx).1, PL.c0 (h.grown (told_drew hx).2).sep, rfl, (told_drew hx).2⟩
  have hne : (((costI k : Nat) : Int) == 0) = false := by simpa using hk
  clear h hk
  unfold ptr at *
  generalize ((costI k : Nat) : Int) = cst at *
  rcases he with rfl | rfl
  all_goals
    go_enter Tryd.func8, Tryd.ntmps8
    go_wp2_with (go_at_call 10; refine hcost.mono ?_; rintro e w' ⟨rfl, rfl⟩)
    go_region_held3 (fun w' => w'.cell? ⟨P.p, 0, none⟩ = some (.pointer (some ⟨P.q.t, 0, none⟩))) (first | exact c0 | exact d0 | exact e1)
      (first | (go_at_call 10; refine hcost2.mono ?_; rintro e w' ⟨rfl, rfl⟩) | (go_at_call 29; refine hch.mono ?_; intro r w' hx; obtain ⟨rfl, e1, hy⟩ := HT.out _ _ hx; have HY := hidden hy; clear hx hy))
    go_wp2_with fail
    first | exact HY.out | (go_ret2; exact HY.out)
/-- What a Get that is OK leaves. -/
structure GetOk (P : PL) (fr : List Nat) (f : Int) (n a : Nat) (P' : PL) : Prop where
  ok : P'.Ok fr
  p : P'.p = P.p
  qt : P'.q.t = P.q.t
  db : P'.d.b = P.d.b
  aa : P'.a.a = P.a.a
  amb : P'.a.mb = P.a.mb
  top : P'.d.top = P.d.top
  q : ∃ e, find P.q.E f = some e ∧ ((costN n : Nat) : Int) ≤ e.q.limit - (e.q.charged + e.q.given) ∧ P'.q = { P.q with E := upd P.q.E f { e.q with charged := e.q.charged + ((costN n : Nat) : Int) } }
  mem : P'.a.mem = put_ P.a.mem a (List.replicate (costN n) 0)
  used : ∃ A B, P.usedOf n = A ++ B ∧ P'.usedOf n = A ++ a :: B
  other : ∀ j, j ≠ n → P'.usedOf j = P.usedOf j
  which : ∃ c c', P.Cls n c ∧ P'.cs = P.cs.set (n - 1) c' ∧ TakeOk c P.d a c' P'.d
def NoRoom (P : PL) (n : Nat) : Prop := ∃ c, P.Cls n c ∧ NoPlace c P.d
/-- What a Get comes to that the account can pay. -/
def GetR (P : PL) (fr : List Nat) (f : Int) (n : Nat) (w : World) (r : Ending) (w' : World) : Prop :=
  (∃ a P', r = .returned (.tuple #[.int .i64 ((a : Nat) : Int), .int .i64 0]) ∧ GetOk P fr f n a P' ∧ Step P.hl P'.hl w w') ∨ (NoRoom P n ∧ r = .returned (.tuple #[.int .i64 0, .int .i64 4]) ∧ Step P.hl P.hl w w')
theorem used_in_mem {P : PL} {fr : List Nat} (ok : P.Ok fr) {n a : Nat} (ha : a ∈ P.usedOf n) : a + costN n ≤ P.a.mem.length ∧ 64 ≤ a ∧ 1 ≤ n ∧ n ≤ 7 := by
  unfold PL.usedOf at ha
  split at ha
  · rename_i h1
    split at ha
    · rename_i c hc
      obtain ⟨k1, k2, k3, k4⟩ := PL.Cls.facts ok ⟨h1, hc⟩
      obtain ⟨x, hx, l1, l2⟩ := used_lt k1 ha
      have hp := ok.d.lt _ (mem_pages ok hc x hx)
      rw [k2] at l2
      rw [ok.mem, Nat.pow_add, show (2 : Nat) ^ 10 = 1024 from rfl]
      omega
    · cases ha
  · cases ha
theorem put_bytes {m : List Nat} {a n : Nat} (h : ∀ b ∈ m, b < 256) (v : Nat) (hv : v < 256) : ∀ b ∈ put_ m a (List.replicate n v), b < 256 := by
  intro b hb
  unfold put_ at hb
  simp only [List.mem_append] at hb
  rcases hb with (hb | hb) | hb
  · exact h b (List.mem_of_mem_take hb)
  · rw [List.eq_of_mem_replicate hb]; exact hv
  · exact h b (List.mem_of_mem_drop hb)
theorem mem_bound {P : PL} {fr : List Nat} (ok : P.Ok fr) : P.a.mem.length ≤ 1073741824 := by
  rw [ok.mem]
  exact Nat.le_trans (Nat.pow_le_pow_right (by omega) (by have := ok.d.is.top; omega : P.d.top + 10 ≤ 30)) (by decide)
theorem get_chain {w : World} {P : PL} {fr : List Nat} (h : Sep w P.hl) (ok : P.Ok fr) (f : Int) {e : En Fa} (hf : find P.q.E f = some e) (n : Nat) (hq : ((costN n : Nat) : Int) ≤ e.q.limit - (e.q.charged + e.q.given)) (c : CA) (hc : P.Cls n c) :
    Calls Tryd.prog 29 #[ptr P.q.t, .int .i64 f, .int .i64 ((costN n : Nat) : Int)] w.drew fun r w1 => r = .returned (.int .i64 0) ∧ w1.cell? ⟨P.p, 0, none⟩ = some (ptr P.q.t) ∧ w1.cell? ⟨P.p, 3 + n, none⟩ = some (ptr c.c) ∧
      Calls Tryd.prog 30 #[ptr c.c] w1 fun r w2 => 
        (∃ a : Nat, r = .returned (.tuple #[.int .i64 (a : Int), .int .i64 0]) ∧ Env w2 ∧ w2.cell? ⟨P.p, 2, none⟩ = some (ptr P.a.a) ∧
          Calls Tryd.prog 19 #[ptr P.a.a, .int .i64 (a : Int), .int .i64 ((costN n : Nat) : Int), .int .u8 0] w2.drew fun r w3 => r = .returned (.int .i64 0) ∧ w3.cell? ⟨P.p, 2, none⟩ = some (ptr P.a.a) ∧ GetR P fr f n w (.returned (.tuple #[.int .i64 (a : Int), .int .i64 0])) w3)
        ∨ (r = .returned (.tuple #[.int .i64 0, .int .i64 4]) ∧ Env w2 ∧ w2.cell? ⟨P.p, 0, none⟩ = some (ptr P.q.t) ∧
          Calls Tryd.prog 31 #[ptr P.q.t, .int .i64 f, .int .i64 ((costN n : Nat) : Int)] w2.drew fun r w3 => r = .returned (.int .i64 0) ∧ w3.cell? ⟨P.p, 0, none⟩ = some (ptr P.q.t) ∧ GetR P fr f n w (.returned (.tuple #[.int .i64 0, .int .i64 4])) w3) := by
  obtain ⟨k1, k2, k3, k4⟩ := PL.Cls.facts ok hc
  obtain ⟨f1, f2, f3, f4, f5, f6, f7, f8⟩ := ok.q.fa f e hf
  have hpos : 0 < costN n := costN_pos.2 ⟨hc.1, k4⟩
  have hn0 : (0 : Int) ≤ ((costN n : Nat) : Int) := by omega
  refine (qcharge_ok (PL.sQ h.drew) ok.q hf _ hn0 hq).mono ?_
  rintro r w1 ⟨rfl, st1⟩
  have s1 : Step P.hl (P.setQ { P.q with E := upd P.q.E f { e.q with charged := e.q.charged + ((costN n : Nat) : Int) } }).hl w w1 := (PL.stepQ h.drew { P.q with E := upd P.q.E f { e.q with charged := e.q.charged + ((costN n : Nat) : Int) } } rfl st1).from_drew
  have ok1 := PL.ok_setQ ok (ok_charge ok.q hf { e.q with charged := e.q.charged + ((costN n : Nat) : Int) } ⟨by show 0 ≤ e.q.charged + _; omega, f2, by show e.q.charged + _ + e.q.given ≤ e.q.limit; omega, rfl, rfl⟩)
  have hf1 : find (upd P.q.E f { e.q with charged := e.q.charged + ((costN n : Nat) : Int) }) f = some { e with q := { e.q with charged := e.q.charged + ((costN n : Nat) : Int) } } := find_upd_same hf _
  have hids := ok.q.ids
  obtain ⟨q1, hq1⟩ : ∃ q1 : QT, q1 = { P.q with E := upd P.q.E f { e.q with charged := e.q.charged + ((costN n : Nat) : Int) } } := ⟨_, rfl⟩
  rw [← hq1] at s1 ok1
  have hcc := PL.cc s1.sep (n - 1) c hc.2
  rw [show 3 + (n - 1 + 1) = 3 + n by have := hc.1; omega] at hcc
  have hp0 := PL.c0 s1.sep
  have eqt : (P.setQ q1).q.t = P.q.t := by subst hq1; rfl
  rw [eqt] at hp0
  refine ⟨rfl, hp0, hcc, ?_⟩
  refine (ctake_any (PL.sC s1.sep (n - 1) c hc.2) k1 ok1.d k3 (mem_pages ok1 hc.2)).mono ?_
  rintro r w2 (⟨a, c', d', rfl, ht, st2⟩ | ⟨hno, rfl, hb⟩)
  · left
    have s2 : Step (P.setQ q1).hl ((P.setQ q1).setC (n - 1) c' d').hl w1 w2 := PL.stepC s1.sep (n - 1) c c' d' hc.2 ht.ec ht.b st2
    have ok2 := PL.ok_take ok1 hc.2 ht
    have hu := usedOf_set (P.setQ q1) n c c' d' hc n
    rw [if_pos rfl] at hu
    obtain ⟨A, B, u1, u2⟩ := ht.used
    have ham : a ∈ ((P.setQ q1).setC (n - 1) c' d').usedOf n := by rw [hu, u2]; simp
    have hin := used_in_mem ok2 ham
    have s12 := s1.trans s2
    have hp2 := PL.c2 s2.sep
    refine ⟨a, rfl, s2.sep.env, hp2, ?_⟩
    have hmb := mem_bound ok2
    refine (fill_ok (PL.sA s2.sep.drew) a (costN n) 0 hpos hin.1 hmb).mono ?_
    rintro r w3 ⟨rfl, st3⟩
    have s3 := PL.stepA s2.sep.drew _ st3
    have hlen : (put_ P.a.mem a (List.replicate (costN n) 0)).length = P.a.mem.length := put_len _ _ _ (by rw [List.length_replicate]; exact hin.1)
    have ok3 := PL.ok_setA ok2 (m := put_ P.a.mem a (List.replicate (costN n) 0)) hlen (put_bytes ok.bytes 0 (by omega))
    have hp3 := PL.c2 s3.sep
    refine ⟨rfl, hp3, .inl ⟨a, _, rfl, ⟨ok3, rfl, eqt, ht.b, rfl, rfl, ht.top, ⟨e, hf, hq, hq1⟩, rfl, ⟨A, B, ?_, ?_⟩, ?_, ⟨c, c', hc, rfl, ht⟩⟩, s12.trans s3.from_drew⟩⟩
    · rw [usedOf_cls hc]; exact u1
    · show ((P.setQ q1).setC (n - 1) c' d').usedOf n = _
      rw [hu]; exact u2
    · intro j hj
      have := usedOf_set (P.setQ q1) n c c' d' hc j
      rw [if_neg hj] at this
      exact this
  · right
    have s2 := s1.sep.grown hb
    have hp0' := PL.c0 s2.sep
    rw [eqt] at hp0'
    refine ⟨rfl, s2.sep.env, hp0', ?_⟩
    have hrf := qrefund_ok (PL.sQ s2.sep.drew) ok1.q (id := f) (e := { e with q := { e.q with charged := e.q.charged + ((costN n : Nat) : Int) } }) (by subst hq1; exact hf1) _ hn0 (by show _ ≤ e.q.charged + _; omega)
    rw [eqt] at hrf
    refine hrf.mono ?_
    rintro r w3 ⟨rfl, st3⟩
    have eback : ({ (P.setQ q1).q with E := upd (P.setQ q1).q.E f { (({ e with q := { e.q with charged := e.q.charged + ((costN n : Nat) : Int) } } : En Fa)).q with charged := e.q.charged + ((costN n : Nat) : Int) - ((costN n : Nat) : Int) } } : QT) = P.q := by
      subst hq1
      simp only [PL.setQ, upd_upd, Int.add_sub_cancel]
      rw [upd_id hids hf]
    rw [eback] at st3
    have s3 := PL.stepQ s2.sep.drew P.q eqt.symm st3
    have eP : (P.setQ q1).setQ P.q = P := rfl
    rw [eP] at s3
    exact ⟨rfl, PL.c0 s3.sep, .inr ⟨⟨c, hc, hno⟩, rfl, (s1.trans s2).trans s3.from_drew⟩⟩
set_option maxHeartbeats 4000000 in
set_option maxRecDepth 100000 in
theorem pget_paid {w : World} {P : PL} {fr : List Nat} (h : Sep w P.hl) (ok : P.Ok fr) (f : Int) {e : En Fa} (hf : find P.q.E f = some e) (n : Nat) (hq : ((costN n : Nat) : Int) ≤ e.q.limit - (e.q.charged + e.q.given)) (c : CA) (hc : P.Cls n c) :
    Calls Tryd.prog 8 #[.pointer (some ⟨P.p, 0, none⟩), .int .i64 f, .int .i64 (n : Int)] w (GetR P fr f n w) := by
  have hch := get_chain h ok f hf n hq c hc
  obtain ⟨k1, k2, k3, k4⟩ := PL.Cls.facts ok hc
  have hpos : 0 < costN n := costN_pos.2 ⟨hc.1, k4⟩
  have hcI : costI (n : Int) = costN n := by unfold costI; rw [if_pos (by omega), Int.toNat_natCast]
  have HCost : Hid (∀ w1, Env w1 → Calls Tryd.prog 10 #[.int .i64 (n : Int)] w1 fun r w' => r = .returned (.int .i64 ((costN n : Nat) : Int)) ∧ w1 = w') := fun w1 he => by
    have := cost_any he (n : Int)
    rw [hcI] at this
    exact this
  have hcost := HCost.out w h.env
  have hcost2 := HCost.out w.drew h.drew.env
  have c0 := PL.c0 h
  have d0 := PL.c0 h.drew
  have hne : (((costN n : Nat) : Int) == 0) = false := by simp; omega
  have hn8 : (n : Int) < 8 := by omega
  have hn1 : (1 : Int) ≤ n := by have := hc.1; omega
  have HE : Hid (∀ w : World, Env w → Env w.drew) := fun w he => he.same (fun _ _ => rfl) he.gb
  obtain ⟨GR, hGR⟩ : ∃ GR : Ending → World → Prop, GR = GetR P fr f n w := ⟨_, rfl⟩
  rw [← hGR] at hch ⊢
  have HCh := hidden hch
  clear h ok hf hq hc hGR hch hcI k1 k2 k3 k4 hpos
  unfold ptr at *
  generalize ((costN n : Nat) : Int) = cst at *
  generalize P.p = pp at *
  generalize P.q.t = qt at *
  generalize P.a.a = aa at *
  generalize c.c = cc at *
  go_enter Tryd.func8, Tryd.ntmps8
  go_wp2_with (go_at_call 10; refine hcost.mono ?_; rintro e w' ⟨rfl, rfl⟩)
  go_region_held3 (fun w' => w'.cell? ⟨pp, 0, none⟩ = some (.pointer (some ⟨qt, 0, none⟩))) (first | exact c0 | exact d0 | exact e1)
    (first | (go_at_call 10; refine hcost2.mono ?_; rintro e w' ⟨rfl, rfl⟩) | (go_at_call 29; refine HCh.out.mono ?_; rintro r w1 ⟨rfl, e1, e2, hx⟩; have HT := hidden hx; clear hx))
  clear c0 d0 hcost hcost2
  go_wp2_with fail
  refine HT.out.mono ?_
  rintro r w2 (⟨a, rfl, he, e3, hx⟩ | ⟨rfl, he, e3, hx⟩)
  · have HX := hidden hx
    have hcost3 := HCost.out w2.drew (HE.out _ he)
    have d3 : w2.drew.cell? ⟨pp, 2, none⟩ = some (.pointer (some ⟨aa, 0, none⟩)) := e3
    clear hx he e1 e2
    go_wp2_with fail
    go_region_held3 (fun w' => w'.cell? ⟨pp, 2, none⟩ = some (.pointer (some ⟨aa, 0, none⟩))) (first | exact e3 | exact d3 | exact e4)
      (first | (go_at_call 10; refine hcost3.mono ?_; rintro e w' ⟨rfl, rfl⟩) | (go_at_call 19; refine HX.out.mono ?_; rintro r w3 ⟨rfl, e4, hy⟩; have HY := hidden hy; clear hy))
    go_wp2_with fail
    first | exact HY.out | (go_ret2; exact HY.out)
  · have HX := hidden hx
    have hcost3 := HCost.out w2.drew (HE.out _ he)
    have d3 : w2.drew.cell? ⟨pp, 0, none⟩ = some (.pointer (some ⟨qt, 0, none⟩)) := e3
    clear hx he e1 e2
    go_wp2_with fail
    go_region_held3 (fun w' => w'.cell? ⟨pp, 0, none⟩ = some (.pointer (some ⟨qt, 0, none⟩))) (first | exact e3 | exact d3 | exact e4)
      (first | (go_at_call 10; refine hcost3.mono ?_; rintro e w' ⟨rfl, rfl⟩) | (go_at_call 31; refine HX.out.mono ?_; rintro r w3 ⟨rfl, e4, hy⟩; have HY := hidden hy; clear hy))
    go_wp2_with fail
    first | exact HY.out | (go_ret2; exact HY.out)
end Go.Proofs.YtfefdleadocpmaaDoor

/- Walks of the pool's Has and Put. Conditions: the blocks hold what PL.hl says. -/
namespace Go.Proofs.YtfefdleadocpmaaDoor
open Go.RowKit

/-- Get, whatever it is asked for. -/
def GetP (P : PL) (fr : List Nat) (f k : Int) (w : World) (r : Ending) (w' : World) : Prop :=
  (costI k = 0 ∧ r = .returned (.tuple #[.int .i64 0, .int .i64 1]) ∧ Step P.hl P.hl w w') ∨
  (costI k ≠ 0 ∧ find P.q.E f = none ∧ r = .returned (.tuple #[.int .i64 0, .int .i64 6]) ∧ Step P.hl P.hl w w') ∨
  (costI k ≠ 0 ∧ (∃ e, find P.q.E f = some e ∧ e.q.limit - (e.q.charged + e.q.given) < ((costI k : Nat) : Int)) ∧ r = .returned (.tuple #[.int .i64 0, .int .i64 5]) ∧ Step P.hl P.hl w w') ∨
  (∃ n e, k = ((n : Nat) : Int) ∧ 1 ≤ n ∧ n ≤ 7 ∧ find P.q.E f = some e ∧ ((costN n : Nat) : Int) ≤ e.q.limit - (e.q.charged + e.q.given) ∧ GetR P fr f n w r w')
theorem costI_nat {k : Int} (h : costI k ≠ 0) : ∃ n : Nat, k = n ∧ 1 ≤ n ∧ n ≤ 7 ∧ costI k = costN n := by
  have h0 : 0 ≤ k := by unfold costI at h; split at h <;> omega
  obtain ⟨n, rfl⟩ := Int.eq_ofNat_of_zero_le h0
  have e : costI (n : Int) = costN n := by unfold costI; rw [if_pos h0, Int.toNat_natCast]
  rw [e] at h
  obtain ⟨h1, h7⟩ := costN_pos.1 (Nat.pos_of_ne_zero h)
  exact ⟨n, rfl, h1, h7, e⟩
theorem pget_any {w : World} {P : PL} {fr : List Nat} (h : Sep w P.hl) (ok : P.Ok fr) (f k : Int) :
    Calls Tryd.prog 8 #[.pointer (some ⟨P.p, 0, none⟩), .int .i64 f, .int .i64 k] w (GetP P fr f k w) := by
  by_cases hk : costI k = 0
  · refine (pget_arg h f k hk).mono ?_
    rintro r w' ⟨rfl, rfl⟩
    exact .inl ⟨hk, rfl, Step.refl h⟩
  · cases hf : find P.q.E f with
    | none =>
      refine (pget_err h f k hk 6 (.inr rfl) ((qcharge_none (PL.sQ h.drew) hf _).mono fun r w' ⟨e, e'⟩ => ⟨e, by rw [← e']; exact Below.refl _ _⟩)).mono ?_
      rintro r w' ⟨rfl, hb⟩
      exact .inr (.inl ⟨hk, hf, rfl, h.grown hb⟩)
    | some e =>
      by_cases hq : ((costI k : Nat) : Int) ≤ e.q.limit - (e.q.charged + e.q.given)
      · obtain ⟨n, rfl, h1, h7, hn⟩ := costI_nat hk
        rw [hn] at hq
        obtain ⟨c, hc⟩ := PL.cls ok h1 h7
        refine (pget_paid h ok f hf n hq c hc).mono ?_
        intro r w' hr
        exact .inr (.inr (.inr ⟨n, e, rfl, h1, h7, hf, hq, hr⟩))
      · refine (pget_err h f k hk 5 (.inl rfl) (qcharge_quota (PL.sQ h.drew) ok.q hf _ (by omega) (by omega))).mono ?_
        rintro r w' ⟨rfl, hb⟩
        exact .inr (.inr (.inl ⟨hk, ⟨e, hf, by omega⟩, rfl, h.grown hb⟩))
set_option maxHeartbeats 400000 in
theorem chas_neg {w : World} (c : CA) (a : Int) (ha : a < 0) : Calls Tryd.prog 40 #[.pointer (some ⟨c.c, 0, none⟩), .int .i64 a] w (Told w (.bool false)) := by
  have k1 := spot_neg (w := w) c a ha
  unfold spotT at k1
  have HB : Hid (Told w (.bool false) (.returned (.bool false)) w) := ⟨rfl, Below.refl _ _⟩
  go_enter Tryd.func40, Tryd.ntmps40
  go_wp2_with (go_at_call 52; refine k1.mono ?_; rintro e w' ⟨rfl, rfl⟩)
  go_ret
  exact HB.out
/-- An address is below this, where the walks go. -/
def Small (a : Int) : Prop := a < 4611686018427387904
theorem chas_any {w : World} {c : CA} (h : Sep w c.hl) (ok : c.Ok) (a : Int) (ha : Small a) : Calls Tryd.prog 40 #[.pointer (some ⟨c.c, 0, none⟩), .int .i64 a] w (Told w (.bool (decide (0 ≤ a ∧ a.toNat ∈ c.used)))) := by
  unfold Small at ha
  by_cases h0 : a < 0
  · have : decide (0 ≤ a ∧ a.toNat ∈ c.used) = false := by rw [decide_eq_false_iff_not]; omega
    rw [this]
    exact chas_neg c a h0
  · obtain ⟨n, rfl⟩ := Int.eq_ofNat_of_zero_le (by omega : 0 ≤ a)
    have := has_any h ok n (by omega)
    rw [spot_mem ok n] at this
    have e : decide (n ∈ c.used) = decide (0 ≤ (n : Int) ∧ (n : Int).toNat ∈ c.used) := by
      rw [Int.toNat_natCast]; congr 1; apply propext; exact ⟨fun h => ⟨by omega, h⟩, fun h => h.2⟩
    rw [← e]
    exact this
/-- Is an address where a used place of the class begins? -/
def PL.has (P : PL) (k a : Int) : Bool := decide (0 ≤ a ∧ a.toNat ∈ P.usedI k)
set_option maxHeartbeats 1000000 in
theorem phas_any {w : World} {P : PL} {fr : List Nat} (h : Sep w P.hl) (ok : P.Ok fr) (k a : Int) (ha : Small a) : Calls Tryd.prog 22 #[.pointer (some ⟨P.p, 0, none⟩), .int .i64 k, .int .i64 a] w (Told w (.bool (P.has k a))) := by
  have hcost := cost_any h.env k
  by_cases hz : costI k = 0
  · have e : P.has k a = false := by
      unfold PL.has PL.usedI
      rw [decide_eq_false_iff_not]
      rintro ⟨_, hm⟩
      split at hm
      · rename_i h0
        unfold costI at hz
        rw [if_pos h0] at hz
        rw [usedOf_big ok hz] at hm
        cases hm
      · cases hm
    rw [e, ]
    have HB : Hid (Told w (.bool false) (.returned (.bool false)) w) := ⟨rfl, Below.refl _ _⟩
    rw [hz] at hcost
    clear h ok hz e
    go_enter Tryd.func22, Tryd.ntmps22
    go_wp2_with (go_at_call 10; refine hcost.mono ?_; rintro e w' ⟨rfl, rfl⟩)
    go_ret
    exact HB.out
  · obtain ⟨n, rfl, h1, h7, hn⟩ := costI_nat hz
    obtain ⟨c, hc⟩ := PL.cls ok h1 h7
    have hcell := PL.cc h (n - 1) c hc.2
    rw [show 3 + (n - 1 + 1) = 3 + n by omega] at hcell
    have hu := chas_any (PL.sC h (n - 1) c hc.2).left (hc.facts ok).1 a ha
    have e : P.has (n : Int) a = decide (0 ≤ a ∧ a.toNat ∈ c.used) := by
      unfold PL.has PL.usedI; rw [if_pos (by omega : (0 : Int) ≤ (n : Int)), Int.toNat_natCast, usedOf_cls hc]
    rw [e]
    have hpos : (0 : Int) < ((costI (n : Int) : Nat) : Int) := by omega
    have hn8 : (n : Int) < 8 := by omega
    have hn0 : (0 : Int) ≤ n := by omega
    generalize decide (0 ≤ a ∧ a.toNat ∈ c.used) = b at *
    clear h ok hz e hc ha hn
    have HQ : Hid (∀ r w', Told w (.bool b) r w' → r = .returned (.bool b) ∧ Told w (.bool b) (.returned (.bool b)) w') := fun r w' hx => ⟨hx.1, rfl, hx.2⟩
    unfold ptr at *
    generalize ((costI (n : Int) : Nat) : Int) = cst at *
    go_enter Tryd.func22, Tryd.ntmps22
    go_wp2_with (first | (go_at_call 10; refine hcost.mono ?_; rintro e w' ⟨rfl, rfl⟩) | (go_at_call 40; refine hu.mono ?_; intro r w' hx; obtain ⟨rfl, hy⟩ := HQ.out _ _ hx; have HY := hidden hy; clear hx hy))
    first | exact HY.out | (go_ret; exact HY.out)
set_option maxHeartbeats 400000 in
theorem pput_arg {w : World} {P : PL} (h : Sep w P.hl) (f k a : Int) (hk : costI k = 0) : Calls Tryd.prog 9 #[.pointer (some ⟨P.p, 0, none⟩), .int .i64 f, .int .i64 k, .int .i64 a] w fun r w' => r = .returned (.int .i64 1) ∧ w = w' := by
  have hcost := cost_any h.env k
  rw [hk] at hcost
  clear h hk
  go_enter Tryd.func9, Tryd.ntmps9
  go_wp2_with (go_at_call 10; refine hcost.mono ?_; rintro e w' ⟨rfl, rfl⟩)
  go_ret
  exact ⟨rfl, rfl⟩
set_option maxHeartbeats 1000000 in
theorem pput_none {w : World} {P : PL} {fr : List Nat} (h : Sep w P.hl) (ok : P.Ok fr) (f k a : Int) (hk : costI k ≠ 0) (ha : Small a) (hno : P.has k a = false) : Calls Tryd.prog 9 #[.pointer (some ⟨P.p, 0, none⟩), .int .i64 f, .int .i64 k, .int .i64 a] w (Told w (.int .i64 6)) := by
  have hcost := cost_any h.env k
  have hh := phas_any h ok k a ha
  rw [hno] at hh
  have hne : (((costI k : Nat) : Int) == 0) = false := by simpa using hk
  have HQ : Hid (∀ r w', Told w (.bool false) r w' → r = .returned (.bool false) ∧ Told w (.int .i64 6) (.returned (.int .i64 6)) w') := fun r w' hx => ⟨hx.1, rfl, hx.2⟩
  clear h ok hk hno ha
  generalize ((costI k : Nat) : Int) = cst at *
  go_enter Tryd.func9, Tryd.ntmps9
  go_wp2_with (first | (go_at_call 10; refine hcost.mono ?_; rintro e w' ⟨rfl, rfl⟩) | (go_at_call 22; refine hh.mono ?_; intro r w' hx; obtain ⟨rfl, hy⟩ := HQ.out _ _ hx; have HY := hidden hy; clear hx hy))
  first | exact HY.out | (go_ret; exact HY.out)
end Go.Proofs.YtfefdleadocpmaaDoor

/- The walk of the pool's Put where there is such a place. Conditions: the blocks hold what PL.hl says. -/
namespace Go.Proofs.YtfefdleadocpmaaDoor
open Go.RowKit

set_option maxHeartbeats 1000000 in
theorem pput_err {w : World} {P : PL} {fr : List Nat} (h : Sep w P.hl) (ok : P.Ok fr) (f k a : Int) (hk : costI k ≠ 0) (ha : Small a) (hyes : P.has k a = true) (e0 : Int) (he : e0 = 1 ∨ e0 = 6)
    (hch : ∀ w1, Below w.heap.size w w1 → Calls Tryd.prog 31 #[ptr P.q.t, .int .i64 f, .int .i64 ((costI k : Nat) : Int)] w1.drew fun r w' => r = .returned (.int .i64 e0) ∧ w1.drew = w') :
    Calls Tryd.prog 9 #[.pointer (some ⟨P.p, 0, none⟩), .int .i64 f, .int .i64 k, .int .i64 a] w (Told w (.int .i64 e0)) := by
  have hcost := cost_any h.env k
  have hh := phas_any h ok k a ha
  rw [hyes] at hh
  have hne : (((costI k : Nat) : Int) == 0) = false := by simpa using hk
  have HQ : Hid (∀ r w1, Told w (.bool true) r w1 → r = .returned (.bool true) ∧ w1.cell? ⟨P.p, 0, none⟩ = some (ptr P.q.t) ∧ Told w (.int .i64 e0) (.returned (.int .i64 e0)) w1.drew ∧
      (Calls Tryd.prog 10 #[.int .i64 k] w1.drew fun r w' => r = .returned (.int .i64 ((costI k : Nat) : Int)) ∧ w1.drew = w') ∧
      Calls Tryd.prog 31 #[ptr P.q.t, .int .i64 f, .int .i64 ((costI k : Nat) : Int)] w1.drew fun r w' => r = .returned (.int .i64 e0) ∧ w1.drew = w') := fun r w1 hx =>
    ⟨hx.1, PL.c0 (h.grown hx.2).sep, ⟨rfl, hx.2.drew⟩, cost_any (h.grown hx.2).sep.drew.env k, hch w1 hx.2⟩
  clear h ok hk hyes ha hch
  unfold ptr at *
  generalize ((costI k : Nat) : Int) = cst at *
  rcases he with rfl | rfl
  all_goals
    go_enter Tryd.func9, Tryd.ntmps9
    go_wp2_with (go_at_call 10; refine hcost.mono ?_; rintro e w' ⟨rfl, rfl⟩)
    refine hh.mono ?_
    intro r w1 hx
    obtain ⟨rfl, c0, hy, hc2, hr2⟩ := HQ.out _ _ hx
    have HY := hidden hy
    have HC2 := hidden hc2
    have HR2 := hidden hr2
    have d0 : w1.drew.cell? ⟨P.p, 0, none⟩ = some (.pointer (some ⟨P.q.t, 0, none⟩)) := c0
    clear hx hy hc2 hr2
    go_wp2_with fail
    go_region_held3 (fun w' => w'.cell? ⟨P.p, 0, none⟩ = some (.pointer (some ⟨P.q.t, 0, none⟩))) (first | exact c0 | exact d0)
      (first | (go_at_call 10; refine HC2.out.mono ?_; rintro e w' ⟨rfl, rfl⟩) | (go_at_call 31; refine HR2.out.mono ?_; rintro e w' ⟨rfl, rfl⟩))
    go_wp2_with fail
    first | exact HY.out | (go_ret; exact HY.out)
/-- What a Put that is OK leaves. -/
structure PutOk (P : PL) (fr : List Nat) (f : Int) (n a : Nat) (P' : PL) : Prop where
  ok : P'.Ok fr
  p : P'.p = P.p
  qt : P'.q.t = P.q.t
  db : P'.d.b = P.d.b
  aa : P'.a = P.a
  top : P'.d.top = P.d.top
  q : ∃ e, find P.q.E f = some e ∧ ((costN n : Nat) : Int) ≤ e.q.charged ∧ P'.q = { P.q with E := upd P.q.E f { e.q with charged := e.q.charged - ((costN n : Nat) : Int) } }
  used : ∃ A B, P.usedOf n = A ++ a :: B ∧ P'.usedOf n = A ++ B
  other : ∀ j, j ≠ n → P'.usedOf j = P.usedOf j
  which : ∃ c c', P.Cls n c ∧ P'.cs = P.cs.set (n - 1) c' ∧ GiveOk c P.d a c' P'.d
def PutR (P : PL) (fr : List Nat) (f : Int) (n a : Nat) (w : World) (r : Ending) (w' : World) : Prop := r = .returned (.int .i64 0) ∧ ∃ P', PutOk P fr f n a P' ∧ Step P.hl P'.hl w w'
theorem put_chain {w w1 : World} {P : PL} {fr : List Nat} (h : Sep w P.hl) (hb : Below w.heap.size w w1) (ok : P.Ok fr) (f : Int) {e : En Fa} (hf : find P.q.E f = some e) (n : Nat) (hq : ((costN n : Nat) : Int) ≤ e.q.charged) (c : CA) (hc : P.Cls n c) (a : Nat) (hm : a ∈ c.used) (hal : a < 4611686018427387904) :
    Calls Tryd.prog 31 #[ptr P.q.t, .int .i64 f, .int .i64 ((costN n : Nat) : Int)] w1.drew fun r w2 => r = .returned (.int .i64 0) ∧ w2.cell? ⟨P.p, 0, none⟩ = some (ptr P.q.t) ∧ w2.cell? ⟨P.p, 3 + n, none⟩ = some (ptr c.c) ∧
      Calls Tryd.prog 32 #[ptr c.c, .int .i64 (a : Int)] w2 (PutR P fr f n a w) := by
  have s0 := h.grown hb
  obtain ⟨k1, k2, k3, k4⟩ := PL.Cls.facts ok hc
  obtain ⟨f1, f2, f3, f4, f5, f6, f7, f8⟩ := ok.q.fa f e hf
  have hn0 : (0 : Int) ≤ ((costN n : Nat) : Int) := by omega
  refine (qrefund_ok (PL.sQ s0.sep.drew) ok.q hf _ hn0 hq).mono ?_
  rintro r w2 ⟨rfl, st1⟩
  have s1 : Step P.hl (P.setQ { P.q with E := upd P.q.E f { e.q with charged := e.q.charged - ((costN n : Nat) : Int) } }).hl w w2 := s0.trans (PL.stepQ s0.sep.drew { P.q with E := upd P.q.E f { e.q with charged := e.q.charged - ((costN n : Nat) : Int) } } rfl st1).from_drew
  have ok1 := PL.ok_setQ ok (ok_charge ok.q hf { e.q with charged := e.q.charged - ((costN n : Nat) : Int) } ⟨by show 0 ≤ e.q.charged - _; omega, f2, by show e.q.charged - _ + e.q.given ≤ e.q.limit; omega, rfl, rfl⟩)
  obtain ⟨q1, hq1⟩ : ∃ q1 : QT, q1 = { P.q with E := upd P.q.E f { e.q with charged := e.q.charged - ((costN n : Nat) : Int) } } := ⟨_, rfl⟩
  rw [← hq1] at s1 ok1
  have hcc := PL.cc s1.sep (n - 1) c hc.2
  rw [show 3 + (n - 1 + 1) = 3 + n by have := hc.1; omega] at hcc
  have hp0 := PL.c0 s1.sep
  have eqt : (P.setQ q1).q.t = P.q.t := by subst hq1; rfl
  rw [eqt] at hp0
  refine ⟨rfl, hp0, hcc, ?_⟩
  refine (cgive_any (PL.sC s1.sep (n - 1) c hc.2) k1 ok1.d k3 (mem_pages ok1 hc.2) a hm hal).mono ?_
  rintro r w3 ⟨rfl, c', d', hg, st2⟩
  have s2 : Step (P.setQ q1).hl ((P.setQ q1).setC (n - 1) c' d').hl w2 w3 := PL.stepC s1.sep (n - 1) c c' d' hc.2 hg.ec hg.b st2
  have ok2 := PL.ok_give ok1 hc.2 hg
  have hu := usedOf_set (P.setQ q1) n c c' d' hc n
  rw [if_pos rfl] at hu
  obtain ⟨A, B, u1, u2⟩ := hg.used
  refine ⟨rfl, _, ⟨ok2, rfl, eqt, hg.b, rfl, hg.top, ⟨e, hf, hq, hq1⟩, ⟨A, B, ?_, ?_⟩, ?_, ⟨c, c', hc, rfl, hg⟩⟩, s1.trans s2⟩
  · rw [usedOf_cls hc]; exact u1
  · rw [hu]; exact u2
  · intro j hj
    have := usedOf_set (P.setQ q1) n c c' d' hc j
    rw [if_neg hj] at this
    exact this
set_option maxHeartbeats 4000000 in
set_option maxRecDepth 100000 in
theorem pput_paid {w : World} {P : PL} {fr : List Nat} (h : Sep w P.hl) (ok : P.Ok fr) (f : Int) {e : En Fa} (hf : find P.q.E f = some e) (n : Nat) (hq : ((costN n : Nat) : Int) ≤ e.q.charged) (c : CA) (hc : P.Cls n c) (a : Nat) (hm : a ∈ c.used) (hal : a < 4611686018427387904) :
    Calls Tryd.prog 9 #[.pointer (some ⟨P.p, 0, none⟩), .int .i64 f, .int .i64 (n : Int), .int .i64 (a : Int)] w (PutR P fr f n a w) := by
  obtain ⟨k1, k2, k3, k4⟩ := PL.Cls.facts ok hc
  have hpos : 0 < costN n := costN_pos.2 ⟨hc.1, k4⟩
  have hcI : costI (n : Int) = costN n := by unfold costI; rw [if_pos (by omega), Int.toNat_natCast]
  have hyes : P.has (n : Int) (a : Int) = true := by
    unfold PL.has PL.usedI
    rw [if_pos (by omega : (0 : Int) ≤ (n : Int)), Int.toNat_natCast, Int.toNat_natCast, usedOf_cls hc, decide_eq_true_eq]
    exact ⟨by omega, hm⟩
  have hcost := cost_any h.env (n : Int)
  rw [hcI] at hcost
  have hh := phas_any h ok (n : Int) (a : Int) (by unfold Small; omega)
  rw [hyes] at hh
  have hne : (((costN n : Nat) : Int) == 0) = false := by simp; omega
  have hn8 : (n : Int) < 8 := by omega
  have hn1 : (1 : Int) ≤ n := by have := hc.1; omega
  obtain ⟨PR, hPR⟩ : ∃ PR : Ending → World → Prop, PR = PutR P fr f n a w := ⟨_, rfl⟩
  have HQ : Hid (∀ r w1, Told w (.bool true) r w1 → r = .returned (.bool true) ∧ w1.cell? ⟨P.p, 0, none⟩ = some (ptr P.q.t) ∧
      (Calls Tryd.prog 10 #[.int .i64 (n : Int)] w1.drew fun r w' => r = .returned (.int .i64 ((costN n : Nat) : Int)) ∧ w1.drew = w') ∧
      Calls Tryd.prog 31 #[ptr P.q.t, .int .i64 f, .int .i64 ((costN n : Nat) : Int)] w1.drew fun r w2 => r = .returned (.int .i64 0) ∧ w2.cell? ⟨P.p, 0, none⟩ = some (ptr P.q.t) ∧ w2.cell? ⟨P.p, 3 + n, none⟩ = some (ptr c.c) ∧
        Calls Tryd.prog 32 #[ptr c.c, .int .i64 (a : Int)] w2 PR) := fun r w1 hx => by
    subst hPR
    have hcc := cost_any (h.grown hx.2).sep.drew.env (n : Int)
    rw [hcI] at hcc
    exact ⟨hx.1, PL.c0 (h.grown hx.2).sep, hcc, put_chain h hx.2 ok f hf n hq c hc a hm hal⟩
  have HZ : Hid (∀ r w', PR r w' → ∃ w'', r = .returned (.int .i64 0) ∧ w' = w'' ∧ PR (.returned (.int .i64 0)) w'') := fun r w' hx => by subst hPR; obtain ⟨rfl, hy⟩ := hx; exact ⟨w', rfl, rfl, rfl, hy⟩
  rw [← hPR]
  clear h ok hf hq hc hPR hcI k1 k2 k3 k4 hpos hyes hm hal
  unfold ptr at *
  generalize ((costN n : Nat) : Int) = cst at *
  generalize P.p = pp at *
  generalize P.q.t = qt at *
  generalize c.c = cc at *
  go_enter Tryd.func9, Tryd.ntmps9
  go_wp2_with (go_at_call 10; refine hcost.mono ?_; rintro e w' ⟨rfl, rfl⟩)
  refine hh.mono ?_
  intro r w1 hx
  obtain ⟨rfl, c0, hc2, hr2⟩ := HQ.out _ _ hx
  have HC2 := hidden hc2
  have HR2 := hidden hr2
  have d0 : w1.drew.cell? ⟨pp, 0, none⟩ = some (.pointer (some ⟨qt, 0, none⟩)) := c0
  clear hx hc2 hr2
  go_wp2_with fail
  go_region_held3 (fun w' => w'.cell? ⟨pp, 0, none⟩ = some (.pointer (some ⟨qt, 0, none⟩))) (first | exact c0 | exact d0 | exact e1)
    (first | (go_at_call 10; refine HC2.out.mono ?_; rintro e w' ⟨rfl, rfl⟩) | (go_at_call 31; refine HR2.out.mono ?_; rintro r w2 ⟨rfl, e1, e2, hx⟩; have HT := hidden hx; clear hx))
  clear c0 d0
  go_wp2_with fail
  refine HT.out.mono ?_
  intro r w3 hx
  obtain ⟨w3', rfl, rfl, hy⟩ := HZ.out _ _ hx
  have HY := hidden hy
  clear hx hy
  go_wp2_with fail
  first | exact HY.out | (go_ret; exact HY.out)
/-- Put, whatever it is asked for. -/
def PutP (P : PL) (fr : List Nat) (f k a : Int) (w : World) (r : Ending) (w' : World) : Prop :=
  (costI k = 0 ∧ r = .returned (.int .i64 1) ∧ Step P.hl P.hl w w') ∨
  (costI k ≠ 0 ∧ P.has k a = false ∧ r = .returned (.int .i64 6) ∧ Step P.hl P.hl w w') ∨
  (costI k ≠ 0 ∧ P.has k a = true ∧ find P.q.E f = none ∧ r = .returned (.int .i64 6) ∧ Step P.hl P.hl w w') ∨
  (costI k ≠ 0 ∧ P.has k a = true ∧ (∃ e, find P.q.E f = some e ∧ e.q.charged < ((costI k : Nat) : Int)) ∧ r = .returned (.int .i64 1) ∧ Step P.hl P.hl w w') ∨
  (∃ (n m : Nat) (e : En Fa), k = (n : Int) ∧ a = (m : Int) ∧ 1 ≤ n ∧ n ≤ 7 ∧ m ∈ P.usedOf n ∧ find P.q.E f = some e ∧ ((costN n : Nat) : Int) ≤ e.q.charged ∧ PutR P fr f n m w r w')
theorem pput_any {w : World} {P : PL} {fr : List Nat} (h : Sep w P.hl) (ok : P.Ok fr) (f k a : Int) (ha : Small a) :
    Calls Tryd.prog 9 #[.pointer (some ⟨P.p, 0, none⟩), .int .i64 f, .int .i64 k, .int .i64 a] w (PutP P fr f k a w) := by
  by_cases hk : costI k = 0
  · refine (pput_arg h f k a hk).mono ?_
    rintro r w' ⟨rfl, rfl⟩
    exact .inl ⟨hk, rfl, Step.refl h⟩
  · cases hh : P.has k a with
    | false =>
      refine (pput_none h ok f k a hk ha hh).mono ?_
      rintro r w' ⟨rfl, hb⟩
      exact .inr (.inl ⟨hk, hh, rfl, h.grown hb⟩)
    | true =>
      cases hf : find P.q.E f with
      | none =>
        refine (pput_err h ok f k a hk ha hh 6 (.inr rfl) fun w1 hb => qrefund_none (PL.sQ (h.grown hb).sep.drew) hf _).mono ?_
        rintro r w' ⟨rfl, hb⟩
        exact .inr (.inr (.inl ⟨hk, hh, hf, rfl, h.grown hb⟩))
      | some e =>
        by_cases hq : ((costI k : Nat) : Int) ≤ e.q.charged
        · obtain ⟨n, rfl, h1, h7, hn⟩ := costI_nat hk
          rw [hn] at hq
          obtain ⟨c, hc⟩ := PL.cls ok h1 h7
          have hm := hh
          unfold PL.has PL.usedI at hm
          rw [decide_eq_true_eq, if_pos (by omega : (0 : Int) ≤ (n : Int)), Int.toNat_natCast] at hm
          obtain ⟨h0, hm⟩ := hm
          obtain ⟨m, rfl⟩ := Int.eq_ofNat_of_zero_le h0
          rw [Int.toNat_natCast] at hm
          have hm2 := hm
          rw [usedOf_cls hc] at hm2
          refine (pput_paid h ok f hf n hq c hc m hm2 (by unfold Small at ha; omega)).mono ?_
          intro r w' hr
          exact .inr (.inr (.inr (.inr ⟨n, m, e, rfl, rfl, h1, h7, hm, hf, hq, hr⟩)))
        · refine (pput_err h ok f k a hk ha hh 1 (.inl rfl) fun w1 hb => qrefund_arg (PL.sQ (h.grown hb).sep.drew) hf _ (by omega) (by omega)).mono ?_
          rintro r w' ⟨rfl, hb⟩
          exact .inr (.inr (.inr (.inl ⟨hk, hh, ⟨e, hf, by omega⟩, rfl, h.grown hb⟩)))
end Go.Proofs.YtfefdleadocpmaaDoor

/- Walk of the tree of factories' New. No condition. -/
namespace Go.Proofs.YtfefdleadocpmaaDoor
open Go.RowKit

theorem wpList_insert_int {P : Program} (w : World) {ops : Array Oper} {rest : List Oper} {o : Oper} {a : Act} {Q : Exit → Act → World → Prop}
    (hg : o.guard = none) (m k x : Operand) (t K V : TypeId) (hop : o.op = .insert t m k x) (hT : P.underlying t = some (.map K V)) (hK : P.underlying K = some (.int .i64))
    (b : Nat) (kv : List (Int × Value)) (h : MapInt w b kv) (id : Int) (u : Value) (hm : a.eval m = .map (some b)) (hk : a.eval k = .int .i64 id) (hx : a.eval x = u)
    (hK' : ∀ w', MapInt w' b (put kv id u) → w.grownBy w' (some b) → wpList P ops Q rest (a.put o.dst undef) w') : wpList P ops Q (o :: rest) a w := by
  refine wpList_plain hg fun K' hK'' => ?_
  obtain ⟨w', hrun, r1, r2⟩ := run_mapUpdate_int (P := P) h id u hT hK
  unfold Oper.wp
  simp [execOp, hop, hm, hk, hx, hrun, Result.andThen]
  exact hK'' _ _ (hK' w' r1 r2)
def newQT (t m b : Nat) (limit : Int) : QT := ⟨t, m, [⟨0, b, ⟨limit, 0, 0, -1, 0⟩⟩], 1⟩
theorem newQT_ok (t m b : Nat) (limit : Int) (h0 : 0 ≤ limit) (h1 : limit ≤ 1073741824) : (newQT t m b limit).Ok := by
  refine ⟨by simp [newQT], by simp [newQT], by simp [newQT], fun id e he => ?_⟩
  simp only [newQT, find] at he
  by_cases h : id = 0
  · simp [h] at he; subst he; subst h; simp [newQT]; omega
  · simp [h] at he
def NewQ (limit : Int) (H : HL) (w : World) (r : Ending) (w' : World) : Prop := ∃ t m b, r = .returned (.pointer (some ⟨t, 0, none⟩)) ∧ Step H ((newQT t m b limit).hl ++ H) w w'
set_option maxHeartbeats 1000000 in
set_option maxRecDepth 100000 in
theorem qnew_any {w : World} {H : HL} (h : Sep w H) (limit : Int) (h0 : 0 ≤ limit) (h1 : limit ≤ 1073741824) : Calls Tryd.prog 24 #[.int .i64 limit] w (NewQ limit H w) := by
  have HR : Hid (∀ w1, MapInt w1 w.heap.size [(0, .pointer (some ⟨w.heap.size + 1, 0, none⟩))] → ((w.alloc (.map #[] 0)).alloc (.cells #[.int .i64 limit, .int .i64 0, .int .i64 0, .int .i64 (-1), .int .i64 0] 75)).grownBy w1 (some w.heap.size) →
      NewQ limit H w (.returned (.pointer (some ⟨w1.heap.size, 0, none⟩))) (w1.alloc (.cells #[.map (some w.heap.size), .int .i64 1] 91))) := fun w1 hm hg => by
    have s1 := h.newMap
    have s2 := s1.sep.new 75 [.int .i64 limit, .int .i64 0, .int .i64 0, .int .i64 (-1), .int .i64 0]
    have e1 : (w.alloc (.map #[] 0)).heap.size = w.heap.size + 1 := by simp
    rw [e1] at s2
    obtain ⟨es, clock, ho, hr⟩ := hm
    have s3 := Sep.turn (A := [(w.heap.size + 1, isC 75 [.int .i64 limit, .int .i64 0, .int .i64 0, .int .i64 (-1), .int .i64 0])]) (q' := isMI [(0, .pointer (some ⟨w.heap.size + 1, 0, none⟩))]) s2.sep hg ⟨_, ho, es, clock, rfl, hr⟩
    have s4 := s3.sep.new 91 [.map (some w.heap.size), .int .i64 1]
    refine ⟨w1.heap.size, w.heap.size, w.heap.size + 1, rfl, ?_⟩
    have := ((s1.trans s2).trans s3).trans s4
    refine this.perm (List.Perm.refl _) ?_
    simp only [newQT, QT.hl, facH, kvs, List.map_cons, List.map_nil, List.cons_append, List.nil_append, Fa.cells, ptr]
    refine List.Perm.cons _ ?_
    exact List.Perm.swap _ _ _
  have hM : MapInt ((w.alloc (.map #[] 0)).alloc (.cells #[.int .i64 limit, .int .i64 0, .int .i64 0, .int .i64 (-1), .int .i64 0] 75)) w.heap.size [] := (MapIs.new w).alloc _
  have hmm := @run_makeMap Tryd.prog
  clear h
  go_enter Tryd.func24, Tryd.ntmps24
  go_wp2_with (refine wpList_insert_int _ rfl _ _ _ 89 3 69 rfl Tryd.underlying89 Tryd.underlying3 w.heap.size [] hM 0 (.pointer (some ⟨w.heap.size + 1, 0, none⟩)) rfl rfl rfl ?_; intro w1 hm1 hg1; have HR1 := hidden (HR.out w1 hm1 hg1); clear hm1 hg1)
  go_ret
  exact HR1.out
end Go.Proofs.YtfefdleadocpmaaDoor

/- Walk of the allocator's New. Condition: the size is a power of two in its bounds. -/
namespace Go.Proofs.YtfefdleadocpmaaDoor
open Go.RowKit

set_option maxHeartbeats 400000 in
theorem tz_pow {w : World} (hT : TabB w) (k : Nat) (hk : k < 64) :
    Calls Tryd.prog 42 #[.int .u64 ((2 ^ k : Nat) : Int)] w fun r w' => r = .returned (.int .i64 k) ∧ w = w' := by
  have k1 := tz64_any hT (fun j => j == k) k hk (by simp) (fun j hj => by simp; omega)
  rw [word_pow k hk] at k1
  clear hT
  have b2 : 2 ^ k < 18446744073709551616 := by
    have := Nat.pow_lt_pow_right (a := 2) (by omega) hk
    exact Nat.lt_of_lt_of_le this (by decide)
  generalize 2 ^ k = n at *
  go_enter Tryd.func42, Tryd.ntmps42
  go_wp2_with (go_at_call 59; refine k1.mono ?_; rintro e w' ⟨rfl, rfl⟩)
  go_ret
  exact ⟨rfl, rfl⟩
def NewBD (top : Nat) (H : HL) (w : World) (r : Ending) (w' : World) : Prop := ∃ d : BD, r = .returned (.pointer (some ⟨d.b, 0, none⟩)) ∧ d.top = top ∧ d.ps = [] ∧ d.At ∧ Step H (d.hl ++ H) w w'
/-- One more bitmap. -/
theorem BD.snoc {w w1 : World} {H : HL} {d : BD} (h : Sep w (d.hl ++ H)) (hl : d.bms.length < 21) (m : BM) (hs : Step (d.hl ++ H) (m.hl ++ (d.hl ++ H)) w w1) :
    Step (d.hl ++ H) (({ d with bms := d.bms ++ [m] } : BD).hl ++ H) w (w1.setCell ⟨d.b, 1 + d.bms.length, none⟩ (ptr m.b)) := by
  have ec : d.cells.set (1 + d.bms.length) (ptr m.b) = ({ d with bms := d.bms ++ [m] } : BD).cells := by
    unfold BD.cells
    rw [Nat.add_comm, List.set_cons_succ]
    congr 1
    simp only [List.length_append, List.length_singleton, List.map_append, List.map_cons, List.map_nil]
    rw [show 21 - d.bms.length = (21 - (d.bms.length + 1)) + 1 from by omega, List.replicate_succ, List.append_assoc, List.set_append_right _ _ (by simp), List.length_map, Nat.sub_self]
    simp
  have hp : (m.hl ++ (d.hl ++ H)).Perm (d.hl ++ (m.hl ++ H)) := by
    rw [← List.append_assoc, ← List.append_assoc]
    exact List.Perm.append_right H List.perm_append_comm
  have h1 := hs.sep.perm hp
  have h2 : Sep w1 ([] ++ (d.b, isC 80 d.cells) :: ((d.mb, isMI (upk d.ps)) :: d.bms.flatMap BM.hl ++ (m.hl ++ H))) := h1
  have h3 := h2.set (1 + d.bms.length) (ptr m.b)
  rw [ec] at h3
  have h4 : Step (d.hl ++ H) (d.hl ++ (m.hl ++ H)) w w1 := hs.perm (List.Perm.refl _) hp
  refine (h4.trans h3).perm (List.Perm.refl _) ?_
  unfold BD.hl
  simp only [List.nil_append, List.cons_append, List.flatMap_append, List.flatMap_cons, List.flatMap_nil, List.append_nil, List.append_assoc]
  exact List.Perm.refl _
set_option maxHeartbeats 4000000 in
set_option maxRecDepth 100000 in
theorem buddy_new {w : World} {H : HL} (h : Sep w H) (top : Nat) (h1 : 6 ≤ top) (h2 : top ≤ 20) : Calls Tryd.prog 25 #[.int .i64 ((2 ^ (top + 10) : Nat) : Int)] w (NewBD top H w) := by
  have k1 := ones_pow (w := w) (top + 10) (by omega)
  have k2 := tz_pow h.env.tabB top (by omega)
  have b1 : 65536 ≤ 2 ^ (top + 10) := Nat.le_trans (by decide : 65536 ≤ 2 ^ 16) (Nat.pow_le_pow_right (by omega) (by omega))
  have b2 : 2 ^ (top + 10) ≤ 1073741824 := Nat.le_trans (Nat.pow_le_pow_right (by omega) (by omega)) (by decide : 2 ^ 30 ≤ 1073741824)
  have hdv : ((2 ^ (top + 10) : Nat) : Int) / 1024 = ((2 ^ top : Nat) : Int) := by
    rw [Nat.pow_add, show (2 : Nat) ^ 10 = 1024 from rfl]; omega
  have bt : 2 ^ top ≤ 1048576 := by have := pow_le20 (k := 0) h2; simpa using this
  generalize 2 ^ (top + 10) = n at *
  generalize 2 ^ top = t at *
  have h0 : Hid (Step H ((⟨w.heap.size + 1, w.heap.size, top, [], []⟩ : BD).hl ++ H) w ((w.alloc (.map #[] 0)).alloc (.cells (BD.cells ⟨w.heap.size + 1, w.heap.size, top, [], []⟩).toArray 80))) := by
    have s1 := h.newMap
    have s2 := s1.sep.new 80 (BD.cells ⟨w.heap.size + 1, w.heap.size, top, [], []⟩)
    have := s1.trans s2
    show Step _ _ _ _
    simpa [BD.hl, upk, isMI] using this
  have HR := hidden (show ∀ (k : Nat) (bms : List BM) (wr : World), k ≤ top → bms.length = k → (∀ j m, bms[j]? = some m → m.bits = List.replicate (2 ^ (top - j)) false) → Step H ((⟨w.heap.size + 1, w.heap.size, top, bms, []⟩ : BD).hl ++ H) w wr →
      wr.cell? ⟨w.heap.size + 1, 0, none⟩ = some (.int .i64 top) ∧ wr.cell? ⟨w.heap.size + 1, 1 + k, none⟩ = some (.pointer none) ∧ wr.frozen? ⟨w.heap.size + 1, 1 + k, none⟩ = false ∧
      Calls Tryd.prog 43 #[.int .i64 ((2 ^ (top - k) : Nat) : Int)] wr.drew fun r w1 => ∃ mb : Nat, r = .returned (.pointer (some ⟨mb, 0, none⟩)) ∧ (w1.cell? ⟨w.heap.size + 1, 0, none⟩ = some (.int .i64 top) ∧ w1.cell? ⟨w.heap.size + 1, 1 + k, none⟩ = some (.pointer none) ∧ w1.frozen? ⟨w.heap.size + 1, 1 + k, none⟩ = false) ∧ (∀ v, (w1.setCell ⟨w.heap.size + 1, 1 + k, none⟩ v).cell? ⟨w.heap.size + 1, 0, none⟩ = some (.int .i64 top)) ∧
        ∃ bms', bms'.length = k + 1 ∧ (∀ j m, bms'[j]? = some m → m.bits = List.replicate (2 ^ (top - j)) false) ∧ Step H ((⟨w.heap.size + 1, w.heap.size, top, bms', []⟩ : BD).hl ++ H) w (w1.setCell ⟨w.heap.size + 1, 1 + k, none⟩ (.pointer (some ⟨mb, 0, none⟩))) from fun k bms wr hk hlen hb hst => by
    have hs := hst.sep.left
    have cells : ∀ {w1 : World}, Sep w1 (⟨w.heap.size + 1, w.heap.size, top, bms, []⟩ : BD).hl → w1.cell? ⟨w.heap.size + 1, 0, none⟩ = some (.int .i64 top) ∧ w1.cell? ⟨w.heap.size + 1, 1 + k, none⟩ = some (.pointer none) ∧ w1.frozen? ⟨w.heap.size + 1, 1 + k, none⟩ = false := by
      intro w1 hs1
      have hc := BD.sepC hs1
      refine ⟨hc.cell 0 _ rfl, hc.cell (1 + k) _ ?_, hc.free _⟩
      unfold BD.cells
      rw [show 1 + k = k + 1 from Nat.add_comm 1 k, List.getElem?_cons_succ, List.append_assoc, List.getElem?_append_right (by simp [hlen]), List.length_map, hlen, Nat.sub_self, List.getElem?_append_left (by simp; omega), List.getElem?_replicate, if_pos (by omega)]
    refine ⟨(cells hs).1, (cells hs).2.1, (cells hs).2.2, (bmnew_any hst.sep.drew (2 ^ (top - k)) (pow_le20 h2)).mono ?_⟩
    rintro r w1 ⟨m, rfl, hmb, hs1⟩
    have hs2 := hs1.from_drew
    refine ⟨m.b, rfl, cells (hs1.sep.right.left), fun v => ((BD.sepC hs1.sep.right.left).set (1 + k) v).cell 0 _ (by unfold BD.cells; rw [show 1 + k = k + 1 from Nat.add_comm 1 k, List.set_cons_succ]; rfl), bms ++ [m], by simp [hlen], ?_, ?_⟩
    · intro j x hx
      by_cases hj : j < bms.length
      · rw [List.getElem?_append_left hj] at hx; exact hb j x hx
      · rw [List.getElem?_append_right (by omega)] at hx
        have hjk : j = k := by
          have := (List.getElem?_eq_some_iff.1 hx).1
          simp at this; omega
        subst hjk
        rw [hlen, Nat.sub_self] at hx
        cases hx
        exact hmb
    · have := hst.trans (BD.snoc hst.sep (by show bms.length < 21; omega) m hs2)
      rw [hlen] at this
      exact this)
  have HEnd := hidden (show ∀ (bms : List BM) (wr : World), bms.length = top + 1 → (∀ j m, bms[j]? = some m → m.bits = List.replicate (2 ^ (top - j)) false) → Step H ((⟨w.heap.size + 1, w.heap.size, top, bms, []⟩ : BD).hl ++ H) w wr →
      wr.cell? ⟨w.heap.size + 1, 0, none⟩ = some (.int .i64 top) ∧ ∃ b, wr.cell? ⟨w.heap.size + 1, 1 + top, none⟩ = some (.pointer (some ⟨b, 0, none⟩)) ∧
      Calls Tryd.prog 44 #[.pointer (some ⟨b, 0, none⟩), .bool true, .slice (some ⟨wr.heap.size, 0, none⟩) 1 1] (wr.alloc (.cells #[.int .i64 0] 3)).drew fun r w1 => r = .returned (.int .i64 1) ∧ (w1.cell? ⟨w.heap.size + 1, 0, none⟩ = some (.int .i64 top) ∧ w1.cell? ⟨w.heap.size + 1, 1 + top, none⟩ = some (.pointer (some ⟨b, 0, none⟩))) ∧ NewBD top H w (.returned (.pointer (some ⟨w.heap.size + 1, 0, none⟩))) w1 from fun bms wr hlen hb hst => by
    have hs := hst.sep.left
    have his : (⟨w.heap.size + 1, w.heap.size, top, bms, []⟩ : BD).Is fun _ _ => false := by
      refine ⟨hlen, h2, fun k m hm => ?_⟩
      rw [hb k m hm]
      apply List.ext_getElem?
      intro j
      rw [List.getElem?_replicate, List.getElem?_map]
      by_cases hj : j < 2 ^ (top - k)
      · rw [if_pos hj, List.getElem?_range hj]; rfl
      · rw [if_neg hj, List.getElem?_eq_none (by simp; omega)]; rfl
    obtain ⟨b, h3, h4⟩ := bd_set (w := wr.drew) hs.drew his top 0 true (Nat.le_refl _) (Nat.two_pow_pos _) (by decide)
    refine ⟨BD.c0 hs, b, h3, h4.mono ?_⟩
    rintro r w1 ⟨rfl, d', hto, his'⟩
    have etop : d'.top = top := hto.top
    have eps : d'.ps = [] := hto.ps
    have eb : d'.b = w.heap.size + 1 := hto.b
    have hcp : (bms.map BM.b)[top]? = some b := by
      have hlt : top < bms.length := by omega
      have hg := List.getElem?_eq_getElem hlt
      have hc := BD.cf hs.drew top _ hg
      rw [h3] at hc
      rw [List.getElem?_map, hg]
      cases hc; rfl
    refine ⟨rfl, ⟨by have := BD.c0 hto.step.sep; rw [eb, etop] at this; exact this, hto.ptr hcp⟩, d', by rw [eb], etop, eps, ⟨⟨his'.len, his'.top, ?_⟩, by rw [eps]; exact List.nodup_nil, by rw [eps]; simp⟩, ?_⟩
    · intro k m hm
      rw [his'.bits k m hm]
      have hkt : k ≤ d'.top := by
        have q1 : k < d'.bms.length := (List.getElem?_eq_some_iff.1 hm).1
        have q2 : d'.bms.length = d'.top + 1 := his'.len
        omega
      rw [etop] at hkt ⊢
      apply List.map_congr_left
      intro x hx
      rw [eps, fre_none (uOf []) top (by simp [uOf]) k x hkt (List.mem_range.1 hx)]
      unfold upG
      by_cases hk : k = top
      · subst hk
        have : x = 0 := by have := List.mem_range.1 hx; simp at this; exact this
        simp [this]
      · simp [hk]
    · have := Step.frame [] H (by simpa using hst.sep) hto.step.from_drew
      exact hst.trans (by simpa using this))
  have HR0 : Hid (∃ bms : List BM, bms.length = 0 ∧ (∀ j m, bms[j]? = some m → m.bits = List.replicate (2 ^ (top - j)) false) ∧ Step H ((⟨w.heap.size + 1, w.heap.size, top, bms, []⟩ : BD).hl ++ H) w ((w.alloc (.map #[] 0)).alloc (.cells (Array.mk (.int .i64 top :: (List.replicate 21 (.pointer none) ++ [.map (some w.heap.size)]))) 80))) :=
    ⟨[], rfl, by simp, h0.out⟩
  clear h0
  have hb0 : ((w.alloc (.map #[] 0)).alloc (.cells (Array.mk (.int .i64 top :: (List.replicate 21 (.pointer none) ++ [.map (some w.heap.size)]))) 80)).cell? ⟨w.heap.size + 1, 0, none⟩ = some (.int .i64 top) := by
    simp
  have hmm := @run_makeMap Tryd.prog
  clear h
  go_enter Tryd.func25, Tryd.ntmps25
  go_wp2_with (first | (go_at_call 41; refine k1.mono ?_; rintro e w' ⟨rfl, rfl⟩) | (go_at_call 42; refine k2.mono ?_; rintro e w' ⟨rfl, rfl⟩))
  go_loopw [29] (fun kv wr => ∃ (k : Nat) (bms : List BM), kv = .int .i64 k ∧ k ≤ top + 1 ∧ bms.length = k ∧ (∀ j m, bms[j]? = some m → m.bits = List.replicate (2 ^ (top - j)) false) ∧ Step H ((⟨w.heap.size + 1, w.heap.size, top, bms, []⟩ : BD).hl ++ H) w wr) (fun kv _ => top + 1 - (intOf kv).toNat)
  case atStart =>
    obtain ⟨bms, q1, q2, q3⟩ := HR0.out
    exact ⟨0, bms, rfl, by omega, q1, q2, q3⟩
  case round =>
    clear hb0 HR0 k1 k2
    obtain ⟨k, bms, rfl, hk, q1, q2, q3⟩ := hrel
    by_cases hlt : k ≤ top
    · obtain ⟨c0, c1, cf, hcall⟩ := HR.out k bms wr hlt q1 q2 q3
      have d0 : wr.drew.cell? ⟨w.heap.size + 1, 0, none⟩ = some (.int .i64 top) := c0
      have d1 : wr.drew.cell? ⟨w.heap.size + 1, 1 + k, none⟩ = some (.pointer none) := c1
      have df : wr.drew.frozen? ⟨w.heap.size + 1, 1 + k, none⟩ = false := cf
      have HCall := hidden hcall
      clear hcall q1 q2 q3
      have hs1 : IntKind.i64.wrap ((top : Int) - k) = ((top - k : Nat) : Int) := by rw [Go.IntWalk.i64_in _ (by omega)]; omega
      have hs2 : IntKind.i64.wrap (2 ^ (top - k)) = ((2 ^ (top - k) : Nat) : Int) := by
        have hp := pow_le20 (k := k) h2
        have e : (2 : Int) ^ (top - k) = ((2 ^ (top - k) : Nat) : Int) := by push_cast; rfl
        rw [e]
        generalize 2 ^ (top - k) = y at hp ⊢
        exact Go.IntWalk.i64_in _ (by omega)
      have hk00 : (0 : Int) ≤ k := by omega
      have hk21 : (k : Int) < 21 := by omega
      go_wp2_with fail
      go_region_held3 (fun w' => w'.cell? ⟨w.heap.size + 1, 0, none⟩ = some (.int .i64 top))
        (first | exact c0 | exact d0 | exact e0 | exact ek _)
        (first | (go_at_call 43; refine HCall.out.mono ?_; rintro r w1 ⟨mb, rfl, ⟨e0, e1, ef⟩, ek, hnx⟩; have HNx := hidden hnx; clear hnx))
      go_wp2_with fail
      obtain ⟨bms', r1, r2, r3⟩ := HNx.out
      go_roundw
      case rel => exact ⟨k + 1, bms', by go_num, by omega, r1, r2, r3⟩
      case measure => simp [intOf]; omega
    · obtain rfl : k = top + 1 := by omega
      obtain ⟨c0, b, c1, hset⟩ := HEnd.out bms wr q1 q2 q3
      clear q1 q2 q3
      have d0 : wr.drew.cell? ⟨w.heap.size + 1, 0, none⟩ = some (.int .i64 top) := c0
      have d1 : wr.drew.cell? ⟨w.heap.size + 1, 1 + top, none⟩ = some (.pointer (some ⟨b, 0, none⟩)) := c1
      have hk00 : (0 : Int) ≤ top := by omega
      have hk21 : (top : Int) < 21 := by omega
      have HSet := hidden hset
      clear hset
      go_wp2_with fail
      go_region_held3 (fun w' => w'.cell? ⟨w.heap.size + 1, 0, none⟩ = some (.int .i64 top) ∧ w'.cell? ⟨w.heap.size + 1, 1 + top, none⟩ = some (.pointer (some ⟨b, 0, none⟩)))
        (first | exact ⟨c0, c1⟩ | exact ⟨d0, d1⟩ | exact ⟨e0, e1⟩ | go_keep)
        (first | (go_at_call 44; refine HSet.out.mono ?_; rintro r w1 ⟨rfl, ⟨e0, e1⟩, hnx⟩; have HNx := hidden hnx; clear hnx))
      go_wp2_with fail
      go_ret
      exact HNx.out
end Go.Proofs.YtfefdleadocpmaaDoor

/- A walk of slab's New. Conditions: the size is one that caches have. -/
namespace Go.Proofs.YtfefdleadocpmaaDoor
open Go.RowKit

def NewCA (bb s : Nat) (H : HL) (w : World) (r : Ending) (w' : World) : Prop :=
  ∃ c, r = .returned (ptr c) ∧ Step H ((⟨c, bb, s, none, []⟩ : CA).hl ++ H) w w'
theorem CA.ok_new (c bb s : Nat) (s0 : 16 ≤ s) (s1 : s ≤ 512) : (⟨c, bb, s, none, []⟩ : CA).Ok := ⟨rfl, s0, s1, .nil, by simp, by simp, by simp⟩
set_option maxHeartbeats 1000000 in
theorem slabnew_any {w : World} {H : HL} (h : Sep w H) (bb s : Nat) (s0 : 16 ≤ s) (s1 : s ≤ 512) (sm : s % 16 = 0) : Calls Tryd.prog 27 #[ptr bb, .int .i64 s] w (NewCA bb s H w) := by
  have HR : Hid (NewCA bb s H w (.returned (ptr w.heap.size)) (w.alloc (.cells #[ptr bb, .int .i64 s, .slice none 0 0] 100))) :=
    ⟨w.heap.size, rfl, h.new 100 [ptr bb, .int .i64 s, .slice none 0 0]⟩
  have hr : IntKind.i64.wrap ((s : Int).tmod 16) = 0 := by rw [Int.tmod_eq_emod_of_nonneg (by omega)]; rw [show (s : Int) % 16 = 0 by omega]; rfl
  have hr2 : (s : Int).tmod 16 = 0 := by rw [Int.tmod_eq_emod_of_nonneg (by omega)]; omega
  have h1 : decide ((s : Int) < 16) = false := by simp; omega
  have h2 : decide ((512 : Int) < s) = false := by simp; omega
  clear sm h
  unfold ptr at *
  go_enter Tryd.func27, Tryd.ntmps27
  go_wp2_with fail
  go_ret
  exact HR.out
end Go.Proofs.YtfefdleadocpmaaDoor
