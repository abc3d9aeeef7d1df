/- CoreApart returns true at every input. No condition. Part of its proof. -/
import Derived.Test.YtcnbbenmlffgpaaGreatDoorCa13
import Derived.Test.YtcnbbenmlffgpaaGreatDoorCa09
import Derived.Test.YtcnbbenmlffgpaaGreatDoorCa11
import Derived.Test.YtcnbbenmlffgpaaGreatDoorCa04
import Derived.Deep.LoopGhost
import Derived.BigQuiet
import Derived.Deep.QuietTactic
set_option linter.unusedVariables false
/- Walk of the table's Put. Conditions: the table's block holds what HT.hl says, its numbers are in range. -/
namespace Go.Proofs.YtcnbbenmlffgpaaGreatDoor
open Go.RowKit

def PutT (h : HT) (q : Pl) (i : Nat) (w : World) (r : Ending) (w' : World) : Prop := r = .returned (.tuple #[.int .u32 ((nm i q : Nat) : Int), .int .i64 0]) ∧ Step h.hl ({ h with l := h.l.set i q } : HT).hl w w'
set_option maxHeartbeats 4000000 in
set_option maxRecDepth 100000 in
theorem hput_full {w : World} {h : HT} (s : Sep w h.hl) (ok : LOk h.l) (hf : ∀ p ∈ h.l, p.st ≠ 0) (a b c : Int) : Calls Tryz.prog 56 #[.pointer (some ⟨h.t, 0, none⟩), .agg #[.int .i64 a, .int .i64 b, .int .i64 c]] w (Told w (.tuple #[.int .u32 0, .int .i64 11])) := by
  have hix : Calls Tryz.prog 103 #[.slice (some ⟨h.t, 0, none⟩) 256 256, .func (.func 104) #[] #[]] (w.alloc (.cells #[.int .i64 a, .int .i64 b, .int .i64 c] 39)) fun r w' => r = .returned (.int .i64 (-1)) ∧ Below w.heap.size w w' := by
    refine (hindex_any (s.alloc _) ok).mono ?_
    rintro r w' ⟨⟨z, rfl, hz⟩, hb⟩
    refine ⟨?_, ((Below.refl _ _).alloc (Nat.le_refl _) _).trans (hb.mono (by simp))⟩
    rcases hz with ⟨rfl, _⟩ | ⟨i, p, rfl, h1, h2, _⟩
    · rfl
    · exact absurd h2 (hf p (List.mem_of_getElem? h1))
  clear s ok hf
  go_enter Tryz.func56, Tryz.ntmps56
  go_wp2_with (go_at_call 103; refine hix.mono ?_; rintro e w1 ⟨rfl, hb1⟩; have HB1 := hidden hb1; clear hb1)
  first | exact ⟨rfl, HB1.out⟩ | (go_ret2; exact ⟨rfl, HB1.out⟩)
set_option maxHeartbeats 4000000 in
set_option maxRecDepth 100000 in
theorem hput_ok {w : World} {h : HT} (s : Sep w h.hl) (ok : LOk h.l) {i : Nat} {p : Pl} (hf : Fst h.l i p) (k a f x : Nat) : Calls Tryz.prog 56 #[.pointer (some ⟨h.t, 0, none⟩), .agg #[.int .i64 (k : Int), .int .i64 (a : Int), .int .i64 (f : Int)]] w (PutT h ⟨k, a, f, 1, p.age, x⟩ i w) := by
  have hi256 : i < 256 := by have := (List.getElem?_eq_some_iff.1 hf.1).1; have := ok.1; omega
  have hage := (ok.2 p (List.mem_of_getElem? hf.1)).2
  have hix : Calls Tryz.prog 103 #[.slice (some ⟨h.t, 0, none⟩) 256 256, .func (.func 104) #[] #[]] (w.alloc (.cells #[.int .i64 (k : Int), .int .i64 (a : Int), .int .i64 (f : Int)] 39)) fun r w' => r = .returned (.int .i64 (i : Int)) ∧ w'.cell? ⟨w.heap.size, 0, none⟩ = some (.int .i64 (k : Int)) ∧ w'.cell? ⟨w.heap.size, 1, none⟩ = some (.int .i64 (a : Int)) ∧ w'.cell? ⟨w.heap.size, 2, none⟩ = some (.int .i64 (f : Int)) ∧
      (∃ v, w'.cell? ⟨h.t, i * 5, none⟩ = some v) ∧ (∃ v, w'.cell? ⟨h.t, i * 5 + 1, none⟩ = some v) ∧ (∃ v, w'.cell? ⟨h.t, i * 5 + 2, none⟩ = some v) ∧ (∃ v, w'.cell? ⟨h.t, i * 5 + 3, none⟩ = some v) ∧ (∀ j, w'.frozen? ⟨h.t, j, none⟩ = false) ∧
      Calls Tryz.prog 105 #[.pointer (some ⟨h.t, 0, none⟩), .int .i64 (i : Int)] ((((w'.setCell ⟨h.t, i * 5, none⟩ (.int .i64 (k : Int))).setCell ⟨h.t, i * 5 + 1, none⟩ (.int .i64 (a : Int))).setCell ⟨h.t, i * 5 + 2, none⟩ (.int .i64 (f : Int))).setCell ⟨h.t, i * 5 + 3, none⟩ (.int .i64 1)).drew
        fun r w2 => r = .returned (.int .u32 ((nm i p : Nat) : Int)) ∧ PutT h ⟨k, a, f, 1, p.age, x⟩ i w (.returned (.tuple #[.int .u32 ((nm i p : Nat) : Int), .int .i64 0])) w2 := by
    refine (hindex_any (s.alloc _) ok).mono ?_
    rintro r w' ⟨⟨z, rfl, hz⟩, hb⟩
    have hbb : Below w.heap.size w w' := ((Below.refl _ _).alloc (Nat.le_refl _) _).trans (hb.mono (by simp))
    have s1 := s.grown hbb
    have hc := (Cells.new w 39 [.int .i64 (k : Int), .int .i64 (a : Int), .int .i64 (f : Int)]).same (hb.block w.heap.size (by simp))
    obtain ⟨c0, c1, c2, c3, c4, cf⟩ := HT.cell s1.sep hf.1
    have hz' : z = (i : Int) := by
      rcases hz with ⟨_, h0⟩ | ⟨j, q, rfl, h1, h2, h3⟩
      · exact absurd hf.2.1 (h0 p (List.mem_of_getElem? hf.1))
      · rcases Nat.lt_trichotomy i j with e | e | e
        · exact absurd hf.2.1 (h3 i p e hf.1)
        · rw [e]
        · exact absurd h2 (hf.2.2 j q e h1)
    refine ⟨by rw [hz'], hc.cell 0 _ rfl, hc.cell 1 _ rfl, hc.cell 2 _ rfl, ⟨_, c0⟩, ⟨_, c1⟩, ⟨_, c2⟩, ⟨_, c3⟩, cf, ?_⟩
    have g : ∀ (r : Pl), (h.l.set i r)[i]? = some r := fun r => by rw [List.getElem?_set_self (List.getElem?_eq_some_iff.1 hf.1).1]
    have t0 : Step h.hl (⟨h.t, h.l.set i ⟨k, p.at_, p.fac, p.st, p.age, x⟩⟩ : HT).hl w' _ := HT.set s1.sep hf.1 0 (.int .i64 (k : Int)) (by omega) (q := ⟨k, p.at_, p.fac, p.st, p.age, x⟩) rfl
    have t1 := HT.set (h := ⟨h.t, h.l.set i ⟨k, p.at_, p.fac, p.st, p.age, x⟩⟩) t0.sep (g _) 1 (.int .i64 (a : Int)) (by omega) (q := ⟨k, a, p.fac, p.st, p.age, x⟩) rfl
    simp only [List.set_set] at t1
    have t2 := HT.set (h := ⟨h.t, h.l.set i ⟨k, a, p.fac, p.st, p.age, x⟩⟩) t1.sep (g _) 2 (.int .i64 (f : Int)) (by omega) (q := ⟨k, a, f, p.st, p.age, x⟩) rfl
    simp only [List.set_set] at t2
    have t3 := HT.set (h := ⟨h.t, h.l.set i ⟨k, a, f, p.st, p.age, x⟩⟩) t2.sep (g _) 3 (.int .i64 1) (by omega) (q := ⟨k, a, f, 1, p.age, x⟩) rfl
    simp only [List.set_set] at t3
    have tt := (s1.trans (((t0.trans t1).trans t2).trans t3)).drew
    have hn := hname_any (h := ⟨h.t, h.l.set i ⟨k, a, f, 1, p.age, x⟩⟩) tt.sep (g _) hi256 (by exact hage)
    refine hn.mono ?_
    rintro r w2 ⟨rfl, rfl⟩
    exact ⟨rfl, rfl, tt⟩
  have hne : h.t ≠ w.heap.size := by have := (HT.cells s).lt; omega
  have hne2 : w.heap.size ≠ h.t := fun e => hne e.symm
  have hw : IntKind.i64.wrap (i : Int) = (i : Int) := Go.IntWalk.i64_in _ (by omega)
  clear s ok hf hage
  generalize PutT h ⟨k, a, f, 1, p.age, x⟩ i w = Q at *
  generalize nm i p = n at *
  go_enter Tryz.func56, Tryz.ntmps56
  go_wp2_with (go_at_call 103; refine hix.mono ?_; rintro e w1 ⟨rfl, o0, o1, o2, ⟨v0, c0⟩, ⟨v1, c1⟩, ⟨v2, c2⟩, ⟨v3, c3⟩, cf, hname⟩; have f0 := cf (i * 5); have f1 := cf (i * 5 + 1); have f2 := cf (i * 5 + 2); have f3 := cf (i * 5 + 3); have HN := hidden hname; clear hname cf)
  go_region
  go_wp2_with fail
  refine HN.out.mono ?_
  rintro r w2 ⟨rfl, hq⟩
  go_wp2_with fail
  first | exact hq | (go_ret2; exact hq)
end Go.Proofs.YtcnbbenmlffgpaaGreatDoor

/- What the core's get, put and found come to, and what a Make comes to by them. No condition. -/
namespace Go.Proofs.YtcnbbenmlffgpaaGreatDoor
open Go.RowKit

theorem bytes8_lt (x : Nat) : ∀ y ∈ bytes8 x, y < 256 := by
  intro y hy
  unfold bytes8 at hy
  simp only [List.mem_cons, List.not_mem_nil, or_false] at hy
  rcases hy with rfl | rfl | rfl | rfl | rfl | rfl | rfl | rfl <;> exact Nat.mod_lt _ (by omega)
def one (e : Int) : Ending := .returned (.int .i64 e)
def at2 (a : Nat) (e : Int) : Ending := .returned (.tuple #[.int .i64 (a : Int), .int .i64 e])
def GetC (S : CO) (fr : List Nat) (own n : Nat) (e : En Fa) (w : World) (r : Ending) (w' : World) : Prop :=
  (leftOf e < ((costK n : Nat) : Int) ∧ r = at2 0 5 ∧ Step S.hl S.hl w w') ∨
  (((costK n : Nat) : Int) ≤ leftOf e ∧ NoPage S.P ∧ r = at2 0 4 ∧ Step S.hl S.hl w w') ∨
  ∃ a P' fr', ((costK n : Nat) : Int) ≤ leftOf e ∧ GotM S.P fr own n a P' fr' ∧ r = at2 a 0 ∧ Step S.hl (S.setP P').hl w w'
theorem getC_of {S : CO} {fr : List Nat} {w w' : World} {r : Ending} (h : Sep w S.hl) (ok : S.P.Ok fr) {own n : Nat} {e : En Fa} (hf : find S.P.q.E own = some e) (h1 : 1 ≤ n) (h7 : n ≤ 7) (hr : GetP S.P fr own n w r w') : GetC S fr own n e w r w' := by
  have hc : costI (n : Int) = costN n := by unfold costI; rw [if_pos (by omega), Int.toNat_natCast]
  have hpos := costN_pos.2 ⟨h1, h7⟩
  have hck : costK n = costN n := costK_ne (by omega)
  rcases hr with ⟨h0, _⟩ | ⟨_, hn, _⟩ | ⟨_, ⟨e', he', hq⟩, rfl, st⟩ | ⟨m, e', hm, _, _, he', hq, hr⟩
  · omega
  · rw [hf] at hn; cases hn
  · rw [hf] at he'; cases he'
    exact .inl ⟨by unfold leftOf; rw [hck, ← hc]; exact hq, rfl, CO.stepP h S.P rfl st⟩
  · have : m = n := by omega
    subst this
    rw [hf] at he'; cases he'
    have hq' : ((costK m : Nat) : Int) ≤ leftOf e := by unfold leftOf; rw [hck]; exact hq
    rcases hr with ⟨a, P', rfl, g, st⟩ | ⟨hn, rfl, st⟩
    · exact .inr (.inr ⟨a, P', fr, hq', g.gotM ok, rfl, CO.stepP h P' g.p st⟩)
    · exact .inr (.inl ⟨hq', hn.page, rfl, CO.stepP h S.P rfl st⟩)
def PutC (S : CO) (fr : List Nat) (own n a : Nat) (w : World) (r : Ending) (w' : World) : Prop :=
  r = .returned (.tuple #[]) ∧ ∃ P' fr', BackM S.P fr own n a P' fr' ∧ Step S.hl (S.setP P').hl w w'
/-- What a put is asked for: what is used, of an account that was charged. -/
structure Held (P : PL) (fr : List Nat) (own n a : Nat) (e : En Fa) : Prop where
  acc : find P.q.E own = some e
  paid : ((costK n : Nat) : Int) ≤ e.q.charged
  at' : n ≠ 8 → a ∈ P.usedOf n
  frame : n = 8 → ∃ g ∈ fr, a = 1024 * g
theorem putC_of {S : CO} {fr : List Nat} {w w' : World} {r : Ending} (h : Sep w S.hl) (ok : S.P.Ok fr) {own n a : Nat} (hr : PutR S.P fr own n a w r w') : ∃ P' fr', BackM S.P fr own n a P' fr' ∧ Step S.hl (S.setP P').hl w w' := by
  obtain ⟨_, P', g, st⟩ := hr
  exact ⟨P', fr, g.backM ok, CO.stepP h P' g.p st⟩
/-- The same bytes stored once more. -/
theorem put_same {m : List Nat} {a n : Nat} (hn : 8 ≤ n) (hl : a + n ≤ m.length) : put_ (put_ m a (List.replicate n 0)) a (bytes8 0) = put_ m a (List.replicate n 0) := by
  have hl1 : (put_ m a (List.replicate n 0)).length = m.length := put_len _ _ _ (by rw [List.length_replicate]; exact hl)
  have h8 : (bytes8 0).length = 8 := rfl
  apply List.ext_getElem?
  intro i
  rw [put_get _ _ _ (by rw [hl1, h8]; omega)]
  by_cases h1 : i < a
  · rw [if_pos h1]
  · rw [if_neg h1]
    by_cases h2 : i < a + (bytes8 0).length
    · rw [if_pos h2]
      have : i = a + (i - a) := by omega
      rw [h8] at h2
      rw [this, put_in (by rw [List.length_replicate]; exact hl) (by rw [List.length_replicate]; omega), show a + (i - a) - a = i - a by omega, List.getElem?_replicate, if_pos (by omega)]
      have h3 : i - a < 8 := by omega
      generalize i - a = j at h3
      match j, h3 with
      | 0, _ => rfl
      | 1, _ => rfl
      | 2, _ => rfl
      | 3, _ => rfl
      | 4, _ => rfl
      | 5, _ => rfl
      | 6, _ => rfl
      | 7, _ => rfl
    · rw [if_neg h2]
def FoundC (S : CO) (own n a : Nat) (lim : Int) (e : En Fa) (w : World) (r : Ending) (w' : World) : Prop :=
  ((∀ p ∈ S.l, p.st ≠ 0) ∧ r = one 11 ∧ Step S.hl S.hl w w') ∨
  ((∃ i p, Fst S.l i p) ∧ n ≠ 1 ∧ r = one 0 ∧ Step S.hl S.hl w w') ∨
  ((∃ i p, Fst S.l i p) ∧ n = 1 ∧ (∃ er, ((er = 5 ∧ leftOf e < lim) ∨ (er = 11 ∧ S.P.q.E.length = 32)) ∧ r = one er) ∧ Step S.hl (S.setP (S.P.setA (put_ S.P.a.mem a (bytes8 0)))).hl w w') ∨
  ((∃ i p, Fst S.l i p) ∧ n = 1 ∧ lim ≤ leftOf e ∧ r = one 0 ∧ ∃ b, Step S.hl (S.setP ((S.P.setQ (carved S.P.q own e b lim)).setA (put_ S.P.a.mem a (bytes8 S.P.q.next.toNat)))).hl w w')
theorem GotM.acc {P P' : PL} {fr fr' : List Nat} {own k a : Nat} {e : En Fa} (g : GotM P fr own k a P' fr') (he : find P.q.E own = some e) : find P'.q.E own = some { e with q := { e.q with charged := e.q.charged + ((costK k : Nat) : Int) } } ∧ P'.q.E = upd P.q.E own { e.q with charged := e.q.charged + ((costK k : Nat) : Int) } ∧ P'.q.next = P.q.next ∧ P'.q.E.length = P.q.E.length := by
  obtain ⟨e', q1, _, q3⟩ := g.q
  rw [he] at q1; cases q1
  rw [q3]
  refine ⟨find_upd_same he _, rfl, rfl, ?_⟩
  show (upd _ _ _).length = _
  unfold upd
  simp
theorem GotM.held {P P' : PL} {fr fr' : List Nat} {own k a : Nat} {e : En Fa} (g : GotM P fr own k a P' fr') (ok : P.Ok fr) (he : find P.q.E own = some e) : Held P' fr' own k a { e with q := { e.q with charged := e.q.charged + ((costK k : Nat) : Int) } } := by
  have h0 := (ok.q.fa _ e he).1
  refine ⟨(g.acc he).1, by show _ ≤ e.q.charged + _; omega, fun h => (g.used h).mem_iff.2 (by simp), fun h => ?_⟩
  have hf := g.frs
  rw [if_pos h] at hf
  obtain ⟨x, rfl, hx⟩ := hf
  exact ⟨x, by rw [hx]; simp, rfl⟩
/-- Behind a get of no factory and the table's Put. -/
theorem made_n {S : CO} {fr fr' : List Nat} {N K : Nat} (ok : S.Ok fr N K) {h n a i : Nat} {f p : Pl} {e : En Fa} {lim : Int} {P' : PL} (hf : pget S.l 1 h = some f) (hfk : f.kind = 1) (hn : n = 8 ∨ 2 ≤ n ∧ n ≤ 5) (he : find S.P.q.E f.own = some e) (g : GotM S.P fr f.own n a P' fr') (hi : Fst S.l i p) :
    MadeOk S fr f e n a lim 0 i p P' fr' := by
  obtain ⟨_, hE, hnx, _⟩ := g.acc he
  refine ⟨ok.inv.addN g hi.1 hi.2.1 hn hf hfk, g.same, g.keptL ok.inv.mem, by rw [hnx]; omega, fun _ => hE, fun h => by omega, fun _ j h1 h2 => ?_, g.few, g.high ok.inv.mem.pool (by omega), g.room.1⟩
  rw [g.mem]
  have : j = a + (j - a) := by omega
  rw [this, put_in (by rw [List.length_replicate]; exact g.room.1) (by rw [List.length_replicate]; omega), List.getElem?_replicate, if_pos (by omega)]
theorem made_f {S : CO} {fr fr' : List Nat} {N K : Nat} (ok : S.Ok fr N K) (hN : N + 1 < 1048576) {h a i b : Nat} {f p : Pl} {e : En Fa} {lim : Int} {P' : PL} (hf : pget S.l 1 h = some f) (hfk : f.kind = 1) (he : find S.P.q.E f.own = some e) (h0 : 0 ≤ lim) (hl : lim ≤ leftOf e - 64) (g : GotM S.P fr f.own 1 a P' fr') (hi : Fst S.l i p) :
    MadeOk S fr f e 1 a lim S.P.q.next.toNat i p ((P'.setQ (carved P'.q f.own { e with q := { e.q with charged := e.q.charged + 64 } } b lim)).setA (put_ P'.a.mem a (bytes8 S.P.q.next.toNat))) fr' := by
  obtain ⟨hfe, hE, hnx, _⟩ := g.acc he
  have h64 : costK 1 = 64 := rfl
  rw [h64] at hfe hE
  have hr := g.room.1
  rw [h64] at hr
  have hl8 : ∀ x, (bytes8 x).length = 8 := fun _ => rfl
  have hn0 := ok.inv.mem.pool.q.next0
  have hn1 := ok.next
  have hxx : ((S.P.q.next.toNat : Nat) : Int) = S.P.q.next := by omega
  have hlen := g.same.len
  have okq : (carved P'.q f.own { e with q := { e.q with charged := e.q.charged + 64 } } b lim).Ok := ok_carved g.ok.q hfe b h0 (by show lim ≤ e.q.limit - (e.q.charged + 64 + e.q.given); unfold leftOf at hl; omega) (by rw [hnx]; omega)
  have hlm : (put_ P'.a.mem a (bytes8 S.P.q.next.toNat)).length = P'.a.mem.length := put_len _ _ _ (by rw [hl8]; omega)
  have hbt : ∀ y ∈ put_ P'.a.mem a (bytes8 S.P.q.next.toNat), y < 256 := by
    intro y hy
    unfold put_ at hy
    simp only [List.mem_append] at hy
    rcases hy with (hy | hy) | hy
    · exact g.ok.bytes y (List.mem_of_mem_take hy)
    · exact bytes8_lt _ y hy
    · exact g.ok.bytes y (List.mem_of_mem_drop hy)
  have ok2 := PL.ok_setA (PL.ok_setQ g.ok okq) (m := put_ P'.a.mem a (bytes8 S.P.q.next.toNat)) hlm hbt
  have hq : (carved P'.q f.own { e with q := { e.q with charged := e.q.charged + 64 } } b lim).E = upd S.P.q.E f.own { e.q with charged := e.q.charged + 64, given := e.q.given + lim, kids := e.q.kids + 1 } ++ [⟨(S.P.q.next.toNat : Int), b, ⟨lim, 0, 0, f.own, 0⟩⟩] := by
    unfold carved
    simp only
    rw [hE, upd_upd, hnx, hxx]
  have hkept : KeptL S.P.a.mem (put_ P'.a.mem a (bytes8 S.P.q.next.toNat)) S.l := KeptL.of_apart ok.inv.mem (n := 64) (a := a) (fun c j h => by
    have k1 : Kept S.P.a.mem P'.a.mem c j := by
      rw [g.mem]
      exact kept_put (by rw [List.length_replicate, h64]; exact hr) (by rw [List.length_replicate, h64]; exact h)
    exact k1.trans (kept_put (by rw [hl8]; omega) (by rw [hl8]; omega))) (g.apart ok.inv.mem.pool)
  refine ⟨?_, ⟨g.same.p, g.same.qt, g.same.db, g.same.aa, g.same.amb, g.same.top, hlm.trans hlen⟩, hkept, ?_, fun h => absurd rfl h, fun _ => ⟨hxx, ?_, b, hq⟩, fun h => absurd rfl h, g.few, g.high ok.inv.mem.pool (by omega), by rw [h64]; exact hr⟩
  · exact ok.inv.addF g hi.1 hi.2.1 hf hfk hxx he hq rfl (fun j => rfl) ok2
  · show P'.q.next + 1 ≤ _; rw [hnx]; omega
  · show P'.q.next + 1 = _; rw [hnx]
end Go.Proofs.YtcnbbenmlffgpaaGreatDoor

/- Walk of the queue's Add, one thing. Conditions: the queue's blocks hold what qhl says. -/
namespace Go.Proofs.YtcnbbenmlffgpaaGreatDoor
open Go.RowKit

theorem tcells_len (ts : List (Nat × Nat)) : (tcells ts).length = ts.length * 2 := by
  induction ts with
  | nil => rfl
  | cons x r ih => unfold tcells at *; rw [List.flatMap_cons, List.length_append, ih]; simp; omega
theorem tcells_app (a b : List (Nat × Nat)) : tcells (a ++ b) = tcells a ++ tcells b := by unfold tcells; rw [List.flatMap_append]
theorem infoThing : (Tryz.prog.info? 200).map (fun i => (i.zero, i.size, i.bytes)) = some (some (.agg #[.int .i64 0, .int .i64 0]), 2, 16) := by kernel_rfl
def GAddP (g per now : Nat) (rv : OV) (ts : List (Nat × Nat)) (x : Nat) (w : World) (r : Ending) (w' : World) : Prop := ∃ rv', r = .returned (.int .i64 ((ts.length + 1 : Nat) : Int)) ∧ ovOk rv' (ts.length + 1) ∧ Step (qhl g per now rv ts) (qhl g per now rv' (ts ++ [(x, now + per)])) w w'
theorem gadd_step {w : World} {g per now : Nat} {rv : OV} {ts : List (Nat × Nat)} (h : Sep w (qhl g per now rv ts)) (hok : ovOk rv ts.length) (hl : ts.length ≤ 256) (x : Nat) :
    ∃ rv' w', (Builtin.append_ #[183, 183] 183 #[ovOf rv ts.length, .slice (some ⟨w.heap.size, 0, none⟩) 1 1]).run Tryz.prog (w.drew.alloc (.cells #[.int .i64 (x : Int), .int .i64 ((now + per : Nat) : Int)] 200)) = .ok (ovOf rv' (ts.length + 1)) w' ∧
      w'.cell? ⟨g, 0, none⟩ = some (.int .i64 (per : Int)) ∧ w'.cell? ⟨g, 1, none⟩ = some (.int .i64 (now : Int)) ∧ w'.cell? ⟨g, 2, none⟩ = some (ovOf rv ts.length) ∧ (∀ i, w'.frozen? ⟨g, i, none⟩ = false) ∧
      (w'.setCell ⟨g, 2, none⟩ (ovOf rv' (ts.length + 1))).cell? ⟨g, 2, none⟩ = some (ovOf rv' (ts.length + 1)) ∧
      ovOk rv' (ts.length + 1) ∧ GAddP g per now rv ts x w (.returned (.int .i64 ((ts.length + 1 : Nat) : Int))) (w'.setCell ⟨g, 2, none⟩ (ovOf rv' (ts.length + 1))) := by
  obtain ⟨i0, hi, hz0, hz1, hz2⟩ := info_parts infoThing
  have h1 : Sep (w.drew.alloc (.cells #[.int .i64 (x : Int), .int .i64 ((now + per : Nat) : Int)] 200)) (ovH rv 200 2 (tcells ts) ++ [(g, isC 185 [.int .i64 (per : Int), .int .i64 (now : Int), ovOf rv ts.length])]) := by
    refine Sep.perm (h.drew.alloc _) ?_
    unfold qhl
    exact (List.perm_append_singleton _ _).symm
  have hsrc : Src Tryz.prog 2 183 (.slice (some ⟨w.heap.size, 0, none⟩) 1 1) 1 [.int .i64 (x : Int), .int .i64 ((now + per : Nat) : Int)] (w.drew.alloc (.cells #[.int .i64 (x : Int), .int .i64 ((now + per : Nat) : Int)] 200)) := by
    refine Src.ofSlice _ Tryz.underlying183 ⟨w.heap.size, 0, none⟩ 1 1 _ rfl ?_ ?_
    · intro j u hj
      have := (Cells.new w.drew 200 [.int .i64 (x : Int), .int .i64 ((now + per : Nat) : Int)]).cell j u hj
      rw [addp, Nat.zero_add]
      exact this
    · intro u hu
      simp only [List.mem_cons, List.not_mem_nil, or_false] at hu
      rcases hu with rfl | rfl <;> rfl
  obtain ⟨rv', w', hr, hok', st⟩ := ov_append (P := Tryz.prog) (B := [(g, isC 185 [.int .i64 (per : Int), .int .i64 (now : Int), ovOf rv ts.length])]) h1 hok (tcells_len ts) i0 (.agg #[.int .i64 0, .int .i64 0]) 16 Tryz.underlying183 hi hz0 hz1 hz2 rfl _ hsrc (by omega) (by omega) (by omega)
  have hc := st.sep.cells (b := g) (T := 185) (cs := [.int .i64 (per : Int), .int .i64 (now : Int), ovOf rv ts.length]) (by simp)
  have s2 := Sep.set (A := ovH rv' 200 2 (tcells ts ++ [.int .i64 (x : Int), .int .i64 ((now + per : Nat) : Int)])) (B := []) st.sep 2 (ovOf rv' (ts.length + 1))
  refine ⟨rv', w', hr, hc.cell 0 _ rfl, hc.cell 1 _ rfl, hc.cell 2 _ rfl, hc.free, (hc.set 2 _).cell 2 _ rfl, hok', rv', rfl, hok', ?_⟩
  have st' : Step (qhl g per now rv ts) _ w _ := ((st.trans s2).from_alloc.from_drew).perm (by unfold qhl; exact List.perm_append_singleton _ _) (List.Perm.refl _)
  refine st'.perm (List.Perm.refl _) ?_
  unfold qhl
  rw [tcells_app, List.length_append]
  exact List.perm_append_singleton _ _
set_option maxHeartbeats 4000000 in
set_option maxRecDepth 100000 in
theorem gadd_any {w : World} {g per now : Nat} {rv : OV} {ts : List (Nat × Nat)} (h : Sep w (qhl g per now rv ts)) (hok : ovOk rv ts.length) (hl : ts.length ≤ 256) (hper : per ≤ 16) (hnow : now ≤ 1048576) {gb x : Nat} (hx : w.cell? ⟨gb, 0, none⟩ = some (.int .i64 (x : Int))) :
    Calls Tryz.prog 64 #[.pointer (some ⟨g, 0, none⟩), .slice (some ⟨gb, 0, none⟩) 1 1] w (GAddP g per now rv ts x w) := by
  have hc : Cells w g 185 [.int .i64 (per : Int), .int .i64 (now : Int), ovOf rv ts.length] := h.cells (by simp [qhl])
  have c0 := hc.cell 0 _ rfl
  have c1 := hc.cell 1 _ rfl
  have c2 := hc.cell 2 _ rfl
  have f2 := hc.free 2
  have hlt := hc.lt
  obtain ⟨rv', w', hr, d0, d1, d2, df, e2, hok', hq⟩ := gadd_step h hok hl x
  obtain ⟨g', off', cap', rfl⟩ : ∃ g' off' cap', rv' = some (g', off', cap') := by
    cases rv' with
    | none => exact absurd hok' (Nat.succ_ne_zero _)
    | some q => exact ⟨q.1, q.2.1, q.2.2, rfl⟩
  rw [show ovOf (some (g', off', cap')) (ts.length + 1) = .slice (some ⟨g', off', none⟩) (ts.length + 1) cap' from rfl] at hr e2 hq
  rw [Int.natCast_add] at hr hq
  have HR := hidden hr
  have HQ := hidden hq
  have df2 := df 2
  have hw : IntKind.i64.wrap ((now : Int) + (per : Int)) = (now : Int) + (per : Int) := Go.IntWalk.i64_in _ (by omega)
  have hw2 : wrap64 ((now : Int) + (per : Int)) = (now : Int) + (per : Int) := Go.IntWalk.wrap64_in _ (by omega)
  generalize GAddP g per now rv ts x w = Q at *
  generalize ovOf rv ts.length = v0 at *
  generalize ts.length = n at *
  clear h hok hc hr hq df hok'
  go_enter Tryz.func64, Tryz.ntmps64
  go_wp2_with fail
  go_loopg [6, 11] 2 (fun gk _ iv wr => (iv = .int .i64 0 ∧ gk = 2 ∧ wr = w) ∨ (iv = .int .i64 1 ∧ gk = 1 ∧ wr = w'.setCell ⟨g, 2, none⟩ (.slice (some ⟨g', off', none⟩) (n + 1) cap')))
  case atStart => exact .inl ⟨rfl, rfl, rfl⟩
  case round =>
    rcases hrel with ⟨rfl, rfl, rfl⟩ | ⟨rfl, rfl, rfl⟩
    · go_wp2_with fail
      go_region_law (refine step_append_runI rfl _ _ 183 183 rfl _ _ (by simp [Act.eval, Act.put]) (by simp [Act.eval, Act.put]) HR.out ?_)
      all_goals
        go_wp2_with fail
        go_roundg 1
        case measure => omega
        case rel => exact .inr ⟨by go_num, rfl, rfl⟩
    · go_wp2_with fail
      first | exact HQ.out | (go_ret; exact HQ.out)
end Go.Proofs.YtcnbbenmlffgpaaGreatDoor

/- Walks of the queue's Left and New. Conditions: the queue's blocks hold what qhl says. -/
namespace Go.Proofs.YtcnbbenmlffgpaaGreatDoor
open Go.RowKit

/-- In how many ticks a thing is due. -/
def leftQ (ts : List (Nat × Nat)) (now x : Nat) : Int := match ts.find? (fun t => t.1 == x) with
  | some t => (t.2 : Int) - (now : Int)
  | none => 0
set_option maxHeartbeats 400000 in
theorem gleft1_any {w : World} (a b x bx : Nat) (h : w.cell? ⟨bx, 0, none⟩ = some (.int .i64 (x : Int))) : Calls Tryz.prog 117 #[.agg #[.int .i64 (a : Int), .int .i64 (b : Int)], .pointer (some ⟨bx, 0, none⟩)] w (Told w (.bool (((a : Nat) : Int) == (x : Int)))) := by
  have hlt := World.block_lt_of_cell? w ⟨bx, 0, none⟩ h
  have hlt' : bx < w.heap.size := hlt
  go_enter Tryz.func117, Tryz.ntmps117
  go_wp2
  go_ret
  exact ⟨rfl, (Below.refl _ _).alloc (Nat.le_refl _) _⟩
def FstT (ts : List (Nat × Nat)) (x : Nat) (z : Int) : Prop := (z = -1 ∧ ∀ t ∈ ts, t.1 ≠ x) ∨ ∃ (i : Nat) (t : Nat × Nat), z = (i : Int) ∧ ts[i]? = some t ∧ t.1 = x ∧ ∀ j u, j < i → ts[j]? = some u → u.1 ≠ x
theorem FstT.left {ts : List (Nat × Nat)} {x : Nat} {z : Int} (h : FstT ts x z) (now : Nat) : (z = -1 ∧ leftQ ts now x = 0) ∨ ∃ (i : Nat) (t : Nat × Nat), z = (i : Int) ∧ ts[i]? = some t ∧ leftQ ts now x = (t.2 : Int) - (now : Int) := by
  rcases h with ⟨rfl, h⟩ | ⟨i, t, rfl, h1, h2, h3⟩
  · left
    refine ⟨rfl, ?_⟩
    unfold leftQ
    rw [List.find?_eq_none.2 (fun t ht => by simpa using h t ht)]
  · right
    refine ⟨i, t, rfl, h1, ?_⟩
    have : ts.find? (fun t => t.1 == x) = some t := by
      obtain ⟨hi, e⟩ := List.getElem?_eq_some_iff.1 h1
      rw [List.find?_eq_some_iff_getElem]
      refine ⟨by simpa using h2, i, hi, e, fun j hj => ?_⟩
      have := h3 j ts[j] hj (List.getElem?_eq_getElem (by omega))
      simpa using this
    unfold leftQ
    rw [this]
theorem tcells_at {ts : List (Nat × Nat)} : ∀ {i : Nat} {t : Nat × Nat}, ts[i]? = some t → (tcells ts)[i * 2]? = some (.int .i64 (t.1 : Int)) ∧ (tcells ts)[i * 2 + 1]? = some (.int .i64 (t.2 : Int)) := by
  induction ts with
  | nil => intro i t h; cases h
  | cons y r ih =>
    intro i t h
    cases i with
    | zero => cases h; exact ⟨rfl, rfl⟩
    | succ i =>
      have := ih (i := i) (t := t) h
      have e : tcells (y :: r) = [.int .i64 (y.1 : Int), .int .i64 (y.2 : Int)] ++ tcells r := rfl
      rw [e, List.getElem?_append_right (by show 2 ≤ (i + 1) * 2; omega), List.getElem?_append_right (by show 2 ≤ (i + 1) * 2 + 1; omega)]
      have e1 : (i + 1) * 2 - [Value.int .i64 (y.1 : Int), .int .i64 (y.2 : Int)].length = i * 2 := by show (i + 1) * 2 - 2 = i * 2; omega
      have e2 : (i + 1) * 2 + 1 - [Value.int .i64 (y.1 : Int), .int .i64 (y.2 : Int)].length = i * 2 + 1 := by show (i + 1) * 2 + 1 - 2 = i * 2 + 1; omega
      rw [e1, e2]
      exact this
theorem q_row {w : World} {g per now b off cap : Nat} {ts : List (Nat × Nat)} (h : Sep w (qhl g per now (some (b, off, cap)) ts)) {i : Nat} {t : Nat × Nat} (hi : ts[i]? = some t) : w.cell? ⟨b, off + i * 2, none⟩ = some (.int .i64 (t.1 : Int)) ∧ w.cell? ⟨b, off + i * 2 + 1, none⟩ = some (.int .i64 (t.2 : Int)) := by
  have hs : Sep w (ovH (some (b, off, cap)) 200 2 (tcells ts)) := Sep.tail h
  obtain ⟨e1, e2⟩ := tcells_at hi
  exact ⟨ov_cell hs _ _ e1, by rw [Nat.add_assoc]; exact ov_cell hs _ _ e2⟩
set_option maxHeartbeats 4000000 in
set_option maxRecDepth 100000 in
theorem gindex_any {w : World} {g per now : Nat} {rv : OV} {ts : List (Nat × Nat)} (h : Sep w (qhl g per now rv ts)) (hok : ovOk rv ts.length) (hl : ts.length ≤ 256) {bx x : Nat} (hx : w.cell? ⟨bx, 0, none⟩ = some (.int .i64 (x : Int))) :
    Calls Tryz.prog 116 #[ovOf rv ts.length, .func (.func 117) #[] #[.pointer (some ⟨bx, 0, none⟩)]] w fun r w' => (∃ z, r = .returned (.int .i64 z) ∧ FstT ts x z) ∧ Below w.heap.size w w' := by
  have HS := hidden h
  have HX := hidden hx
  have hbl : bx < w.heap.size := World.block_lt_of_cell? w ⟨bx, 0, none⟩ hx
  have HRow : Hid (∀ i t, ts[i]? = some t → ∃ b off cap, rv = some (b, off, cap)) := fun i t hi => by
    have := (List.getElem?_eq_some_iff.1 hi).1
    cases rv with
    | none => have h0 : ts.length = 0 := hok; omega
    | some q => exact ⟨q.1, q.2.1, q.2.2, rfl⟩
  obtain ⟨sa, sc, hv⟩ : ∃ sa sc, ovOf rv ts.length = .slice sa ts.length sc := by
    cases rv with
    | none => have h0 : ts.length = 0 := hok; exact ⟨none, 0, by rw [h0]; rfl⟩
    | some q => exact ⟨_, _, rfl⟩
  have HV := hidden hv
  rw [hv]
  clear h hx hv
  generalize hn : ts.length = n at *
  have HN := hidden hn
  clear hn
  go_enter Tryz.func116, Tryz.ntmps116
  go_wp2_with fail
  go_loopg [5, 8] n (fun gk _ iv wr => ∃ k : Nat, iv = .int .i64 k ∧ k + gk = n ∧ (∀ j u, j < k → ts[j]? = some u → u.1 ≠ x) ∧ Below w.heap.size w wr)
  case atStart => exact ⟨0, rfl, Nat.zero_add _, fun j u hj => absurd hj (Nat.not_lt_zero _), Below.refl _ _⟩
  case round =>
    obtain ⟨k, rfl, hkg, hpre, hb⟩ := hrel
    have HKG := hidden hkg
    have HPre := hidden hpre
    have HB := hidden hb
    clear hpre
    by_cases hlt : k < n
    · obtain ⟨t, ht⟩ : ∃ t, ts[k]? = some t := ⟨_, List.getElem?_eq_getElem (by have := HN.out; omega)⟩
      obtain ⟨b, off, cap, hrv⟩ := HRow.out k t ht
      have hsa : sa = some ⟨b, off, none⟩ := by
        have := HV.out
        rw [hrv] at this
        cases this; rfl
      have hrow := q_row (w := wr) (by rw [← hrv]; exact (HS.out.grown hb).sep) ht
      obtain ⟨c0, c1⟩ := hrow
      subst hsa
      have HT := hidden ht
      have hcb : wr.cell? ⟨bx, 0, none⟩ = some (.int .i64 (x : Int)) := (hb.cell (p := ⟨bx, 0, none⟩) hbl).trans HX.out
      have hput := gleft1_any (w := wr) t.1 t.2 x bx hcb
      clear ht hb hcb hrv
      by_cases hs : t.1 = x
      · have HSt := hidden hs
        have hbq : (((t.1 : Nat) : Int) == (x : Int)) = true := by simp [hs]
        rw [hbq] at hput
        clear hs hbq
        go_wp2_with (go_at_call 117; refine hput.mono ?_; rintro e w1 ⟨rfl, hb1⟩; have HB1 := hidden hb1; clear hb1)
        have HR : Hid ((∃ z, Ending.returned (.int .i64 (k : Int)) = .returned (.int .i64 z) ∧ FstT ts x z) ∧ Below w.heap.size w w1) := ⟨⟨_, rfl, .inr ⟨k, t, rfl, HT.out, HSt.out, HPre.out⟩⟩, HB.out.trans (HB1.out.mono HB.out.size)⟩
        first | exact HR.out | (go_ret; exact HR.out)
      · have HSt := hidden hs
        have hbq := beq_nat_f hs
        rw [hbq] at hput
        clear hs hbq
        go_wp2_with (go_at_call 117; refine hput.mono ?_; rintro e w1 ⟨rfl, hb1⟩; have HB1 := hidden hb1; clear hb1)
        go_roundg (n - (k + 1))
        case measure => have := HKG.out; omega
        case rel =>
          refine ⟨k + 1, by go_num, by omega, fun j q hj hq => ?_, HB.out.trans (HB1.out.mono HB.out.size)⟩
          by_cases e : j = k
          · subst e
            have := HT.out
            rw [this] at hq; cases hq
            exact HSt.out
          · exact HPre.out j q (by omega) hq
    · have HR : Hid ((∃ z, Ending.returned (.int .i64 (-1)) = .returned (.int .i64 z) ∧ FstT ts x z) ∧ Below w.heap.size w wr) := ⟨⟨_, rfl, .inl ⟨rfl, fun p hp => by
        obtain ⟨i, hi⟩ := List.mem_iff_getElem?.1 hp
        have := (List.getElem?_eq_some_iff.1 hi).1
        have := HN.out
        exact HPre.out i p (by omega) hi⟩⟩, HB.out⟩
      go_wp2_with fail
      first | exact HR.out | (go_ret; exact HR.out)
set_option maxHeartbeats 4000000 in
set_option maxRecDepth 100000 in
theorem gleft_any {w : World} {g per now : Nat} {rv : OV} {ts : List (Nat × Nat)} (h : Sep w (qhl g per now rv ts)) (hok : ovOk rv ts.length) (hl : ts.length ≤ 256) (hdue : ∀ t ∈ ts, now ≤ t.2 ∧ t.2 ≤ 2097152) (x : Nat) :
    Calls Tryz.prog 73 #[.pointer (some ⟨g, 0, none⟩), .int .i64 (x : Int)] w (Told w (.int .i64 (leftQ ts now x))) := by
  have hc : Cells w g 185 [.int .i64 (per : Int), .int .i64 (now : Int), ovOf rv ts.length] := h.cells (by simp [qhl])
  have c2 := hc.cell 2 _ rfl
  have hlt := hc.lt
  have hix : Calls Tryz.prog 116 #[ovOf rv ts.length, .func (.func 117) #[] #[.pointer (some ⟨w.heap.size, 0, none⟩)]] (w.alloc (.cells #[.int .i64 (x : Int)] 3)) fun r w' => (r = .returned (.int .i64 (-1)) ∧ leftQ ts now x = 0 ∨ ∃ (i b off cap at_ : Nat), r = .returned (.int .i64 (i : Int)) ∧ i < ts.length ∧ ovOf rv ts.length = .slice (some ⟨b, off, none⟩) ts.length cap ∧ w'.cell? ⟨g, 2, none⟩ = some (.slice (some ⟨b, off, none⟩) ts.length cap) ∧ w'.cell? ⟨b, off + i * 2 + 1, none⟩ = some (.int .i64 (at_ : Int)) ∧ w'.cell? ⟨g, 1, none⟩ = some (.int .i64 (now : Int)) ∧ leftQ ts now x = (at_ : Int) - (now : Int) ∧ now ≤ at_ ∧ at_ ≤ 2097152) ∧ Below w.heap.size w w' := by
    refine (gindex_any (h.alloc _) hok hl (bx := w.heap.size) (x := x) (by have := (Cells.new w 3 [.int .i64 (x : Int)]).cell 0 _ rfl; exact this)).mono ?_
    rintro r w' ⟨⟨z, rfl, hz⟩, hb⟩
    have hbb : Below w.heap.size w w' := ((Below.refl _ _).alloc (Nat.le_refl _) _).trans (hb.mono (by simp))
    refine ⟨?_, hbb⟩
    rcases hz.left now with ⟨rfl, e⟩ | ⟨i, t, rfl, hi, e⟩
    · exact .inl ⟨rfl, e⟩
    · right
      have hil := (List.getElem?_eq_some_iff.1 hi).1
      obtain ⟨b, off, cap, rfl⟩ : ∃ b off cap, rv = some (b, off, cap) := by
        cases rv with
        | none => have h0 : ts.length = 0 := hok; omega
        | some q => exact ⟨q.1, q.2.1, q.2.2, rfl⟩
      have s1 := (h.grown hbb).sep
      have hc1 : Cells w' g 185 [.int .i64 (per : Int), .int .i64 (now : Int), ovOf (some (b, off, cap)) ts.length] := s1.cells (by simp [qhl])
      obtain ⟨d1, d2⟩ := hdue t (List.mem_of_getElem? hi)
      exact ⟨i, b, off, cap, t.2, rfl, hil, rfl, hc1.cell 2 _ rfl, (q_row s1 hi).2, hc1.cell 1 _ rfl, e, d1, d2⟩
  clear h hc hdue
  generalize leftQ ts now x = lv at *
  generalize ovOf rv ts.length = v0 at *
  generalize ts.length = n at *
  clear hok
  go_enter Tryz.func73, Tryz.ntmps73
  go_wp2_with fail
  refine hix.mono ?_
  rintro r w' ⟨⟨rfl, rfl⟩ | ⟨i, b, off, cap, at_, rfl, hil, rfl, e2, e0, e1, rfl, d1, d2⟩, hb⟩
  · have HB := hidden hb
    clear hb hix
    go_wp2_with fail
    first | exact ⟨rfl, HB.out⟩ | (go_ret; exact ⟨rfl, HB.out⟩)
  · have HB : Hid (Told w (.int .i64 ((at_ : Int) - (now : Int))) (.returned (.int .i64 ((at_ : Int) - (now : Int)))) w' ∧ ∀ m, Told w (.int .i64 ((at_ : Int) - (now : Int))) (.returned (.int .i64 ((at_ : Int) - (now : Int)))) (w'.drewN m)) := ⟨⟨rfl, hb⟩, fun m => ⟨rfl, hb.os, hb.tape, hb.output, hb.size, hb.block⟩⟩
    have hwi : IntKind.i64.wrap (i : Int) = (i : Int) := Go.IntWalk.i64_in _ (by omega)
    have hw : wrap64 ((at_ : Int) - (now : Int)) = (at_ : Int) - (now : Int) := Go.IntWalk.wrap64_in _ (by omega)
    have hw2 : IntKind.i64.wrap ((at_ : Int) - (now : Int)) = (at_ : Int) - (now : Int) := Go.IntWalk.i64_in _ (by omega)
    have hi0 : (0 : Int) ≤ (i : Int) := by omega
    have hin : (i : Int) < (n : Int) := by omega
    clear hb hix c2
    go_wp2_with fail
    go_quiet (fail)
    go_wp2_with fail
    go_ret
    exact HB.out.2 _
/-- A new queue. -/
def NewG (per : Nat) (H : HL) (w : World) (r : Ending) (w' : World) : Prop := ∃ g, r = .returned (.pointer (some ⟨g, 0, none⟩)) ∧ Step H (qhl g per 0 none [] ++ H) w w'
set_option maxHeartbeats 1000000 in
theorem gnew_any {w : World} {H : HL} (h : Sep w H) (per : Nat) (h1 : 1 ≤ per) (h2 : per ≤ 16) : Calls Tryz.prog 54 #[.int .i64 (per : Int)] w (NewG per H w) := by
  have HR : Hid (NewG per H w (.returned (.pointer (some ⟨w.heap.size, 0, none⟩))) (w.alloc (.cells #[.int .i64 (per : Int), .int .i64 0, .slice none 0 0] 185))) := ⟨_, rfl, h.new 185 [.int .i64 (per : Int), .int .i64 0, .slice none 0 0]⟩
  have hd1 : decide ((per : Int) < 1) = false := by rw [decide_eq_false_iff_not]; omega
  have hd2 : decide ((16 : Int) < (per : Int)) = false := by rw [decide_eq_false_iff_not]; omega
  have hp1 : (1 : Int) ≤ (per : Int) := by omega
  have hp2 : (per : Int) ≤ 16 := by omega
  clear h
  go_enter Tryz.func54, Tryz.ntmps54
  go_wp2_with fail
  first | exact HR.out | (go_ret; exact HR.out)
end Go.Proofs.YtcnbbenmlffgpaaGreatDoor

/- Walks of the tree's Carve and Close. Conditions: the tree's blocks hold what QT.hl says. -/
namespace Go.Proofs.YtcnbbenmlffgpaaGreatDoor
open Go.RowKit

set_option maxHeartbeats 1000000 in
theorem qcarve_quota {w : World} {q : QT} (h : Sep w q.hl) (ok : q.Ok) {id : Int} {e : En Fa} (hf : find q.E id = some e) (limit : Int) (h0 : 0 ≤ limit) (hq : e.q.limit - (e.q.charged + e.q.given) < limit) :
    Calls Tryz.prog 114 #[ptr q.t, .int .i64 id, .int .i64 limit] w (Told w (.tuple #[.int .i64 0, .int .i64 5])) := by
  have k1 := qat_some h hf
  obtain ⟨a1, a2, a3, a4, _⟩ := ok.fa id e hf
  have k2 := qfits_any (QT.fac h hf) a1 a2 a3 a4 limit
  have hd : decide (limit ≤ e.q.limit - (e.q.charged + e.q.given)) = false := by rw [decide_eq_false_iff_not]; omega
  rw [hd] at k2
  clear h hf ok hd hq
  unfold ptr at *
  go_enter Tryz.func114, Tryz.ntmps114
  go_wp2_with (first | (go_at_call 74; refine k1.mono ?_; rintro e w' ⟨rfl, rfl⟩) | (go_at_call 149; refine k2.mono ?_; rintro e w1 ⟨rfl, hb⟩; have HB := hidden hb; clear hb))
  go_ret2
  exact ⟨rfl, HB.out⟩
theorem run_lenMap {P : Program} {w : World} {m : Nat} {kv : List (Value × Value)} (h : MapIs w m kv) {t k e : TypeId} (ht : P.underlying t = some (.map k e)) (ty : TypeId) : (Builtin.len_ #[t] ty #[.map (some m)]).run P w = .ok (.int .i64 ((kv.length : Nat) : Int)) w := by
  obtain ⟨es, clock, ho, _, hr⟩ := h
  have : kv.length = es.size := by rw [← hr]; simp
  rw [this]
  simp [Builtin.len_, run_underlying ht, MapKept.run_getObj_map ho, goInt, Result.andThen]
theorem QT.len {w : World} {q : QT} (h : Sep w q.hl) (ty : TypeId) : (Builtin.len_ #[170] ty #[.map (some q.m)]).run Tryz.prog w = .ok (.int .i64 ((q.E.length : Nat) : Int)) w := by
  have := run_lenMap (QT.map h) Tryz.underlying170 ty
  simpa [kvs] using this
set_option maxHeartbeats 1000000 in
theorem qcarve_full {w : World} {q : QT} (h : Sep w q.hl) (ok : q.Ok) {id : Int} {e : En Fa} (hf : find q.E id = some e) (limit : Int) (h0 : 0 ≤ limit) (hq : limit ≤ e.q.limit - (e.q.charged + e.q.given)) (hl : q.E.length = 32) :
    Calls Tryz.prog 114 #[ptr q.t, .int .i64 id, .int .i64 limit] w (Told w (.tuple #[.int .i64 0, .int .i64 11])) := by
  have k1 := qat_some h hf
  obtain ⟨a1, a2, a3, a4, _⟩ := ok.fa id e hf
  have k2 := qfits_any (QT.fac h hf) a1 a2 a3 a4 limit
  have hd : decide (limit ≤ e.q.limit - (e.q.charged + e.q.given)) = true := by rw [decide_eq_true_eq]; exact hq
  rw [hd] at k2
  have HN : Hid (∀ w1, Below w.heap.size w w1 → w1.cell? ⟨q.t, 0, none⟩ = some (.map (some q.m)) ∧ ∀ ty, (Builtin.len_ #[170] ty #[.map (some q.m)]).run Tryz.prog w1 = .ok (.int .i64 32) w1) := fun w1 hb => by
    have s1 := (h.grown hb).sep
    refine ⟨QT.c0 s1, fun ty => ?_⟩
    have := QT.len s1 ty
    rw [hl] at this
    exact this
  clear h hf ok hd hq hl
  unfold ptr at *
  go_enter Tryz.func114, Tryz.ntmps114
  go_wp2_with (first | (go_at_call 74; refine k1.mono ?_; rintro e w' ⟨rfl, rfl⟩) | (go_at_call 149; refine k2.mono ?_; rintro e w1 ⟨rfl, hb⟩; obtain ⟨d0, dl⟩ := HN.out w1 hb; have HB := hidden hb; clear hb))
  go_ret2
  exact ⟨rfl, HB.out⟩
set_option maxHeartbeats 2000000 in
set_option maxRecDepth 100000 in
theorem qcarve_ok {w : World} {q : QT} (h : Sep w q.hl) (ok : q.Ok) {id : Int} {e : En Fa} (hf : find q.E id = some e) (limit : Int) (h0 : 0 ≤ limit) (hq : limit ≤ e.q.limit - (e.q.charged + e.q.given)) (hl : q.E.length ≠ 32) (hn : q.next + 1 < 1048576) :
    Calls Tryz.prog 114 #[ptr q.t, .int .i64 id, .int .i64 limit] w (CarvedQ w q id e limit) := by
  have k1 := qat_some h hf
  obtain ⟨a1, a2, a3, a4, a5, a6, _⟩ := ok.fa id e hf
  have k2 := qfits_any (QT.fac h hf) a1 a2 a3 a4 limit
  have hd : decide (limit ≤ e.q.limit - (e.q.charged + e.q.given)) = true := by rw [decide_eq_true_eq]; exact hq
  rw [hd] at k2
  have hn0 := ok.next0
  have HN : Hid (∀ w1, Below w.heap.size w w1 → w1.cell? ⟨q.t, 0, none⟩ = some (.map (some q.m)) ∧ w1.cell? ⟨q.t, 1, none⟩ = some (.int .i64 q.next) ∧ w1.frozen? ⟨q.t, 1, none⟩ = false ∧ (∀ ty, (Builtin.len_ #[170] ty #[.map (some q.m)]).run Tryz.prog w1 = .ok (.int .i64 ((q.E.length : Nat) : Int)) w1) ∧
      MapInt ((w1.setCell ⟨q.t, 1, none⟩ (.int .i64 (q.next + 1))).alloc (.cells #[.int .i64 limit, .int .i64 0, .int .i64 0, .int .i64 id, .int .i64 0] 137)) q.m (kvs q.E) ∧
      ∀ w4, MapInt w4 q.m (put (kvs q.E) q.next (.pointer (some ⟨w1.heap.size, 0, none⟩))) → ((w1.setCell ⟨q.t, 1, none⟩ (.int .i64 (q.next + 1))).alloc (.cells #[.int .i64 limit, .int .i64 0, .int .i64 0, .int .i64 id, .int .i64 0] 137)).grownBy w4 (some q.m) →
        w4.cell? ⟨e.b, 2, none⟩ = some (.int .i64 e.q.given) ∧ w4.cell? ⟨e.b, 4, none⟩ = some (.int .i64 e.q.kids) ∧ (∀ i, w4.frozen? ⟨e.b, i, none⟩ = false) ∧
        CarvedQ w q id e limit (.returned (.tuple #[.int .i64 q.next, .int .i64 0])) ((w4.setCell ⟨e.b, 2, none⟩ (.int .i64 (e.q.given + limit))).setCell ⟨e.b, 4, none⟩ (.int .i64 (e.q.kids + 1)))) := fun w1 hb => by
    have s1 := h.grown hb
    have hm : MapInt (w1.setCell ⟨q.t, 1, none⟩ (.int .i64 (q.next + 1))) q.m (kvs q.E) := (QT.map s1.sep).set _ _
    refine ⟨QT.c0 s1.sep, QT.c1 s1.sep, (s1.sep.cells (T := 172) (cs := [.map (some q.m), .int .i64 q.next]) (by simp [QT.hl])).free 1, QT.len s1.sep, hm.alloc _, fun w4 hm4 hg => ?_⟩
    obtain ⟨c1, c2, c3, st⟩ := QT.carve s1.sep ok hf limit w4 hm4 hg
    exact ⟨c1, c2, c3, rfl, _, s1.trans st⟩
  have hw : IntKind.i64.wrap (q.next + 1) = q.next + 1 := Go.IntWalk.i64_in _ (by omega)
  have hw2 : IntKind.i64.wrap (e.q.given + limit) = e.q.given + limit := Go.IntWalk.i64_in _ (by omega)
  have hw3 : IntKind.i64.wrap (e.q.kids + 1) = e.q.kids + 1 := Go.IntWalk.i64_in _ (by have := ok.next1; omega)
  have hb32 : (((q.E.length : Nat) : Int) == 32) = false := by simp; omega
  generalize hQ : CarvedQ w q id e limit = Q at *
  clear h hf ok hd hq hl hn hQ
  unfold ptr at *
  generalize ((q.E.length : Nat) : Int) = n32 at *
  go_enter Tryz.func114, Tryz.ntmps114
  go_wp2_with (first | (go_at_call 74; refine k1.mono ?_; rintro e w' ⟨rfl, rfl⟩) | (go_at_call 149; refine k2.mono ?_; rintro e w1 ⟨rfl, hb⟩; obtain ⟨d0, d1, df, dl, hm, hfin⟩ := HN.out w1 hb; have HM := hidden hm; have HF := hidden hfin; clear hb hm hfin HN) | (refine wpList_mapUpdate_int _ rfl _ _ _ 170 3 131 rfl Tryz.underlying170 Tryz.underlying3 q.m (kvs q.E) HM.out q.next (.pointer (some ⟨w1.heap.size, 0, none⟩)) rfl rfl rfl ?_; intro w4 hm1 hg1; obtain ⟨e2, e4, ef, hq4⟩ := HF.out w4 hm1 hg1; have ef2 := ef 2; have ef4 := ef 4; have HQ4 := hidden hq4; clear hm1 hg1 ef hq4))
  first | exact HQ4.out | (go_ret2; exact HQ4.out)
set_option maxHeartbeats 2000000 in
set_option maxRecDepth 100000 in
theorem qclose_ok {w : World} {q : QT} (h : Sep w q.hl) (ok : q.Ok) {id : Int} {e c : En Fa} (hc : find q.E id = some c) (hid : id ≠ 0) (h1 : c.q.charged = 0) (h2 : c.q.given = 0) (h3 : c.q.kids = 0) (he : find q.E c.q.parent = some e) (hg : c.q.limit ≤ e.q.given) (hl : 0 ≤ c.q.limit) :
    Calls Tryz.prog 67 #[ptr q.t, .int .i64 id] w (ClosedQ w q c.q.parent e c id) := by
  have k1 := qat_some h hc
  obtain ⟨a1, a2, a3, a4, _⟩ := ok.fa id c hc
  obtain ⟨b1, b2, b3, b4, b5, b6, _⟩ := ok.fa _ e he
  have hn1 := ok.next1
  have k2 := quse_any (QT.fac h hc) a1 a2 (by omega)
  rw [h1, h2] at k2
  have HN : Hid (∀ w1, Below w.heap.size w w1 → w1.cell? ⟨q.t, 0, none⟩ = some (.map (some q.m)) ∧ w1.cell? ⟨c.b, 0, none⟩ = some (.int .i64 c.q.limit) ∧ w1.cell? ⟨c.b, 3, none⟩ = some (.int .i64 c.q.parent) ∧ w1.cell? ⟨c.b, 4, none⟩ = some (.int .i64 0) ∧
      ∀ m, (Instr.lookup 170 (.map (some q.m)) (.int .i64 c.q.parent) false).run Tryz.prog (w1.drewN m) = .ok (.pointer (some ⟨e.b, 0, none⟩)) (w1.drewN m)) := fun w1 hb => by
    have s1 := (h.grown hb).sep
    have k := QT.fac s1 hc
    have hk4 := k.cell 4 _ rfl
    rw [h3] at hk4
    exact ⟨QT.c0 s1, k.cell 0 _ rfl, k.cell 3 _ rfl, hk4, fun m => QT.look_some (s1.drewN m) he⟩
  have HM : Hid (∀ w1 m, Below w.heap.size w w1 → (w1.drewN m).cell? ⟨q.t, 0, none⟩ = some (.map (some q.m)) ∧ (w1.drewN m).cell? ⟨c.b, 0, none⟩ = some (.int .i64 c.q.limit) ∧ (w1.drewN m).cell? ⟨e.b, 2, none⟩ = some (.int .i64 e.q.given) ∧ (w1.drewN m).cell? ⟨e.b, 4, none⟩ = some (.int .i64 e.q.kids) ∧ (∀ i, (w1.drewN m).frozen? ⟨e.b, i, none⟩ = false) ∧ (w1.drewN m).heap.size = w1.heap.size) := fun w1 m hb => by
    have s1 := ((h.grown hb).sep).drewN m
    have k := QT.fac s1 hc
    have k' := QT.fac s1 he
    exact ⟨QT.c0 s1, k.cell 0 _ rfl, k'.cell 2 _ rfl, k'.cell 4 _ rfl, k'.free, rfl⟩
  have hw : IntKind.i64.wrap (e.q.given - c.q.limit) = e.q.given - c.q.limit := Go.IntWalk.i64_in _ (by omega)
  have hw2 : IntKind.i64.wrap (e.q.kids - 1) = e.q.kids - 1 := Go.IntWalk.i64_in _ (by omega)
  have hid0 : (id == 0) = false := by simpa using hid
  have hne : q.t ≠ e.b := by
    have hnd := h.nd
    simp only [QT.hl, keys_cons, List.nodup_cons] at hnd
    intro e1
    refine hnd.1 ?_
    rw [List.mem_cons]
    right
    rw [e1]
    exact List.mem_map.2 ⟨(e.b, isC 137 e.q.cells), List.mem_map.2 ⟨e, (find_mem he).1, rfl⟩, rfl⟩
  have HS := hidden h
  have HC := hidden hc
  have HE := hidden he
  have HOk := hidden ok
  generalize hQ : ClosedQ w q c.q.parent e c id = Q at *
  have HQ := hidden hQ
  clear h hc he ok hQ hid
  unfold ptr at *
  go_enter Tryz.func67, Tryz.ntmps67
  go_wp2_with (first | (go_at_call 74; refine k1.mono ?_; rintro e w' ⟨rfl, rfl⟩) | (go_at_call 75; refine k2.mono ?_; rintro e w1 ⟨rfl, hb⟩; obtain ⟨d0, d1, d3, d4, dl⟩ := HN.out w1 hb; have dl1 := dl 1; have dl0 : (Instr.lookup 170 (.map (some q.m)) (.int .i64 c.q.parent) false).run Tryz.prog w1.drew = .ok (.pointer (some ⟨e.b, 0, none⟩)) w1.drew := dl 1; have HB := hidden hb; clear hb HN))
  go_region
  obtain ⟨f0, f1, f2, f4, ff, fs⟩ := HM.out w1 1 HB.out
  have g0 : w1.drew.cell? ⟨q.t, 0, none⟩ = some (.map (some q.m)) := f0
  have g1 : w1.drew.cell? ⟨c.b, 0, none⟩ = some (.int .i64 c.q.limit) := f1
  have g2 : w1.drew.cell? ⟨e.b, 2, none⟩ = some (.int .i64 e.q.given) := f2
  have g4 : w1.drew.cell? ⟨e.b, 4, none⟩ = some (.int .i64 e.q.kids) := f4
  have h2 : w1.drew.frozen? ⟨e.b, 2, none⟩ = false := ff 2
  have h4 : w1.drew.frozen? ⟨e.b, 4, none⟩ = false := ff 4
  clear d0 d1 d3 d4 dl dl0 dl1 f0 f1 f2 f4 ff fs k1 k2
  have HP : Hid (MapInt (((w1.setCell ⟨e.b, 2, none⟩ (.int .i64 (e.q.given - c.q.limit))).setCell ⟨e.b, 4, none⟩ (.int .i64 (e.q.kids - 1))).drew.drew) q.m (kvs q.E) ∧
      ∀ w4, MapInt w4 q.m (del (kvs q.E) id) → (((w1.setCell ⟨e.b, 2, none⟩ (.int .i64 (e.q.given - c.q.limit))).setCell ⟨e.b, 4, none⟩ (.int .i64 (e.q.kids - 1))).drew.drew).grownBy w4 (some q.m) → Q (.returned (.int .i64 0)) w4) := by
    have s1 := HS.out.grown HB.out
    have s2 : Sep (w1.drewN 2) q.hl := s1.sep.drewN 2
    have hm : MapInt (((w1.drewN 2).setCell ⟨e.b, 2, none⟩ (.int .i64 (e.q.given - c.q.limit))).setCell ⟨e.b, 4, none⟩ (.int .i64 (e.q.kids - 1))) q.m (kvs q.E) := ((QT.map s2).set _ _).set _ _
    refine ⟨hm, fun w4 hm4 hg4 => ?_⟩
    have st := QT.close s2 HOk.out HE.out HC.out w4 hm4 hg4
    rw [← HQ.out]
    exact ⟨rfl, s1.trans (st.from_drewN)⟩
  have HL : Hid (((w1.setCell ⟨e.b, 2, none⟩ (.int .i64 (e.q.given - c.q.limit))).drew.drew).cell? ⟨e.b, 4, none⟩ = some (.int .i64 e.q.kids) ∧ ((w1.setCell ⟨e.b, 2, none⟩ (.int .i64 (e.q.given - c.q.limit))).drew.drew).frozen? ⟨e.b, 4, none⟩ = false ∧
      (((w1.setCell ⟨e.b, 2, none⟩ (.int .i64 (e.q.given - c.q.limit))).setCell ⟨e.b, 4, none⟩ (.int .i64 (e.q.kids - 1))).drew.drew).cell? ⟨q.t, 0, none⟩ = some (.map (some q.m))) := by
    have k := (QT.fac (HS.out.grown HB.out).sep HE.out).set 2 (.int .i64 (e.q.given - c.q.limit))
    refine ⟨k.cell 4 _ rfl, k.free 4, ?_⟩
    show ((w1.setCell ⟨e.b, 2, none⟩ _).setCell ⟨e.b, 4, none⟩ _).cell? ⟨q.t, 0, none⟩ = _
    rw [World.cell?_of_block (Below.heap_setCell _ _ _ _ hne), World.cell?_of_block (Below.heap_setCell _ _ _ _ hne)]
    exact g0
  go_wp2_with fail
  go_region
  obtain ⟨e4, f4, e0⟩ := HL.out
  go_wp2_with (refine wpList_delete_int _ rfl _ _ 170 3 3 131 rfl Tryz.underlying170 Tryz.underlying3 q.m (kvs q.E) HP.out.1 id rfl rfl ?_; intro w4 hm2 hg2; have HQ4 := hidden (HP.out.2 w4 hm2 hg2); clear hm2 hg2)
  first | exact HQ4.out | (go_ret; exact HQ4.out)
end Go.Proofs.YtcnbbenmlffgpaaGreatDoor

/- Walks of the core's small methods: Of, Any, word, Own, Live, Zombies, Left, Memory. Conditions: the blocks hold what CO.hl says. -/
namespace Go.Proofs.YtcnbbenmlffgpaaGreatDoor
open Go.RowKit

theorem Inv.lok {P : PL} {l : List Pl} {fr : List Nat} {xc : Int → Int} {zs : List Nat} (v : Inv P l fr xc zs) : LOk l := ⟨v.len, fun p hp => ⟨by have := (v.st p hp).1; omega, (v.st p hp).2⟩⟩
/-- A block of three cells that was made since lies as it was made. -/
theorem new3 {w w1 : World} {T : TypeId} {a b c : Value} (hb : Below (w.alloc (.cells #[a, b, c] T)).heap.size (w.alloc (.cells #[a, b, c] T)) w1) : Below w.heap.size w w1 ∧ w1.cell? ⟨w.heap.size, 0, none⟩ = some a ∧ w1.cell? ⟨w.heap.size, 1, none⟩ = some b ∧ w1.cell? ⟨w.heap.size, 2, none⟩ = some c ∧ (∀ i, w1.frozen? ⟨w.heap.size, i, none⟩ = false) ∧ w.heap.size < w1.heap.size := by
  have hc := (Cells.new w T [a, b, c]).same (hb.block w.heap.size (by simp))
  refine ⟨((Below.refl _ _).alloc (Nat.le_refl _) _).trans (hb.mono (by simp)), hc.cell 0 _ rfl, hc.cell 1 _ rfl, hc.cell 2 _ rfl, hc.free, ?_⟩
  have := hb.size
  simp at this; omega
theorem below_alloc {w w1 : World} {o : Obj} (hb : Below (w.alloc o).heap.size (w.alloc o) w1) : Below w.heap.size w w1 := ((Below.refl _ _).alloc (Nat.le_refl _) _).trans (hb.mono (by simp))
theorem below3 {w w1 : World} (h : Below w.heap.size w w1) (a b c : Value) (o : Obj) : Below w.heap.size w ((((w1.setCell ⟨w.heap.size, 0, none⟩ a).setCell ⟨w.heap.size, 1, none⟩ b).setCell ⟨w.heap.size, 2, none⟩ c).alloc o) :=
  (((h.setCell (Nat.le_refl _) _).setCell (Nat.le_refl _) _).setCell (Nat.le_refl _) _).alloc (by have := h.size; simpa [World.setCell] using this) _
set_option maxHeartbeats 2000000 in
theorem cof_gen {w : World} {S : CO} (h : Sep w S.hl) {x : Nat} {a b c e kind : Int} (hG : Calls Tryz.prog 62 #[.pointer (some ⟨S.t, 0, none⟩), .int .u32 (x : Int)] (w.alloc (.cells #[.int .i64 0, .int .i64 0, .int .i64 0] 39)) (Told (w.alloc (.cells #[.int .i64 0, .int .i64 0, .int .i64 0] 39)) (.tuple #[.agg #[.int .i64 a, .int .i64 b, .int .i64 c], .int .i64 e])))
    (hc : e ≠ 0 ∨ kind = 0 ∨ a = kind) : Calls Tryz.prog 18 #[.pointer (some ⟨S.c, 0, none⟩), .int .u32 (x : Int), .int .i64 kind] w (Told w (.tuple #[.agg #[.int .i64 a, .int .i64 b, .int .i64 c], .int .i64 e])) := by
  have c1 := CO.c1 (h.alloc (.cells #[.int .i64 0, .int .i64 0, .int .i64 0] 39))
  have hcc : e ≠ 0 ∨ e = 0 ∧ kind = 0 ∨ e = 0 ∧ kind ≠ 0 ∧ a = kind := by omega
  clear h hc
  rcases hcc with he | ⟨rfl, rfl⟩ | ⟨rfl, hk, rfl⟩
  · have hb1 : (e == 0) = false := by simpa using he
    go_enter Tryz.func18, Tryz.ntmps18
    go_wp2_with (go_at_call 62; refine hG.mono ?_; rintro r w1 ⟨rfl, hb⟩; obtain ⟨hb, e0, e1, e2, ef, hlt⟩ := new3 hb; have HB := hidden hb; have f0 := ef 0; have f1 := ef 1; have f2 := ef 2; clear hb ef)
    refine bodyPost_ret (v := .tuple #[.agg #[.int .i64 a, .int .i64 b, .int .i64 c], .int .i64 e]) (by simp [results, Tryz.results18, go_sem, e0, e1, e2, hlt]) rfl ⟨rfl, below3 HB.out _ _ _ _⟩
  · go_enter Tryz.func18, Tryz.ntmps18
    go_wp2_with (go_at_call 62; refine hG.mono ?_; rintro r w1 ⟨rfl, hb⟩; obtain ⟨hb, e0, e1, e2, ef, hlt⟩ := new3 hb; have HB := hidden hb; have f0 := ef 0; have f1 := ef 1; have f2 := ef 2; clear hb ef)
    refine bodyPost_ret (v := .tuple #[.agg #[.int .i64 a, .int .i64 b, .int .i64 c], .int .i64 0]) (by simp [results, Tryz.results18, go_sem, e0, e1, e2, hlt]) rfl ⟨rfl, below3 HB.out _ _ _ _⟩
  · have hb1 : (a == 0) = false := by simpa using hk
    go_enter Tryz.func18, Tryz.ntmps18
    go_wp2_with (go_at_call 62; refine hG.mono ?_; rintro r w1 ⟨rfl, hb⟩; obtain ⟨hb, e0, e1, e2, ef, hlt⟩ := new3 hb; have HB := hidden hb; have f0 := ef 0; have f1 := ef 1; have f2 := ef 2; clear hb ef)
    refine bodyPost_ret (v := .tuple #[.agg #[.int .i64 a, .int .i64 b, .int .i64 c], .int .i64 0]) (by simp [results, Tryz.results18, go_sem, e0, e1, e2, hlt]) rfl ⟨rfl, below3 HB.out _ _ _ _⟩
set_option maxHeartbeats 2000000 in
theorem cof_kind {w : World} {S : CO} (h : Sep w S.hl) {x : Nat} {a b c kind : Int} (hG : Calls Tryz.prog 62 #[.pointer (some ⟨S.t, 0, none⟩), .int .u32 (x : Int)] (w.alloc (.cells #[.int .i64 0, .int .i64 0, .int .i64 0] 39)) (Told (w.alloc (.cells #[.int .i64 0, .int .i64 0, .int .i64 0] 39)) (.tuple #[.agg #[.int .i64 a, .int .i64 b, .int .i64 c], .int .i64 0])))
    (hk : kind ≠ 0) (ha : a ≠ kind) : Calls Tryz.prog 18 #[.pointer (some ⟨S.c, 0, none⟩), .int .u32 (x : Int), .int .i64 kind] w (Told w (.tuple #[.agg #[.int .i64 0, .int .i64 0, .int .i64 0], .int .i64 10])) := by
  have c1 := CO.c1 (h.alloc (.cells #[.int .i64 0, .int .i64 0, .int .i64 0] 39))
  have hb1 : (kind == 0) = false := by simpa using hk
  have hb2 : (a == kind) = false := by simpa using ha
  have hb3 : (kind != 0) = true := by simpa using hk
  have hb4 : (a != kind) = true := by simpa using ha
  clear h hk ha
  go_enter Tryz.func18, Tryz.ntmps18
  go_wp2_with (go_at_call 62; refine hG.mono ?_; rintro r w1 ⟨rfl, hb⟩; obtain ⟨hb, e0, e1, e2, ef, hlt⟩ := new3 hb; have HB := hidden hb; have f0 := ef 0; have f1 := ef 1; have f2 := ef 2; clear hb ef)
  refine bodyPost_ret (v := .tuple #[.agg #[.int .i64 0, .int .i64 0, .int .i64 0], .int .i64 10]) (by simp [results, Tryz.results18, go_sem, e0, e1, e2, hlt]) rfl ⟨rfl, below3 HB.out _ _ _ _⟩
/-! Of, by what the handle names. -/
section
variable {w : World} {S : CO} {fr : List Nat} {N K : Nat}
theorem cof_none (h : Sep w S.hl) (ok : LOk S.l) {x : Nat} (hx : x < 4294967296) (kind : Int) (hp : pget S.l 1 x = none) : Calls Tryz.prog 18 #[.pointer (some ⟨S.c, 0, none⟩), .int .u32 (x : Int), .int .i64 kind] w (Told w (.tuple #[zobj, .int .i64 8])) :=
  cof_gen h (hget_none (h := S.ht) (CO.sT (h.alloc _)) ok hx hp) (.inl (by decide))
theorem cof_some (h : Sep w S.hl) (ok : LOk S.l) {x : Nat} (hx : x < 4294967296) (kind : Int) {p : Pl} (hp : pget S.l 1 x = some p) (hk : kind = 0 ∨ (p.kind : Int) = kind) : Calls Tryz.prog 18 #[.pointer (some ⟨S.c, 0, none⟩), .int .u32 (x : Int), .int .i64 kind] w (Told w (.tuple #[p.obj, .int .i64 0])) :=
  cof_gen h (hget_some (h := S.ht) (CO.sT (h.alloc _)) ok hx hp) (.inr hk)
theorem cof_other (h : Sep w S.hl) (ok : LOk S.l) {x : Nat} (hx : x < 4294967296) (kind : Int) {p : Pl} (hp : pget S.l 1 x = some p) (h0 : kind ≠ 0) (hk : (p.kind : Int) ≠ kind) : Calls Tryz.prog 18 #[.pointer (some ⟨S.c, 0, none⟩), .int .u32 (x : Int), .int .i64 kind] w (Told w (.tuple #[zobj, .int .i64 10])) :=
  cof_kind h (hget_some (h := S.ht) (CO.sT (h.alloc _)) ok hx hp) h0 hk
end
end Go.Proofs.YtcnbbenmlffgpaaGreatDoor
