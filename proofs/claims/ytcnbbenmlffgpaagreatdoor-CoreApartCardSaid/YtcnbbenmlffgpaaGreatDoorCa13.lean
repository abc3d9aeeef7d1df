/- CoreApart returns true at every input. No condition. Part of its proof. -/
import Derived.Test.YtcnbbenmlffgpaaGreatDoorCa02
import Derived.Deep.AppendSrc
import Derived.Test.YtcnbbenmlffgpaaGreatDoorCa11
import Derived.Test.YtcnbbenmlffgpaaGreatDoorCa12
import Derived.Deep.MidRow
import Derived.Deep.LoopGhost
set_option linter.unusedVariables false
/- New slices of handles: what is read of them. No condition. -/
namespace Go.Proofs.YtcnbbenmlffgpaaGreatDoor
open Go.RowKit

def hands (l : List Nat) : List Value := l.map fun (a : Nat) => Value.int .u32 (a : Int)
theorem hands_len (l : List Nat) : (hands l).length = l.length := by simp [hands]
theorem hands_app (l m : List Nat) : hands (l ++ m) = hands l ++ hands m := by simp [hands]
theorem hands_at {l : List Nat} {j x : Nat} (h : l[j]? = some x) : (hands l)[j]? = some (.int .u32 (x : Int)) := by unfold hands; rw [List.getElem?_map, h]; rfl
/-- A new slice of these handles. -/
def NewHs (w : World) (l : List Nat) (r : Ending) (w' : World) : Prop := ∃ v, r = .returned v ∧ w'.ownsRow w.heap.size 32 1 v l.length (hands l) ∧ Below w.heap.size w w'
/-- What is known of a slice of handles that was made since w: where it is, and what lies there as long as nobody turns it. -/
structure IsHs (B : Nat) (L : List Nat) (a : Option Addr) (w : World) : Prop where
  at' : ∀ (j x : Nat), L[j]? = some x → ∃ g, a = some ⟨g, 0, none⟩ ∧ B ≤ g ∧ g < w.heap.size ∧ w.cell? ⟨g, j, none⟩ = some (.int .u32 (x : Int))
theorem IsHs.below {B : Nat} {L : List Nat} {a : Option Addr} {w w' : World} (h : IsHs B L a w) (hb : Below w.heap.size w w') : IsHs B L a w' := ⟨fun j x hj => by
  obtain ⟨g, h1, h2, h3, h4⟩ := h.at' j x hj
  exact ⟨g, h1, h2, Nat.lt_of_lt_of_le h3 hb.size, (World.cell?_of_block (w := w) (hb.block g h3)).trans h4⟩⟩
theorem IsHs.kept {B : Nat} {L : List Nat} {a : Option Addr} {w w' : World} (h : IsHs B L a w) (hs : w.heap.size ≤ w'.heap.size) (hb : ∀ g, B ≤ g → g < w.heap.size → (∃ b, a = some b ∧ b.block = g) → w'.heap[g]? = w.heap[g]?) : IsHs B L a w' := ⟨fun j x hj => by
  obtain ⟨g, h1, h2, h3, h4⟩ := h.at' j x hj
  exact ⟨g, h1, h2, Nat.lt_of_lt_of_le h3 hs, (World.cell?_of_block (w := w) (hb g h2 h3 ⟨_, h1, rfl⟩)).trans h4⟩⟩
theorem NewHs.shape {w : World} {L : List Nat} {r : Ending} {w' : World} (h : NewHs w L r w') : ∃ (a : Option Addr) (cap : Nat), r = .returned (.slice a L.length cap) ∧ Below w.heap.size w w' ∧ IsHs w.heap.size L a w' := by
  obtain ⟨v, rfl, ⟨_, h2⟩, hb⟩ := h
  rcases h2 with ⟨rfl, h0⟩ | ⟨g, cap, cur, rfl, hg, hgb, hn, hm, hs, htk⟩
  · refine ⟨none, 0, by rw [h0], hb, ⟨fun j x hj => ?_⟩⟩
    have := (List.getElem?_eq_some_iff.1 hj).1
    omega
  · refine ⟨_, cap, rfl, hb, ⟨fun j x hj => ⟨g, rfl, hg, lt_of_block hgb, ?_⟩⟩⟩
    have hv := hands_at hj
    rw [← htk, List.getElem?_take] at hv
    split at hv
    · simp only [World.cell?, hgb, Option.isSome_none, Bool.false_eq_true, if_false]
      rw [← Array.getElem?_toList]; exact hv
    · cases hv
/-- A row of handles under way. -/
def OutH (w wr : World) (v : Value) (L : List Nat) : Prop := wr.ownsRow w.heap.size 32 1 v L.length (hands L) ∧ Below w.heap.size w wr
theorem OutH.nil (w : World) : OutH w w (.slice none 0 0) [] := ⟨World.ownsRow_nil _ _ _ _, Below.refl _ _⟩
/-- Behind an append; o, o1, o2: what was made for it. -/
theorem OutH.app0 {w wr w1 : World} {v v' : Value} {L M : List Nat} (h : OutH w wr v L) (hown : w1.ownsRow w.heap.size 32 1 v' (L.length + M.length) (hands L ++ hands M)) (hg : wr.grownBy w1 v.ownBlock) : OutH w w1 v' (L ++ M) :=
  ⟨by rw [List.length_append, hands_app]; exact hown, h.2.trans ((Below.refl _ wr).mono h.2.size |>.grown hg h.2.size (fun b hb => (h.1.lt b hb).1))⟩
theorem OutH.alloc {w wr : World} {v : Value} {L : List Nat} (h : OutH w wr v L) (o : Obj) : OutH w (wr.alloc o) v L := ⟨h.1.alloc _, h.2.alloc h.2.size _⟩
theorem OutH.app1 {w wr w1 : World} {v v' : Value} {L M : List Nat} {o : Obj} (h : OutH w wr v L) (hown : w1.ownsRow w.heap.size 32 1 v' (L.length + M.length) (hands L ++ hands M)) (hg : (wr.alloc o).grownBy w1 v.ownBlock) : OutH w w1 v' (L ++ M) := (h.alloc o).app0 hown hg
theorem OutH.app2 {w wr w1 : World} {v v' : Value} {L M : List Nat} {o o2 : Obj} (h : OutH w wr v L) (hown : w1.ownsRow w.heap.size 32 1 v' (L.length + M.length) (hands L ++ hands M)) (hg : ((wr.alloc o).alloc o2).grownBy w1 v.ownBlock) : OutH w w1 v' (L ++ M) := ((h.alloc o).alloc o2).app0 hown hg
theorem OutH.below {w wr w1 : World} {v : Value} {L : List Nat} (h : OutH w wr v L) (hb : Below wr.heap.size wr w1) : OutH w w1 v L :=
  ⟨h.1.kept (row := none) ⟨hb.os, hb.tape, hb.output, hb.size, fun k hk _ => hb.block k hk⟩ (by cases hv : v.ownBlock with | none => exact .inl rfl | some b => exact .inr (by simp)), h.2.trans (hb.mono h.2.size)⟩
theorem newh_cell (w : World) (x : Value) : ∀ j u, [x][j]? = some u → (w.alloc (.cells #[x] 32)).cell? ((⟨w.heap.size, 0, none⟩ : Addr).add j) = some u := by
  intro j u hj
  have := (Cells.new w 32 [x]).cell j u hj
  have e : (⟨w.heap.size, 0, none⟩ : Addr).add j = ⟨w.heap.size, j, none⟩ := by unfold Addr.add; split <;> simp_all
  rw [e]; exact this
theorem newh_cell2 (w : World) (o : Obj) (x : Value) : ∀ j u, [x][j]? = some u → ((w.alloc o).alloc (.cells #[x] 32)).cell? ((⟨w.heap.size + 1, 0, none⟩ : Addr).add j) = some u := by
  intro j u hj
  have := newh_cell (w.alloc o) x j u hj
  rw [World.size_alloc] at this
  exact this
theorem infoHandle : (Tryz.prog.info? 32).map (fun i => (i.zero, i.size, i.bytes)) = some (some (.int .u32 0), 1, 4) := by kernel_rfl
end Go.Proofs.YtcnbbenmlffgpaaGreatDoor

/- Walks of the tree's Carve and Close. Conditions: the tree's blocks hold what QT.hl says. -/
namespace Go.Proofs.YtcnbbenmlffgpaaGreatDoor
open Go.RowKit

def carved (q : QT) (id : Int) (e : En Fa) (b : Nat) (limit : Int) : QT := { q with E := upd q.E id { e.q with given := e.q.given + limit, kids := e.q.kids + 1 } ++ [⟨q.next, b, ⟨limit, 0, 0, id, 0⟩⟩], next := q.next + 1 }
def CarvedQ (w : World) (q : QT) (id : Int) (e : En Fa) (limit : Int) (r : Ending) (w' : World) : Prop := r = .returned (.tuple #[.int .i64 q.next, .int .i64 0]) ∧ ∃ b, Step q.hl (carved q id e b limit).hl w w'
def closed (q : QT) (par : Int) (e c : En Fa) (id : Int) : QT := { q with E := rem (upd q.E par { e.q with given := e.q.given - c.q.limit, kids := e.q.kids - 1 }) id }
def ClosedQ (w : World) (q : QT) (par : Int) (e c : En Fa) (id : Int) (r : Ending) (w' : World) : Prop := r = .returned (.int .i64 0) ∧ Step q.hl (closed q par e c id).hl w w'
theorem upd_snoc {α : Type} (E : List (En α)) (x : En α) (id : Int) (f : α) (h : x.id ≠ id) : upd (E ++ [x]) id f = upd E id f ++ [x] := by
  simp [upd, h]
theorem QT.next_none {q : QT} (ok : q.Ok) : find q.E q.next = none := by
  cases h : find q.E q.next with
  | none => rfl
  | some e => have := (ok.fa _ e h).2.2.2.2.2.2.2; omega
theorem pw_snoc {q : QT} (ok : q.Ok) (b : Nat) (f : Fa) : (q.E ++ [(⟨q.next, b, f⟩ : En Fa)]).Pairwise (fun a b => a.id ≠ b.id) := by
  rw [List.pairwise_append]
  refine ⟨ok.ids, by simp, fun x hx y hy => ?_⟩
  rw [List.mem_singleton] at hy
  subst hy
  exact find_none (QT.next_none ok) x hx
/-- Behind the map's store: both stores into the factory that it is carved from. -/
theorem QT.carve {w : World} {q : QT} (h : Sep w q.hl) (ok : q.Ok) {id : Int} {e : En Fa} (hf : find q.E id = some e) (limit : Int) (w4 : World) (hm : MapInt w4 q.m (put (kvs q.E) q.next (ptr w.heap.size)))
    (hg : ((w.setCell ⟨q.t, 1, none⟩ (.int .i64 (q.next + 1))).alloc (.cells #[.int .i64 limit, .int .i64 0, .int .i64 0, .int .i64 id, .int .i64 0] 137)).grownBy w4 (some q.m)) :
    w4.cell? ⟨e.b, 2, none⟩ = some (.int .i64 e.q.given) ∧ w4.cell? ⟨e.b, 4, none⟩ = some (.int .i64 e.q.kids) ∧ (∀ i, w4.frozen? ⟨e.b, i, none⟩ = false) ∧
      Step q.hl (carved q id e w.heap.size limit).hl w ((w4.setCell ⟨e.b, 2, none⟩ (.int .i64 (e.q.given + limit))).setCell ⟨e.b, 4, none⟩ (.int .i64 (e.q.kids + 1))) := by
  have hno := QT.next_none ok
  have hne : q.next ≠ id := fun e' => by rw [e', hf] at hno; cases hno
  have s1 : Step q.hl ({ q with next := q.next + 1 } : QT).hl w (w.setCell ⟨q.t, 1, none⟩ (.int .i64 (q.next + 1))) := Sep.set (A := []) (B := (q.m, isMI (kvs q.E)) :: facH q.E) h 1 (.int .i64 (q.next + 1))
  have hsz : (w.setCell ⟨q.t, 1, none⟩ (.int .i64 (q.next + 1))).heap.size = w.heap.size := by simp [World.setCell]
  have s2 := s1.sep.new 137 [.int .i64 limit, .int .i64 0, .int .i64 0, .int .i64 id, .int .i64 0]
  rw [hsz] at s2
  obtain ⟨es, clock, ho, hr⟩ := hm
  have s3 := Sep.turn (A := [(w.heap.size, isC 137 [.int .i64 limit, .int .i64 0, .int .i64 0, .int .i64 id, .int .i64 0]), (q.t, isC 172 [.map (some q.m), .int .i64 (q.next + 1)])]) (B := facH q.E) (q' := isMI (put (kvs q.E) q.next (ptr w.heap.size))) s2.sep hg ⟨_, ho, es, clock, rfl, hr⟩
  rw [put_kvs q.E q.next w.heap.size ⟨limit, 0, 0, id, 0⟩ hno] at s3
  have s123 := (s1.trans s2).trans s3
  obtain ⟨q1, hq1⟩ : ∃ q1 : QT, q1 = { q with E := q.E ++ [⟨q.next, w.heap.size, ⟨limit, 0, 0, id, 0⟩⟩], next := q.next + 1 } := ⟨_, rfl⟩
  have s4 : Step q.hl q1.hl w w4 := by
    refine s123.perm (List.Perm.refl _) ?_
    rw [hq1]
    simp only [QT.hl, facH, List.map_append, List.map_cons, List.map_nil, List.cons_append, List.nil_append, Fa.cells]
    refine (List.Perm.swap _ _ _).trans (List.Perm.cons _ ?_)
    refine (List.Perm.swap _ _ _).trans (List.Perm.cons _ ?_)
    exact (List.perm_append_singleton _ _).symm
  have hids1 : q1.E.Pairwise (fun a b => a.id ≠ b.id) := by rw [hq1]; exact pw_snoc ok _ _
  have hf1 : find q1.E id = some e := by
    rw [hq1]
    show find (q.E ++ [_]) id = _
    rw [find_append, hf]
  have k := QT.fac s4.sep hf1
  have s5 := QT.setF s4.sep hids1 hf1 2 (.int .i64 (e.q.given + limit)) { e.q with given := e.q.given + limit } rfl
  have hf2 : find (upd q1.E id { e.q with given := e.q.given + limit }) id = some { e with q := { e.q with given := e.q.given + limit } } := find_upd_same hf1 _
  have hids2 : (upd q1.E id { e.q with given := e.q.given + limit }).Pairwise (fun a b => a.id ≠ b.id) := upd_pairwise _ _ (fun a b a' b' _ h1 _ h2 h => by rw [← h1, ← h2]; exact h) hids1
  have s6 := QT.setF (q := { q1 with E := upd q1.E id { e.q with given := e.q.given + limit } }) s5.sep hids2 hf2 4 (.int .i64 (e.q.kids + 1)) { e.q with given := e.q.given + limit, kids := e.q.kids + 1 } rfl
  refine ⟨k.cell 2 _ rfl, k.cell 4 _ rfl, k.free, ?_⟩
  have := (s4.trans s5).trans s6
  have e1 : upd (upd q1.E id { e.q with given := e.q.given + limit }) id { e.q with given := e.q.given + limit, kids := e.q.kids + 1 } = upd q.E id { e.q with given := e.q.given + limit, kids := e.q.kids + 1 } ++ [⟨q.next, w.heap.size, ⟨limit, 0, 0, id, 0⟩⟩] := by
    rw [upd_upd, hq1]
    exact upd_snoc _ _ _ _ hne
  rw [e1] at this
  rw [hq1] at this
  exact this
theorem ok_carved {q : QT} (ok : q.Ok) {id : Int} {e : En Fa} (hf : find q.E id = some e) (b : Nat) {limit : Int} (h0 : 0 ≤ limit) (hfit : limit ≤ e.q.limit - (e.q.charged + e.q.given)) (hn : q.next + 1 < 1048576) : (carved q id e b limit).Ok := by
  have hno := QT.next_none ok
  have hn0 := ok.next0
  have hne : q.next ≠ id := fun e' => by rw [e', hf] at hno; cases hno
  have hids : (upd q.E id { e.q with given := e.q.given + limit, kids := e.q.kids + 1 }).Pairwise (fun a b => a.id ≠ b.id) := upd_pairwise _ _ (fun a b a' b' _ h1 _ h2 h => by rw [← h1, ← h2]; exact h) ok.ids
  refine ⟨?_, by show 0 < q.next + 1; omega, hn, fun j x hx => ?_⟩
  · show (upd q.E id _ ++ [_]).Pairwise _
    rw [List.pairwise_append]
    refine ⟨hids, by simp, fun x hx y hy => ?_⟩
    rw [List.mem_singleton] at hy
    subst hy
    obtain ⟨y, hy, _, h2, _⟩ := mem_upd hx
    rw [← h2]
    exact find_none hno y hy
  · have hx' : find (upd q.E id { e.q with given := e.q.given + limit, kids := e.q.kids + 1 } ++ [⟨q.next, b, ⟨limit, 0, 0, id, 0⟩⟩]) j = some x := hx
    show _ ∧ _ ∧ _ ∧ _ ∧ _ ∧ _ < q.next + 1 ∧ _ ∧ j < q.next + 1
    obtain ⟨f1, f2, f3, f4, f5, f6, f7, f8⟩ := ok.fa id e hf
    rw [find_append] at hx'
    by_cases hj : j = id
    · subst hj
      rw [find_upd_same hf] at hx'
      cases hx'
      show 0 ≤ e.q.charged ∧ 0 ≤ e.q.given + limit ∧ e.q.charged + (e.q.given + limit) ≤ e.q.limit ∧ e.q.limit ≤ _ ∧ 0 ≤ e.q.kids + 1 ∧ e.q.kids + 1 < q.next + 1 ∧ 0 ≤ j ∧ j < q.next + 1
      omega
    · rw [find_upd_other hj] at hx'
      cases hc : find q.E j with
      | some y =>
        rw [hc] at hx'
        cases hx'
        obtain ⟨g1, g2, g3, g4, g5, g6, g7, g8⟩ := ok.fa j x hc
        omega
      | none =>
        rw [hc] at hx'
        simp only at hx'
        split at hx'
        · rename_i h'
          cases hx'
          have h'' : j = q.next := h'
          show 0 ≤ (0 : Int) ∧ 0 ≤ (0 : Int) ∧ (0 : Int) + 0 ≤ limit ∧ limit ≤ 1073741824 ∧ 0 ≤ (0 : Int) ∧ (0 : Int) < q.next + 1 ∧ 0 ≤ j ∧ j < q.next + 1
          omega
        · cases hx'
theorem ok_closed {q : QT} (ok : q.Ok) {par id : Int} {e c : En Fa} (he : find q.E par = some e) (hc : find q.E id = some c) (hne : par ≠ id) (h1 : 0 ≤ e.q.given - c.q.limit) (h2 : 0 ≤ e.q.kids - 1) (h3 : 0 ≤ c.q.limit) : (closed q par e c id).Ok := by
  have hids : (upd q.E par { e.q with given := e.q.given - c.q.limit, kids := e.q.kids - 1 }).Pairwise (fun a b => a.id ≠ b.id) := upd_pairwise _ _ (fun a b a' b' _ h1 _ h2 h => by rw [← h1, ← h2]; exact h) ok.ids
  refine ⟨hids.sublist (rem_sublist _ _), ok.next0, ok.next1, fun j x hx => ?_⟩
  have hx' : find (rem (upd q.E par { e.q with given := e.q.given - c.q.limit, kids := e.q.kids - 1 }) id) j = some x := hx
  show _ ∧ _ ∧ _ ∧ _ ∧ _ ∧ _ < q.next ∧ _ ∧ j < q.next
  rw [find_rem hids] at hx'
  split at hx'
  · cases hx'
  · by_cases hj : j = par
    · subst hj
      rw [find_upd_same he] at hx'
      cases hx'
      obtain ⟨f1, f2, f3, f4, f5, f6, f7, f8⟩ := ok.fa j e he
      show 0 ≤ e.q.charged ∧ 0 ≤ e.q.given - c.q.limit ∧ e.q.charged + (e.q.given - c.q.limit) ≤ e.q.limit ∧ e.q.limit ≤ _ ∧ 0 ≤ e.q.kids - 1 ∧ e.q.kids - 1 < q.next ∧ 0 ≤ j ∧ j < q.next
      omega
    · rw [find_upd_other hj] at hx'
      exact ok.fa j x hx'
/-- The stores and the delete of a Close. -/
theorem QT.close {w : World} {q : QT} (h : Sep w q.hl) (ok : q.Ok) {par id : Int} {e c : En Fa} (he : find q.E par = some e) (hc : find q.E id = some c) (w4 : World) (hm : MapInt w4 q.m (del (kvs q.E) id))
    (hg : ((w.setCell ⟨e.b, 2, none⟩ (.int .i64 (e.q.given - c.q.limit))).setCell ⟨e.b, 4, none⟩ (.int .i64 (e.q.kids - 1))).grownBy w4 (some q.m)) : Step q.hl (closed q par e c id).hl w w4 := by
  have s1 := QT.setF h ok.ids he 2 (.int .i64 (e.q.given - c.q.limit)) { e.q with given := e.q.given - c.q.limit } rfl
  have hf2 : find (upd q.E par { e.q with given := e.q.given - c.q.limit }) par = some { e with q := { e.q with given := e.q.given - c.q.limit } } := find_upd_same he _
  have hids2 : (upd q.E par { e.q with given := e.q.given - c.q.limit }).Pairwise (fun a b => a.id ≠ b.id) := upd_pairwise _ _ (fun a b a' b' _ h1 _ h2 h => by rw [← h1, ← h2]; exact h) ok.ids
  have s2 := QT.setF (q := { q with E := upd q.E par { e.q with given := e.q.given - c.q.limit } }) s1.sep hids2 hf2 4 (.int .i64 (e.q.kids - 1)) { e.q with given := e.q.given - c.q.limit, kids := e.q.kids - 1 } rfl
  have s12 := s1.trans s2
  rw [show upd (upd q.E par { e.q with given := e.q.given - c.q.limit }) par { e.q with given := e.q.given - c.q.limit, kids := e.q.kids - 1 } = upd q.E par { e.q with given := e.q.given - c.q.limit, kids := e.q.kids - 1 } from upd_upd _ _ _ _] at s12
  obtain ⟨es, clock, ho, hr⟩ := hm
  have s3 := Sep.turn (A := [(q.t, isC 172 [.map (some q.m), .int .i64 q.next])]) (B := facH (upd q.E par { e.q with given := e.q.given - c.q.limit, kids := e.q.kids - 1 })) (q' := isMI (del (kvs q.E) id)) s12.sep hg ⟨_, ho, es, clock, rfl, hr⟩
  have s4 := s12.trans s3
  rw [del_kvs, show kvs (rem q.E id) = kvs (rem (upd q.E par { e.q with given := e.q.given - c.q.limit, kids := e.q.kids - 1 }) id) by rw [← del_kvs, ← del_kvs, kvs_upd]] at s4
  refine s4.drop ?_
  show List.Sublist (_ :: _ :: facH (rem _ id)) (_ :: _ :: facH _)
  refine List.Sublist.cons_cons _ (List.Sublist.cons_cons _ ?_)
  exact (rem_sublist _ _).map _
end Go.Proofs.YtcnbbenmlffgpaaGreatDoor

/- What the core's methods come to, as words: Make, Doom, Tick; what keeps. No condition. -/
namespace Go.Proofs.YtcnbbenmlffgpaaGreatDoor
open Go.RowKit

def leftOf (e : En Fa) : Int := e.q.limit - (e.q.charged + e.q.given)
/-- A handle and an error. -/
def two (x : Nat) (e : Int) : Ending := .returned (.tuple #[.int .u32 (x : Int), .int .i64 e])
structure MadeOk (S : CO) (fr : List Nat) (f : Pl) (e : En Fa) (n a : Nat) (lim : Int) (x : Nat) (i : Nat) (p : Pl) (P' : PL) (fr' : List Nat) : Prop where
  inv : Inv P' (S.l.set i ⟨n, a, f.own, 1, p.age, x⟩) fr' x0 (S.ts.map Prod.fst)
  same : SameP S.P P'
  kept : KeptL S.P.a.mem P'.a.mem S.l
  next : P'.q.next ≤ S.P.q.next + 1
  fac : n ≠ 1 → P'.q.E = upd S.P.q.E f.own { e.q with charged := e.q.charged + ((costK n : Nat) : Int) }
  fac1 : n = 1 → (x : Int) = S.P.q.next ∧ P'.q.next = S.P.q.next + 1 ∧ ∃ b, P'.q.E = upd S.P.q.E f.own { e.q with charged := e.q.charged + 64, given := e.q.given + lim, kids := e.q.kids + 1 } ++ [⟨x, b, ⟨lim, 0, 0, f.own, 0⟩⟩]
  zero : n ≠ 1 → ∀ j, a ≤ j → j < a + costK n → P'.a.mem[j]? = some 0
  few : P'.d.ps.length ≤ S.P.d.ps.length + 1
  high : ∀ j, 6 ≤ j → (P'.usedOf j).Perm (S.P.usedOf j)
  room : a + costK n ≤ S.P.a.mem.length
def CO.made (S : CO) (f : Pl) (n a x i : Nat) (p : Pl) (P' : PL) : CO := (S.setP P').setL (S.l.set i ⟨n, a, f.own, 1, p.age, x⟩)
/-- A Make of a kind that there is, through a factory. -/
def MakeK (S : CO) (fr : List Nat) (f : Pl) (e : En Fa) (n : Nat) (lim : Int) (w : World) (r : Ending) (w' : World) : Prop :=
  (leftOf e < ((costK n : Nat) : Int) ∧ r = two 0 5 ∧ Step S.hl S.hl w w') ∨
  (((costK n : Nat) : Int) ≤ leftOf e ∧ NoPage S.P ∧ r = two 0 4 ∧ Step S.hl S.hl w w') ∨
  (((costK n : Nat) : Int) ≤ leftOf e ∧ ∃ (er : Int) (P' : PL), ((er = 11 ∧ ((∀ p ∈ S.l, p.st ≠ 0) ∨ n = 1 ∧ S.P.q.E.length = 32)) ∨ (er = 5 ∧ n = 1 ∧ leftOf e - 64 < lim)) ∧ Tried S.P fr S.l P' ∧ r = two 0 er ∧ Step S.hl (S.setP P').hl w w') ∨
  (∃ (i : Nat) (p : Pl) (a x : Nat) (P' : PL) (fr' : List Nat), S.l[i]? = some p ∧ p.st = 0 ∧ (∀ j q, j < i → S.l[j]? = some q → q.st ≠ 0) ∧ ((costK n : Nat) : Int) ≤ leftOf e ∧ r = two (nm i p) 0 ∧ MadeOk S fr f e n a lim x i p P' fr' ∧ Step S.hl (S.made f n a x i p P').hl w w')
/-- A Make, whatever it is asked for. -/
def MakeR (S : CO) (fr : List Nat) (h : Nat) (k lim : Int) (w : World) (r : Ending) (w' : World) : Prop :=
  (pget S.l 1 h = none ∧ r = two 0 8 ∧ Step S.hl S.hl w w') ∨
  ∃ f, pget S.l 1 h = some f ∧ ((f.kind ≠ 1 ∧ r = two 0 10 ∧ Step S.hl S.hl w w') ∨
    (f.kind = 1 ∧ (¬ (k = 8 ∨ 1 ≤ k ∧ k ≤ 5) ∨ k = 1 ∧ lim < 0) ∧ r = two 0 1 ∧ Step S.hl S.hl w w') ∨
    ∃ (n : Nat) (e : En Fa), k = (n : Int) ∧ f.kind = 1 ∧ (n = 8 ∨ 1 ≤ n ∧ n ≤ 5) ∧ (n = 1 → 0 ≤ lim) ∧ find S.P.q.E f.own = some e ∧ MakeK S fr f e n lim w r w')
def DoomR (S : CO) (h : Nat) (w : World) (r : Ending) (w' : World) : Prop :=
  (pget S.l 1 h = none ∧ r = .returned (.int .i64 8) ∧ Step S.hl S.hl w w') ∨
  (pget S.l 1 h ≠ none ∧ h = 0 ∧ r = .returned (.int .i64 1) ∧ Step S.hl S.hl w w') ∨
  (pget S.l 1 h ≠ none ∧ h ≠ 0 ∧ kids S.l h ≠ [] ∧ r = .returned (.int .i64 12) ∧ Step S.hl S.hl w w') ∨
  (∃ p rv, pget S.l 1 h = some p ∧ h ≠ 0 ∧ kids S.l h = [] ∧ ovOk rv (S.ts.length + 1) ∧ r = .returned (.int .i64 0) ∧ Step S.hl (S.doomed h p rv).hl w w')
/-- A tick: these were freed. -/
def TickR (S : CO) (fr : List Nat) (N K : Nat) (w : World) (r : Ending) (w' : World) : Prop :=
  ∃ (rv : OV) (S' : CO) (fr' : List Nat) (v : Value), r = .returned v ∧ w'.ownsRow w.heap.size 32 1 v (dueN S).length (hands (dueN S)) ∧ ovOk rv (dueT S).length ∧ Ticked (S.setG (S.now + 1) rv (dueT S)) S' (dueN S) ∧ S'.Ok fr' N (K + 1) ∧
    Step S.hl S'.hl w w' ∧ ∀ b ∈ keys S'.hl, v.ownBlock ≠ some b
/-- A core that went on. -/
def Goes (S : CO) (N K : Nat) (w w' : World) : Prop := ∃ S' fr', S'.Ok fr' N K ∧ Went S S' ∧ Step S.hl S'.hl w w'
theorem CO.Ok.mono {S : CO} {fr : List Nat} {N N' K K' : Nat} (ok : S.Ok fr N K) (h1 : N ≤ N') (h2 : K ≤ K') : S.Ok fr N' K' :=
  ⟨ok.inv, ok.per, ok.due, ok.ord, ok.ov, by have := ok.next; omega, Nat.le_trans ok.now h2, ok.age⟩
theorem MadeOk.ok {S : CO} {fr : List Nat} {N K : Nat} (ok : S.Ok fr N K) {f : Pl} {e : En Fa} {n a x i : Nat} {lim : Int} {p : Pl} {P' : PL} {fr' : List Nat} (m : MadeOk S fr f e n a lim x i p P' fr') (hi : S.l[i]? = some p) : (S.made f n a x i p P').Ok fr' (N + 1) K :=
  ok.made m.inv (by have := m.next; have := ok.next; omega) (age_set ok.age (ok.age p (List.mem_of_getElem? hi)))
theorem MadeOk.went {S : CO} {fr : List Nat} {N K : Nat} (ok : S.Ok fr N K) {f : Pl} {e : En Fa} {n a x i : Nat} {lim : Int} {p : Pl} {P' : PL} {fr' : List Nat} (m : MadeOk S fr f e n a lim x i p P' fr') (hi : S.l[i]? = some p) (hp : p.st = 0) : Went S (S.made f n a x i p P') :=
  Went.made ok m.same hi hp rfl m.kept m.high
/-- Whatever a Make comes to, the core goes on. -/
theorem MakeR.goes {S : CO} {fr : List Nat} {N K : Nat} (ok : S.Ok fr N K) {h : Nat} {k lim : Int} {w w' : World} {r : Ending} (m : MakeR S fr h k lim w r w') : (∃ x er, r = two x er) ∧ ∃ S' fr', S'.Ok fr' (N + 1) K ∧ Went S S' ∧ S'.now = S.now ∧ Step S.hl S'.hl w w' := by
  rcases m with ⟨_, rfl, st⟩ | ⟨f, _, ⟨_, rfl, st⟩ | ⟨_, _, rfl, st⟩ | ⟨n, e, _, _, _, _, _, ⟨_, rfl, st⟩ | ⟨_, _, rfl, st⟩ | ⟨_, er, P', _, t, rfl, st⟩ | ⟨i, p, a, x, P', fr', h1, h2, _, _, rfl, m, st⟩⟩⟩
  · exact ⟨⟨_, _, rfl⟩, S, fr, ok.mono (by omega) (Nat.le_refl _), Went.refl S, rfl, st⟩
  · exact ⟨⟨_, _, rfl⟩, S, fr, ok.mono (by omega) (Nat.le_refl _), Went.refl S, rfl, st⟩
  · exact ⟨⟨_, _, rfl⟩, S, fr, ok.mono (by omega) (Nat.le_refl _), Went.refl S, rfl, st⟩
  · exact ⟨⟨_, _, rfl⟩, S, fr, ok.mono (by omega) (Nat.le_refl _), Went.refl S, rfl, st⟩
  · exact ⟨⟨_, _, rfl⟩, S, fr, ok.mono (by omega) (Nat.le_refl _), Went.refl S, rfl, st⟩
  · exact ⟨⟨_, _, rfl⟩, S.setP P', fr, (ok.tried t).mono (by omega) (Nat.le_refl _), Went.tried t, rfl, st⟩
  · exact ⟨⟨_, _, rfl⟩, _, fr', m.ok ok h1, m.went ok h1 h2, rfl, st⟩
theorem DoomR.goes {S : CO} {fr : List Nat} {N K : Nat} (ok : S.Ok fr N K) {h : Nat} {w w' : World} {r : Ending} (m : DoomR S h w r w') : (∃ er, r = .returned (.int .i64 er)) ∧ ∃ S' fr', S'.Ok fr' N K ∧ Went S S' ∧ S'.now = S.now ∧ Step S.hl S'.hl w w' := by
  rcases m with ⟨_, rfl, st⟩ | ⟨_, _, rfl, st⟩ | ⟨_, _, _, rfl, st⟩ | ⟨p, rv, h1, h2, h3, h4, rfl, st⟩
  · exact ⟨⟨_, rfl⟩, S, fr, ok, Went.refl S, rfl, st⟩
  · exact ⟨⟨_, rfl⟩, S, fr, ok, Went.refl S, rfl, st⟩
  · exact ⟨⟨_, rfl⟩, S, fr, ok, Went.refl S, rfl, st⟩
  · exact ⟨⟨_, rfl⟩, _, fr, ok.doomed h1 h2 h3 h4, Went.doomed ok h1 h2 rv, rfl, st⟩
theorem TickR.goes {S : CO} {fr : List Nat} {N K : Nat} {w w' : World} {r : Ending} (m : TickR S fr N K w r w') : (∃ v, r = .returned v) ∧ ∃ S' fr', S'.Ok fr' N (K + 1) ∧ Went S S' ∧ Step S.hl S'.hl w w' := by
  obtain ⟨rv, S', fr', v, rfl, _, _, t, ok, st, _⟩ := m
  exact ⟨⟨_, rfl⟩, S', fr', ok, t.went, st⟩
end Go.Proofs.YtcnbbenmlffgpaaGreatDoor

/- Walks of the table's methods: at, Get, Kill, Free, Peek. Conditions: the table's block holds what HT.hl says, its numbers are in range. -/
namespace Go.Proofs.YtcnbbenmlffgpaaGreatDoor
open Go.RowKit

/-- What the table's numbers keep to. -/
def LOk (l : List Pl) : Prop := l.length = 256 ∧ ∀ p ∈ l, p.st ≤ 3 ∧ p.age ≤ 1048575
theorem LOk.get {l : List Pl} (h : LOk l) (x : Nat) : ∃ p, l[x % 256]? = some p ∧ p.st ≤ 3 ∧ p.age ≤ 1048575 := by
  have hlt : x % 256 < l.length := by rw [h.1]; omega
  exact ⟨l[x % 256], List.getElem?_eq_getElem hlt, h.2 _ (List.getElem_mem hlt)⟩
theorem pget_none {l : List Pl} {s h : Nat} {p : Pl} (hl : l[h % 256]? = some p) : pget l s h = none ↔ nm (h % 256) p ≠ h ∨ p.st ≠ s := by
  unfold pget
  rw [hl]
  simp only
  by_cases hc : nm (h % 256) p = h ∧ p.st = s
  · rw [if_pos hc]
    simp [hc.1, hc.2]
  · rw [if_neg hc]
    have : nm (h % 256) p ≠ h ∨ p.st ≠ s := by
      by_cases h1 : nm (h % 256) p = h
      · exact .inr fun h2 => hc ⟨h1, h2⟩
      · exact .inl h1
    simp [this]
set_option maxHeartbeats 1000000 in
theorem hat_some {w : World} {h : HT} (s : Sep w h.hl) (ok : LOk h.l) {x st : Nat} (hx : x < 4294967296) {p : Pl} (hp : pget h.l st x = some p) :
    Calls Tryz.prog 108 #[.pointer (some ⟨h.t, 0, none⟩), .int .u32 (x : Int), .int .i64 (st : Int)] w fun r w' => r = .returned (.tuple #[.pointer (some ⟨h.t, x % 256 * 5, none⟩), .int .i64 0]) ∧ w = w' := by
  obtain ⟨hi, hn, hs⟩ := pget_some.1 hp
  have ha := (ok.2 p (List.mem_of_getElem? hi)).2
  have k1 := hname_any s hi (by omega) ha
  obtain ⟨-, -, -, c3, -, -⟩ := HT.cell s hi
  have HO := and_place x hx
  rw [hn] at k1
  rw [hs] at c3
  clear s ok hp hi hn hs ha
  have h256 : x % 256 < 256 := by omega
  have hw : IntKind.i64.wrap ((x % 256 : Nat) : Int) = ((x % 256 : Nat) : Int) := Go.IntWalk.i64_in _ (by omega)
  generalize x % 256 = i at *
  go_enter Tryz.func108, Tryz.ntmps108
  go_wp2_with (go_at_call 105; refine k1.mono ?_; rintro e w' ⟨rfl, rfl⟩)
  go_ret2
  exact ⟨rfl, rfl⟩
theorem bne_nat {a b : Nat} (h : a ≠ b) : (((a : Nat) : Int) != ((b : Nat) : Int)) = true := by simp; omega
theorem beq_nat_f {a b : Nat} (h : a ≠ b) : (((a : Nat) : Int) == ((b : Nat) : Int)) = false := by simp; omega
set_option maxHeartbeats 1000000 in
theorem hat_none {w : World} {h : HT} (s : Sep w h.hl) (ok : LOk h.l) {x st : Nat} (hx : x < 4294967296) (hp : pget h.l st x = none) :
    Calls Tryz.prog 108 #[.pointer (some ⟨h.t, 0, none⟩), .int .u32 (x : Int), .int .i64 (st : Int)] w fun r w' => r = .returned (.tuple #[.pointer none, .int .i64 8]) ∧ w = w' := by
  obtain ⟨p, hi, h1, ha⟩ := ok.get x
  have hcase := (pget_none hi).1 hp
  have k1 := hname_any s hi (by omega) ha
  obtain ⟨-, -, -, c3, -, -⟩ := HT.cell s hi
  have HO := and_place x hx
  clear s ok hp hi ha
  have h256 : x % 256 < 256 := by omega
  have hw : IntKind.i64.wrap ((x % 256 : Nat) : Int) = ((x % 256 : Nat) : Int) := Go.IntWalk.i64_in _ (by omega)
  generalize x % 256 = i at *
  generalize nm i p = n at *
  generalize p.st = t at *
  by_cases hn : n = x
  · subst hn
    have ht : t ≠ st := hcase.resolve_left fun h => h rfl
    have hb := bne_nat ht
    have hb2 := beq_nat_f ht
    clear hcase ht
    go_enter Tryz.func108, Tryz.ntmps108
    go_wp2_with (go_at_call 105; refine k1.mono ?_; rintro e w' ⟨rfl, rfl⟩)
    go_ret2
    exact ⟨rfl, rfl⟩
  · have hb := bne_nat hn
    have hb2 := beq_nat_f hn
    clear hcase hn
    go_enter Tryz.func108, Tryz.ntmps108
    go_wp2_with (go_at_call 105; refine k1.mono ?_; rintro e w' ⟨rfl, rfl⟩)
    go_ret2
    exact ⟨rfl, rfl⟩
def Pl.obj (p : Pl) : Value := .agg #[.int .i64 (p.kind : Int), .int .i64 (p.at_ : Int), .int .i64 (p.fac : Int)]
def zobj : Value := .agg #[.int .i64 0, .int .i64 0, .int .i64 0]
set_option maxHeartbeats 1000000 in
theorem hget_some {w : World} {h : HT} (s : Sep w h.hl) (ok : LOk h.l) {x : Nat} (hx : x < 4294967296) {p : Pl} (hp : pget h.l 1 x = some p) :
    Calls Tryz.prog 62 #[.pointer (some ⟨h.t, 0, none⟩), .int .u32 (x : Int)] w (Told w (.tuple #[p.obj, .int .i64 0])) := by
  have hi := (pget_some.1 hp).1
  have hA : Calls Tryz.prog 108 #[.pointer (some ⟨h.t, 0, none⟩), .int .u32 (x : Int), .int .i64 1] (w.alloc (.cells #[.int .i64 0, .int .i64 0, .int .i64 0] 39)) fun r w' => r = .returned (.tuple #[.pointer (some ⟨h.t, x % 256 * 5, none⟩), .int .i64 0]) ∧ (w.alloc (.cells #[.int .i64 0, .int .i64 0, .int .i64 0] 39)) = w' := hat_some (st := 1) (s.alloc _) ok hx hp
  obtain ⟨c0, c1, c2, -, -, -⟩ := HT.cell (s.alloc (.cells #[.int .i64 0, .int .i64 0, .int .i64 0] 39)) hi
  have HB : Hid (Below w.heap.size w (w.alloc (.cells #[.int .i64 0, .int .i64 0, .int .i64 0] 39))) := (Below.refl _ _).alloc (Nat.le_refl _) _
  unfold Pl.obj
  clear s ok hp hi
  generalize x % 256 * 5 = i at *
  go_enter Tryz.func62, Tryz.ntmps62
  go_wp2_with (go_at_call 108; refine hA.mono ?_; rintro e w' ⟨rfl, rfl⟩)
  refine bodyPost_ret (v := .tuple #[.agg #[.int .i64 (p.kind : Int), .int .i64 (p.at_ : Int), .int .i64 (p.fac : Int)], .int .i64 0]) (by simp [results, Tryz.results62, go_sem]) rfl ⟨rfl, ?_⟩
  exact (Below.refl _ _).alloc (Nat.le_refl _) _
set_option maxHeartbeats 1000000 in
theorem hget_none {w : World} {h : HT} (s : Sep w h.hl) (ok : LOk h.l) {x : Nat} (hx : x < 4294967296) (hp : pget h.l 1 x = none) :
    Calls Tryz.prog 62 #[.pointer (some ⟨h.t, 0, none⟩), .int .u32 (x : Int)] w (Told w (.tuple #[zobj, .int .i64 8])) := by
  have hA : Calls Tryz.prog 108 #[.pointer (some ⟨h.t, 0, none⟩), .int .u32 (x : Int), .int .i64 1] (w.alloc (.cells #[.int .i64 0, .int .i64 0, .int .i64 0] 39)) fun r w' => r = .returned (.tuple #[.pointer none, .int .i64 8]) ∧ (w.alloc (.cells #[.int .i64 0, .int .i64 0, .int .i64 0] 39)) = w' := hat_none (st := 1) (s.alloc _) ok hx hp
  unfold zobj
  clear s ok hp
  go_enter Tryz.func62, Tryz.ntmps62
  go_wp2_with (go_at_call 108; refine hA.mono ?_; rintro e w' ⟨rfl, rfl⟩)
  refine bodyPost_ret (v := .tuple #[.agg #[.int .i64 0, .int .i64 0, .int .i64 0], .int .i64 8]) (by simp [results, Tryz.results62, go_sem]) rfl ⟨rfl, ?_⟩
  exact (Below.refl _ _).alloc (Nat.le_refl _) _
/-- Kill. -/
def KillP (h : HT) (x : Nat) (p : Pl) (w : World) (r : Ending) (w' : World) : Prop := r = .returned (.int .i64 0) ∧ Step h.hl ({ h with l := h.l.set (x % 256) { p with st := 2 } } : HT).hl w w'
set_option maxHeartbeats 1000000 in
theorem hkill_some {w : World} {h : HT} (s : Sep w h.hl) (ok : LOk h.l) {x : Nat} (hx : x < 4294967296) {p : Pl} (hp : pget h.l 1 x = some p) :
    Calls Tryz.prog 63 #[.pointer (some ⟨h.t, 0, none⟩), .int .u32 (x : Int)] w (KillP h x p w) := by
  have hA : Calls Tryz.prog 108 #[.pointer (some ⟨h.t, 0, none⟩), .int .u32 (x : Int), .int .i64 1] w fun r w' => r = .returned (.tuple #[.pointer (some ⟨h.t, x % 256 * 5, none⟩), .int .i64 0]) ∧ w = w' := hat_some (st := 1) s ok hx hp
  have hi := (pget_some.1 hp).1
  obtain ⟨-, -, -, c3, -, cf⟩ := HT.cell s hi
  have cf3 := cf (x % 256 * 5 + 3)
  have HS : Hid (KillP h x p w (.returned (.int .i64 0)) (w.setCell ⟨h.t, x % 256 * 5 + 3, none⟩ (.int .i64 2))) := ⟨rfl, HT.set s hi 3 (.int .i64 2) (by omega) (q := { p with st := 2 }) rfl⟩
  clear s ok hp hi cf
  generalize KillP h x p w = Q at *
  generalize x % 256 * 5 = i at *
  go_enter Tryz.func63, Tryz.ntmps63
  go_wp2_with (go_at_call 108; refine hA.mono ?_; rintro e w' ⟨rfl, rfl⟩)
  first | exact HS.out | (go_ret; exact HS.out)
/-- Free: the place is empty then, and older. -/
def FreeP (h : HT) (x : Nat) (p : Pl) (w : World) (r : Ending) (w' : World) : Prop := r = .returned (.tuple #[p.obj, .int .i64 0]) ∧ Step h.hl ({ h with l := h.l.set (x % 256) ⟨0, 0, 0, 0, p.age + 1, 0⟩ } : HT).hl w w'
theorem fm5_set5 {l : List Pl} {i : Nat} {p : Pl} (hi : l[i]? = some p) (q : Pl) : (((((l.flatMap Pl.cells).set (i * 5 + 0) (.int .i64 (q.kind : Int))).set (i * 5 + 1) (.int .i64 (q.at_ : Int))).set (i * 5 + 2) (.int .i64 (q.fac : Int))).set (i * 5 + 3) (.int .i64 (q.st : Int))).set (i * 5 + 4) (.int .u32 (q.age : Int)) = (l.set i q).flatMap Pl.cells := by
  have g : ∀ (r : Pl), (l.set i r)[i]? = some r := fun r => by rw [List.getElem?_set_self (List.getElem?_eq_some_iff.1 hi).1]
  have e0 := fm5_set hi (q := ⟨q.kind, p.at_, p.fac, p.st, p.age, q.own⟩) 0 (.int .i64 (q.kind : Int)) (by omega) rfl
  have e1 := fm5_set (g ⟨q.kind, p.at_, p.fac, p.st, p.age, q.own⟩) (q := ⟨q.kind, q.at_, p.fac, p.st, p.age, q.own⟩) 1 (.int .i64 (q.at_ : Int)) (by omega) rfl
  have e2 := fm5_set (g ⟨q.kind, q.at_, p.fac, p.st, p.age, q.own⟩) (q := ⟨q.kind, q.at_, q.fac, p.st, p.age, q.own⟩) 2 (.int .i64 (q.fac : Int)) (by omega) rfl
  have e3 := fm5_set (g ⟨q.kind, q.at_, q.fac, p.st, p.age, q.own⟩) (q := ⟨q.kind, q.at_, q.fac, q.st, p.age, q.own⟩) 3 (.int .i64 (q.st : Int)) (by omega) rfl
  have e4 := fm5_set (g ⟨q.kind, q.at_, q.fac, q.st, p.age, q.own⟩) (q := q) 4 (.int .u32 (q.age : Int)) (by omega) rfl
  rw [List.set_set] at e1 e2 e3 e4
  rw [e0, e1, e2, e3, e4]
theorem HT.set5 {w : World} {h : HT} (s : Sep w h.hl) {i : Nat} {p : Pl} (hi : h.l[i]? = some p) (q : Pl) : Step h.hl ({ h with l := h.l.set i q } : HT).hl w (((((w.setCell ⟨h.t, i * 5 + 0, none⟩ (.int .i64 (q.kind : Int))).setCell ⟨h.t, i * 5 + 1, none⟩ (.int .i64 (q.at_ : Int))).setCell ⟨h.t, i * 5 + 2, none⟩ (.int .i64 (q.fac : Int))).setCell ⟨h.t, i * 5 + 3, none⟩ (.int .i64 (q.st : Int))).setCell ⟨h.t, i * 5 + 4, none⟩ (.int .u32 (q.age : Int))) := by
  have s1 := Sep.set (A := []) (B := []) (by simpa [HT.hl] using s) (i * 5 + 0) (.int .i64 (q.kind : Int))
  have s2 := Sep.set (A := []) (B := []) s1.sep (i * 5 + 1) (.int .i64 (q.at_ : Int))
  have s3 := Sep.set (A := []) (B := []) s2.sep (i * 5 + 2) (.int .i64 (q.fac : Int))
  have s4 := Sep.set (A := []) (B := []) s3.sep (i * 5 + 3) (.int .i64 (q.st : Int))
  have s5 := Sep.set (A := []) (B := []) s4.sep (i * 5 + 4) (.int .u32 (q.age : Int))
  have := (((s1.trans s2).trans s3).trans s4).trans s5
  rw [fm5_set5 hi q] at this
  exact this
theorem Env.set_new {w : World} (h : Env w) {n : Nat} (hn : GB ≤ n) (i : Nat) (v : Value) : Env (w.setCell ⟨n, i, none⟩ v) :=
  h.same (fun b hb => Below.heap_setCell _ _ _ _ (fun e => by have e' : b = n := e; omega)) (by have := h.gb; simpa [World.setCell] using this)
theorem Step.set_new {w w1 : World} {H H' : HL} (h : Step H H' w w1) (hw : GB ≤ w.heap.size) {n : Nat} (hn : w.heap.size ≤ n) (hk : n ∉ keys H') (i : Nat) (v : Value) : Step H H' w (w1.setCell ⟨n, i, none⟩ v) :=
  ⟨h.sep.same (fun b hb => Below.heap_setCell _ _ _ _ (fun e => by have e' : b = n := e; subst e'; exact hk hb)) (h.sep.env.set_new (by omega) i v), h.chg.set ⟨n, i, none⟩ v (.inr hn), h.new⟩
theorem infoPl : (Tryz.prog.info? 179).map (·.size) = some 5 := by kernel_rfl
set_option maxHeartbeats 2000000 in
set_option maxRecDepth 100000 in
theorem hfree_some {w : World} {h : HT} (s : Sep w h.hl) (ok : LOk h.l) {x : Nat} (hx : x < 4294967296) {p : Pl} (hp : pget h.l 2 x = some p) (hage : p.age + 1 ≤ 1048575) :
    Calls Tryz.prog 66 #[.pointer (some ⟨h.t, 0, none⟩), .int .u32 (x : Int)] w (FreeP h x p w) := by
  have hi := (pget_some.1 hp).1
  have hA : Calls Tryz.prog 108 #[.pointer (some ⟨h.t, 0, none⟩), .int .u32 (x : Int), .int .i64 2] (w.alloc (.cells #[.int .i64 0, .int .i64 0, .int .i64 0] 39)) fun r w' => r = .returned (.tuple #[.pointer (some ⟨h.t, x % 256 * 5, none⟩), .int .i64 0]) ∧ (w.alloc (.cells #[.int .i64 0, .int .i64 0, .int .i64 0] 39)) = w' := hat_some (st := 2) (s.alloc _) ok hx hp
  obtain ⟨c0, c1, c2, c3, c4, cf⟩ := HT.cell s hi
  have f0 := cf (x % 256 * 5)
  have f1 := cf (x % 256 * 5 + 1)
  have f2 := cf (x % 256 * 5 + 2)
  have f3 := cf (x % 256 * 5 + 3)
  have f4 := cf (x % 256 * 5 + 4)
  have hlt := (HT.cells s).lt
  have hlt1 : h.t < w.heap.size + 1 := by omega
  have hne : h.t ≠ w.heap.size := by omega
  have hne1 : h.t ≠ w.heap.size + 1 := by omega
  have hw : IntKind.u32.wrap ((p.age : Int) + 1) = (p.age : Int) + 1 := by
    show ((p.age : Int) + 1) % 4294967296 = _
    omega
  have hgt : decide ((1048575 : Int) < (p.age : Int) + 1) = false := by rw [decide_eq_false_iff_not]; omega
  have HFin : Hid (∀ A B, FreeP h x p w (.returned (.tuple #[.agg #[.int .i64 (p.kind : Int), .int .i64 (p.at_ : Int), .int .i64 (p.fac : Int)], .int .i64 0])) (((((((w.setCell ⟨h.t, x % 256 * 5, none⟩ (.int .i64 0)).setCell ⟨h.t, x % 256 * 5 + 1, none⟩ (.int .i64 0)).setCell ⟨h.t, x % 256 * 5 + 2, none⟩ (.int .i64 0)).setCell ⟨h.t, x % 256 * 5 + 3, none⟩ (.int .i64 0)).setCell ⟨h.t, x % 256 * 5 + 4, none⟩ (.int .u32 ((p.age : Int) + 1))).alloc A).alloc B)) := fun A B => by
    have st := HT.set5 s hi ⟨0, 0, 0, 0, p.age + 1, 0⟩
    refine ⟨rfl, st.trans (st.sep.grown (((Below.refl _ _).alloc (Nat.le_refl _) A).alloc (by simp) B))⟩
  clear cf s ok hp hi hage
  generalize FreeP h x p w = Q at *
  generalize x % 256 * 5 = i at *
  go_enter Tryz.func66, Tryz.ntmps66
  go_wp2_with (go_at_call 108; refine hA.mono ?_; rintro e w' ⟨rfl, rfl⟩)
  refine bodyPost_ret (v := .tuple #[.agg #[.int .i64 (p.kind : Int), .int .i64 (p.at_ : Int), .int .i64 (p.fac : Int)], .int .i64 0]) (by simp [results, Tryz.results66, go_sem]) rfl ?_
  exact HFin.out _ _
/-- Peek: live, or a zombie. -/
def peekV (l : List Pl) (x : Nat) : Value := match pget l 2 x with
  | some p => .tuple #[p.obj, .int .i64 0]
  | none => match pget l 1 x with
    | some p => .tuple #[p.obj, .int .i64 0]
    | none => .tuple #[zobj, .int .i64 8]
theorem hget_any {w : World} {h : HT} (s : Sep w h.hl) (ok : LOk h.l) {x : Nat} (hx : x < 4294967296) :
    Calls Tryz.prog 62 #[.pointer (some ⟨h.t, 0, none⟩), .int .u32 (x : Int)] w fun r w' => (∃ o e, r = .returned (.tuple #[.agg o, .int .i64 e]) ∧ o.size = 3 ∧ ((∃ p, pget h.l 1 x = some p ∧ .agg o = p.obj ∧ e = 0) ∨ (pget h.l 1 x = none ∧ .agg o = zobj ∧ e = 8))) ∧ Below w.heap.size w w' := by
  cases hp : pget h.l 1 x with
  | none =>
    refine (hget_none s ok hx hp).mono ?_
    rintro r w' ⟨rfl, hb⟩
    exact ⟨⟨_, _, rfl, rfl, .inr ⟨rfl, rfl, rfl⟩⟩, hb⟩
  | some p =>
    refine (hget_some s ok hx hp).mono ?_
    rintro r w' ⟨rfl, hb⟩
    exact ⟨⟨_, _, rfl, rfl, .inl ⟨p, rfl, rfl, rfl⟩⟩, hb⟩
set_option maxHeartbeats 2000000 in
set_option maxRecDepth 100000 in
theorem hpeek_zom {w : World} {h : HT} (s : Sep w h.hl) (ok : LOk h.l) {x : Nat} (hx : x < 4294967296) {p : Pl} (hp : pget h.l 2 x = some p) :
    Calls Tryz.prog 72 #[.pointer (some ⟨h.t, 0, none⟩), .int .u32 (x : Int)] w (Told w (.tuple #[p.obj, .int .i64 0])) := by
  have hi := (pget_some.1 hp).1
  have hA : Calls Tryz.prog 108 #[.pointer (some ⟨h.t, 0, none⟩), .int .u32 (x : Int), .int .i64 2] (w.alloc (.cells #[.int .i64 0, .int .i64 0, .int .i64 0] 39)) fun r w' => r = .returned (.tuple #[.pointer (some ⟨h.t, x % 256 * 5, none⟩), .int .i64 0]) ∧ (w.alloc (.cells #[.int .i64 0, .int .i64 0, .int .i64 0] 39)) = w' := hat_some (st := 2) (s.alloc _) ok hx hp
  obtain ⟨c0, c1, c2, -, -, -⟩ := HT.cell s hi
  have hlt := (HT.cells s).lt
  unfold Pl.obj
  clear s ok hp hi
  generalize x % 256 * 5 = i at *
  go_enter Tryz.func72, Tryz.ntmps72
  go_wp2_with (go_at_call 108; refine hA.mono ?_; rintro e w' ⟨rfl, rfl⟩)
  refine bodyPost_ret (v := .tuple #[.agg #[.int .i64 (p.kind : Int), .int .i64 (p.at_ : Int), .int .i64 (p.fac : Int)], .int .i64 0]) (by simp [results, Tryz.results72, go_sem]) rfl ⟨rfl, ?_⟩
  exact (Below.refl _ _).alloc (Nat.le_refl _) _
set_option maxHeartbeats 2000000 in
set_option maxRecDepth 100000 in
theorem hpeek_else {w : World} {h : HT} (s : Sep w h.hl) (ok : LOk h.l) {x : Nat} (hx : x < 4294967296) (hp : pget h.l 2 x = none) :
    Calls Tryz.prog 72 #[.pointer (some ⟨h.t, 0, none⟩), .int .u32 (x : Int)] w fun r w' => (∃ a b c e, r = .returned (.tuple #[.agg #[.int .i64 a, .int .i64 b, .int .i64 c], .int .i64 e]) ∧ ((∃ p, pget h.l 1 x = some p ∧ .agg #[.int .i64 a, .int .i64 b, .int .i64 c] = p.obj ∧ e = 0) ∨ (pget h.l 1 x = none ∧ .agg #[.int .i64 a, .int .i64 b, .int .i64 c] = zobj ∧ e = 8))) ∧ Below w.heap.size w w' := by
  have hA : Calls Tryz.prog 108 #[.pointer (some ⟨h.t, 0, none⟩), .int .u32 (x : Int), .int .i64 2] (w.alloc (.cells #[.int .i64 0, .int .i64 0, .int .i64 0] 39)) fun r w' => r = .returned (.tuple #[.pointer none, .int .i64 8]) ∧ (w.alloc (.cells #[.int .i64 0, .int .i64 0, .int .i64 0] 39)) = w' := hat_none (st := 2) (s.alloc _) ok hx hp
  have HG : Hid (Calls Tryz.prog 62 #[.pointer (some ⟨h.t, 0, none⟩), .int .u32 (x : Int)] (w.alloc (.cells #[.int .i64 0, .int .i64 0, .int .i64 0] 39)) fun r w' => (∃ a b c e, r = .returned (.tuple #[.agg #[.int .i64 a, .int .i64 b, .int .i64 c], .int .i64 e]) ∧ ((∃ p, pget h.l 1 x = some p ∧ .agg #[.int .i64 a, .int .i64 b, .int .i64 c] = p.obj ∧ e = 0) ∨ (pget h.l 1 x = none ∧ .agg #[.int .i64 a, .int .i64 b, .int .i64 c] = zobj ∧ e = 8))) ∧ Below w.heap.size w w' ∧ w'.cell? ⟨w.heap.size, 0, none⟩ = some (.int .i64 0) ∧ w'.cell? ⟨w.heap.size, 1, none⟩ = some (.int .i64 0) ∧ w'.cell? ⟨w.heap.size, 2, none⟩ = some (.int .i64 0) ∧ (∀ i, w'.frozen? ⟨w.heap.size, i, none⟩ = false)) := by
    have hbb : ∀ w', Below (w.alloc (.cells #[.int .i64 0, .int .i64 0, .int .i64 0] 39)).heap.size (w.alloc (.cells #[.int .i64 0, .int .i64 0, .int .i64 0] 39)) w' → Below w.heap.size w w' ∧ w'.cell? ⟨w.heap.size, 0, none⟩ = some (.int .i64 0) ∧ w'.cell? ⟨w.heap.size, 1, none⟩ = some (.int .i64 0) ∧ w'.cell? ⟨w.heap.size, 2, none⟩ = some (.int .i64 0) ∧ (∀ i, w'.frozen? ⟨w.heap.size, i, none⟩ = false) := fun w' hb => by
      have hc := (Cells.new w 39 [.int .i64 0, .int .i64 0, .int .i64 0]).same (hb.block w.heap.size (by simp))
      refine ⟨((Below.refl _ _).alloc (Nat.le_refl _) _).trans ⟨hb.os, hb.tape, hb.output, hb.size, fun b hl => hb.block b (by simp; omega)⟩, hc.cell 0 _ rfl, hc.cell 1 _ rfl, hc.cell 2 _ rfl, hc.free⟩
    cases h1 : pget h.l 1 x with
    | none =>
      refine (hget_none (s.alloc _) ok hx h1).mono ?_
      rintro r w' ⟨rfl, hb⟩
      exact ⟨⟨_, _, _, _, rfl, .inr ⟨rfl, rfl, rfl⟩⟩, hbb _ hb⟩
    | some p =>
      refine (hget_some (s.alloc _) ok hx h1).mono ?_
      rintro r w' ⟨rfl, hb⟩
      exact ⟨⟨_, _, _, _, rfl, .inl ⟨p, rfl, rfl, rfl⟩⟩, hbb _ hb⟩
  have hlt := (HT.cells s).lt
  clear s ok hp
  go_enter Tryz.func72, Tryz.ntmps72
  go_wp2_with (first | (go_at_call 108; refine hA.mono ?_; rintro e w' ⟨rfl, rfl⟩) | (go_at_call 62; refine HG.out.mono ?_; rintro r w1 ⟨⟨oa, ob, oc, oe, rfl, hcase⟩, hb, e0, e1, e2, ef⟩; have HCase := hidden hcase; have HB := hidden hb; have ef0 := ef 0; have ef1 := ef 1; have ef2 := ef 2; clear hcase hb ef))
  have HF : Hid (Below w.heap.size w (((w1.setCell ⟨w.heap.size, 0, none⟩ (.int .i64 oa)).setCell ⟨w.heap.size, 1, none⟩ (.int .i64 ob)).setCell ⟨w.heap.size, 2, none⟩ (.int .i64 oc))) := ((HB.out.setCell (Nat.le_refl _) _).setCell (Nat.le_refl _) _).setCell (Nat.le_refl _) _
  refine bodyPost_ret (v := .tuple #[.agg #[.int .i64 oa, .int .i64 ob, .int .i64 oc], .int .i64 oe]) (by simp [results, Tryz.results72, go_sem, e0, e1, e2]) rfl ⟨⟨_, _, _, _, rfl, HCase.out⟩, HF.out⟩
end Go.Proofs.YtcnbbenmlffgpaaGreatDoor

/- Walks of the table's lists: all, Live, Zombies, Room. Conditions: the table's block holds what HT.hl says, its numbers are in range. -/
namespace Go.Proofs.YtcnbbenmlffgpaaGreatDoor
open Go.RowKit

theorem cells5_len (l : List Pl) (h : l.length = 256) : (l.flatMap Pl.cells).length = 1280 := by rw [fm5_len, h]
theorem infoArr : (Tryz.prog.info? 180).map (·.size) = some 1280 := by kernel_rfl
theorem HT.range {w : World} {h : HT} (s : Sep w h.hl) : w.rangeAt h.t 0 (h.l.flatMap Pl.cells) := fun j v hv => by
  rw [Nat.zero_add]
  exact (HT.cells s).cell j v hv
theorem extract_pl {l : List Pl} {i : Nat} {p : Pl} (hi : l[i]? = some p) : (l.flatMap Pl.cells).toArray.extract (i * 5) (i * 5 + 5) = p.cells.toArray := by
  apply Array.ext'
  rw [Array.toList_extract]
  apply List.ext_getElem?
  intro j
  simp only [List.extract_eq_take_drop, Nat.add_sub_cancel_left]
  rw [List.getElem?_take]
  split
  · rename_i hj
    rw [List.getElem?_drop]
    have h5 : j < p.cells.length := hj
    have := fm5_get hi j p.cells[j] hj (List.getElem?_eq_getElem h5)
    rw [this, List.getElem?_eq_getElem h5]
  · rw [List.getElem?_eq_none (by show 5 ≤ j; omega)]
theorem index_pl {w : World} {l : List Pl} (hl : l.length = 256) {i : Nat} {p : Pl} (hi : l[i]? = some p) : (Instr.index 180 (.agg (l.flatMap Pl.cells).toArray) (.int .i64 (i : Int))).run Tryz.prog w = .ok (.agg p.cells.toArray) w := by
  have hlt : i < 256 := by have := (List.getElem?_eq_some_iff.1 hi).1; omega
  have e := extract_pl hi
  generalize (l.flatMap Pl.cells).toArray = cs at *
  have h1 : (0 : Int) ≤ (i : Int) ∧ (i : Int) < ((256 : Nat) : Int) := by omega
  have h2 : (Tryz.prog.info? 179).map (·.size) = some 5 := infoPl
  cases hq : Tryz.prog.info? 179 with
  | none => simp [hq] at h2
  | some inf =>
    have hs : inf.size = 5 := by simpa [hq] using h2
    have hu : Tryz.prog.underlying 180 = some (.array 256 179) := Tryz.underlying180
    have hagg : (isAgg 179).run Tryz.prog w = .ok true w := by
      unfold isAgg
      rw [Sem.run_bind, run_underlying Tryz.underlying179 w]
      rfl
    simp [Instr.index, asIntOf, Sem.run_bind, run_underlying hu w, h1, part, hagg, sizeOf, typeInfo, hq, hs, e]
    intro hh; omega
set_option maxHeartbeats 4000000 in
set_option maxRecDepth 100000 in
theorem hall_any {w : World} {h : HT} (s : Sep w h.hl) (ok : LOk h.l) (st : Nat) (hst : st ≤ 3) :
    Calls Tryz.prog 106 #[.pointer (some ⟨h.t, 0, none⟩), .int .i64 (st : Int)] w (NewHs w (allL h.l st)) := by
  have HL : Hid (w.rangeAt h.t 0 (h.l.flatMap Pl.cells)) := HT.range s
  have HI : Hid (∀ (w' : World) (i : Nat) (p : Pl), h.l[i]? = some p → (Instr.index 180 (.agg (h.l.flatMap Pl.cells).toArray) (.int .i64 (i : Int))).run Tryz.prog w' = .ok (.agg p.cells.toArray) w') := fun w' i p hp => index_pl ok.1 hp
  go_enter Tryz.func106, Tryz.ntmps106
  go_wp2_with (refine wpList_load_mid rfl 180 _ rfl h.t 0 rfl (h.l.flatMap Pl.cells) _ HL.out Tryz.underlying180 rfl (by rw [cells5_len _ ok.1]; exact infoArr) ?_)
  have HOk := hidden ok
  have HS := hidden s
  have hl256 := ok.1
  clear s ok HL
  generalize hcs : (h.l.flatMap Pl.cells).toArray = cs at *
  obtain ⟨i0, hinf, hz0, hz1, hz2⟩ := info_parts infoHandle
  go_loopg [5, 14] 256 (fun gk ov iv wr => ∃ k : Nat, iv = .int .i64 k ∧ k + gk = 256 ∧ OutH w wr ov (allTo h.l st k))
  case atStart => exact ⟨0, rfl, rfl, OutH.nil w⟩
  case round =>
    obtain ⟨k, rfl, hkg, hout⟩ := hrel
    have HO := hidden hout
    have HKG := hidden hkg
    clear hout
    by_cases hlt : k < 256
    · obtain ⟨p, hp⟩ : ∃ p, h.l[k]? = some p := ⟨h.l[k]'(by omega), List.getElem?_eq_getElem (by omega)⟩
      have hidx := HI.out wr k p hp
      have HP := hidden hp
      have ha : Hid (p.age ≤ 1048575) := (HOk.out.2 p (List.mem_of_getElem? hp)).2
      clear hp
      by_cases hs : p.st = st
      · have HSt := hidden hs
        have hb : (((p.st : Nat) : Int) == (st : Int)) = true := by simp [hs]
        clear hs
        unfold Pl.cells at hidx
        have hnm := hname_any ((HS.out.grown HO.out.2).sep.alloc (.cells #[.int .i64 (p.kind : Int), .int .i64 (p.at_ : Int), .int .i64 (p.fac : Int), .int .i64 (p.st : Int), .int .u32 (p.age : Int)] 179)) HP.out hlt ha.out
        have hlen := allTo_len h.l st k
        have hsz := HO.out.2.size
        go_wp2_with fail
        refine hnm.mono ?_
        rintro e w' ⟨rfl, rfl⟩
        dsimp only
        iterate 4 go_step
        refine wpList_append_own _ rfl _ _ 30 rfl w.heap.size 32 i0 (.int .u32 0) 1 4 Tryz.underlying30 hinf hz0 hz1 hz2 rfl (by decide) _ _ _ rfl ((HO.out.1.alloc _).alloc _) ⟨wr.heap.size + 1, 0, none⟩ 1 1 [.int .u32 ((nm k p : Nat) : Int)] rfl rfl (newh_cell2 _ _ _) (by simp [Value.oneCell']) (by unfold maxLen; omega) (by omega) (by simp; omega) ?_
        intro v' w1 hown' hgrow _
        have HR : Hid (OutH w w1 v' (allTo h.l st (k + 1))) := by
          have e := allTo_succ HP.out st
          rw [if_pos HSt.out] at e
          rw [e]
          exact HO.out.app2 (M := [nm k p]) hown' hgrow
        clear hown' hgrow HO hsz hlen
        go_wp2_with fail
        go_roundg (256 - (k + 1))
        case measure => have := HKG.out; omega
        case rel => exact ⟨k + 1, by go_num, by omega, HR.out⟩
      · have HSt := hidden hs
        have hb := beq_nat_f hs
        clear hs
        unfold Pl.cells at hidx
        have HR : Hid (∀ o, OutH w (wr.alloc o) u5 (allTo h.l st (k + 1))) := fun o => by
          have e := allTo_succ HP.out st
          rw [if_neg HSt.out, List.append_nil] at e
          rw [e]
          exact HO.out.alloc o
        go_wp2_with fail
        go_roundg (256 - (k + 1))
        case measure => have := HKG.out; omega
        case rel => exact ⟨k + 1, by go_num, by omega, HR.out _⟩
    · have e : allTo h.l st k = allL h.l st := by
        have : k = 256 := by omega
        unfold allL
        rw [this, hl256]
      rw [e] at HO
      have HR : Hid (NewHs w (allL h.l st) (.returned u5) wr) := ⟨u5, rfl, HO.out.1, HO.out.2⟩
      go_wp2_with fail
      go_ret
      exact HR.out
end Go.Proofs.YtcnbbenmlffgpaaGreatDoor

/- Walks of the table's Live, Zombies, Room, Put. Conditions: the table's block holds what HT.hl says, its numbers are in range. -/
namespace Go.Proofs.YtcnbbenmlffgpaaGreatDoor
open Go.RowKit

set_option maxHeartbeats 400000 in
theorem hlive_any {w : World} {h : HT} (s : Sep w h.hl) (ok : LOk h.l) : Calls Tryz.prog 58 #[.pointer (some ⟨h.t, 0, none⟩)] w (NewHs w (allL h.l 1)) := by
  have hA : Calls Tryz.prog 106 #[.pointer (some ⟨h.t, 0, none⟩), .int .i64 1] w (NewHs w (allL h.l 1)) := hall_any s ok 1 (by omega)
  clear s ok
  go_enter Tryz.func58, Tryz.ntmps58
  go_wp2_with (go_at_call 106; refine hA.mono ?_; rintro e w' ⟨v, rfl, h1, h2⟩)
  first | exact ⟨v, rfl, h1, h2⟩ | (go_ret; exact ⟨v, rfl, h1, h2⟩)
set_option maxHeartbeats 400000 in
theorem hzombies_any {w : World} {h : HT} (s : Sep w h.hl) (ok : LOk h.l) : Calls Tryz.prog 78 #[.pointer (some ⟨h.t, 0, none⟩)] w (NewHs w (allL h.l 2)) := by
  have hA : Calls Tryz.prog 106 #[.pointer (some ⟨h.t, 0, none⟩), .int .i64 2] w (NewHs w (allL h.l 2)) := hall_any s ok 2 (by omega)
  clear s ok
  go_enter Tryz.func78, Tryz.ntmps78
  go_wp2_with (go_at_call 106; refine hA.mono ?_; rintro e w' ⟨v, rfl, h1, h2⟩)
  first | exact ⟨v, rfl, h1, h2⟩ | (go_ret; exact ⟨v, rfl, h1, h2⟩)
set_option maxHeartbeats 400000 in
theorem hroom_any {w : World} {h : HT} (s : Sep w h.hl) (ok : LOk h.l) : Calls Tryz.prog 113 #[.pointer (some ⟨h.t, 0, none⟩)] w (Told w (.int .i64 ((allL h.l 0).length : Nat))) := by
  have hA : Calls Tryz.prog 106 #[.pointer (some ⟨h.t, 0, none⟩), .int .i64 0] w (NewHs w (allL h.l 0)) := hall_any s ok 0 (by omega)
  clear s ok
  generalize allL h.l 0 = L at *
  go_enter Tryz.func113, Tryz.ntmps113
  go_wp2_with (go_at_call 106; refine hA.mono ?_; intro e w' hx; obtain ⟨a, cap, rfl, hb, -⟩ := hx.shape; have HB := hidden hb; clear hx hb)
  first | exact ⟨rfl, HB.out⟩ | (go_ret; exact ⟨rfl, HB.out⟩)
/-! Put. -/
theorem empty_iff {l : List Pl} : allL l 0 = [] ↔ ∀ p ∈ l, p.st ≠ 0 := by
  constructor
  · intro h p hp hs
    obtain ⟨i, hi⟩ := List.mem_iff_getElem?.1 hp
    have hlt := (List.getElem?_eq_some_iff.1 hi).1
    have : nm i p ∈ allL l 0 := mem_allTo.2 ⟨i, p, hlt, hi, hs, rfl⟩
    rw [h] at this; cases this
  · intro h
    cases hc : allL l 0 with
    | nil => rfl
    | cons x r =>
      exfalso
      have : x ∈ allL l 0 := by rw [hc]; simp
      obtain ⟨i, p, _, hi, hs, _⟩ := mem_allTo.1 this
      exact h p (List.mem_of_getElem? hi) hs
/-- The first empty place. -/
def Fst (l : List Pl) (i : Nat) (p : Pl) : Prop := l[i]? = some p ∧ p.st = 0 ∧ ∀ j q, j < i → l[j]? = some q → q.st ≠ 0
theorem fst_case (l : List Pl) : (∀ p ∈ l, p.st ≠ 0) ∨ ∃ i p, Fst l i p := by
  induction l with
  | nil => left; simp
  | cons x r ih =>
    by_cases hx : x.st = 0
    · right; exact ⟨0, x, rfl, hx, fun j q hj => absurd hj (Nat.not_lt_zero _)⟩
    · rcases ih with h | ⟨i, p, h1, h2, h3⟩
      · left
        intro p hp
        rcases List.mem_cons.1 hp with rfl | hp
        · exact hx
        · exact h p hp
      · right
        refine ⟨i + 1, p, h1, h2, fun j q hj hq => ?_⟩
        cases j with
        | zero => cases hq; exact hx
        | succ j => exact h3 j q (by omega) hq
set_option maxHeartbeats 400000 in
theorem hput1_any {w : World} (p : Pl) : Calls Tryz.prog 104 #[.agg p.cells.toArray] w (Told w (.bool (((p.st : Nat) : Int) == 0))) := by
  have hc := Cells.new w 179 p.cells
  have c3 : (w.alloc (.cells p.cells.toArray 179)).cell? ⟨w.heap.size, 3, none⟩ = some (.int .i64 (p.st : Int)) := hc.cell 3 _ rfl
  unfold Pl.cells at *
  clear hc
  go_enter Tryz.func104, Tryz.ntmps104
  go_wp2
  go_ret
  exact ⟨rfl, (Below.refl _ _).alloc (Nat.le_refl _) _⟩
/-- Where the first empty place is, as IndexFunc tells it. -/
def FstI (l : List Pl) (z : Int) : Prop := (z = -1 ∧ ∀ p ∈ l, p.st ≠ 0) ∨ ∃ (i : Nat) (p : Pl), z = (i : Int) ∧ Fst l i p
set_option maxHeartbeats 4000000 in
set_option maxRecDepth 100000 in
theorem hindex_any {w : World} {h : HT} (s : Sep w h.hl) (ok : LOk h.l) : Calls Tryz.prog 103 #[.slice (some ⟨h.t, 0, none⟩) 256 256, .func (.func 104) #[] #[]] w fun r w' => (∃ z, r = .returned (.int .i64 z) ∧ FstI h.l z) ∧ Below w.heap.size w w' := by
  have hl256 := ok.1
  have HS := hidden s
  clear s ok
  go_enter Tryz.func103, Tryz.ntmps103
  go_wp2_with fail
  go_loopg [5, 8] 256 (fun gk _ iv wr => ∃ k : Nat, iv = .int .i64 k ∧ k + gk = 256 ∧ (∀ j q, j < k → h.l[j]? = some q → q.st ≠ 0) ∧ Below w.heap.size w wr)
  case atStart => exact ⟨0, rfl, rfl, fun j q hj => absurd hj (Nat.not_lt_zero _), Below.refl _ _⟩
  case round =>
    obtain ⟨k, rfl, hkg, hpre, hb⟩ := hrel
    have HKG := hidden hkg
    have HPre := hidden hpre
    have HB := hidden hb
    clear hpre
    by_cases hlt : k < 256
    · obtain ⟨p, hp⟩ : ∃ p, h.l[k]? = some p := ⟨h.l[k]'(by omega), List.getElem?_eq_getElem (by omega)⟩
      obtain ⟨c0, c1, c2, c3, c4, -⟩ := HT.cell ((HS.out.grown hb).sep) hp
      have HP := hidden hp
      have hput : Calls Tryz.prog 104 #[.agg #[.int .i64 (p.kind : Int), .int .i64 (p.at_ : Int), .int .i64 (p.fac : Int), .int .i64 (p.st : Int), .int .u32 (p.age : Int)]] wr (Told wr (.bool (((p.st : Nat) : Int) == 0))) := hput1_any p
      clear hp hb
      by_cases hs : p.st = 0
      · have HSt := hidden hs
        have hbq : (((p.st : Nat) : Int) == 0) = true := by simp [hs]
        rw [hbq] at hput
        clear hs hbq
        go_wp2_with (go_at_call 104; refine hput.mono ?_; rintro e w1 ⟨rfl, hb1⟩; have HB1 := hidden hb1; clear hb1)
        have HR : Hid ((∃ z, Ending.returned (.int .i64 (k : Int)) = .returned (.int .i64 z) ∧ FstI h.l z) ∧ Below w.heap.size w w1) := ⟨⟨_, rfl, .inr ⟨k, p, rfl, HP.out, HSt.out, HPre.out⟩⟩, HB.out.trans (HB1.out.mono HB.out.size)⟩
        first | exact HR.out | (go_ret; exact HR.out)
      · have HSt := hidden hs
        have hbq : (((p.st : Nat) : Int) == 0) = false := by simp; omega
        rw [hbq] at hput
        clear hs hbq
        go_wp2_with (go_at_call 104; refine hput.mono ?_; rintro e w1 ⟨rfl, hb1⟩; have HB1 := hidden hb1; clear hb1)
        go_roundg (256 - (k + 1))
        case measure => have := HKG.out; omega
        case rel =>
          refine ⟨k + 1, by go_num, by omega, fun j q hj hq => ?_, HB.out.trans (HB1.out.mono HB.out.size)⟩
          by_cases e : j = k
          · subst e
            have := HP.out
            rw [this] at hq; cases hq
            exact HSt.out
          · exact HPre.out j q (by omega) hq
    · have HR : Hid ((∃ z, Ending.returned (.int .i64 (-1)) = .returned (.int .i64 z) ∧ FstI h.l z) ∧ Below w.heap.size w wr) := ⟨⟨_, rfl, .inl ⟨rfl, fun p hp => by
        obtain ⟨i, hi⟩ := List.mem_iff_getElem?.1 hp
        have := (List.getElem?_eq_some_iff.1 hi).1
        exact HPre.out i p (by omega) hi⟩⟩, HB.out⟩
      go_wp2_with fail
      first | exact HR.out | (go_ret; exact HR.out)
end Go.Proofs.YtcnbbenmlffgpaaGreatDoor
