/- IrqOrder answers true at every input. Conditions: the numbers that came in read as bytes. -/
import Derived.Test.YtekgfdfganelmaaOrdP
import Derived.Test.YtekgfdfganelmaaAlive
namespace Go.Proofs.Ytekgfdfganelmaa
open Go.RowKit

theorem Post.keep {c : Nat} {w w' : World} {g g' : G} (p : Post c w g g' w') {b : Nat} (hb : b < w.heap.size) (hn : ¬ fp c g b) : w'.heap[b]? = w.heap[b]? ∧ ¬ fp c g' b :=
  ⟨p.2.1.block b hb hn, fun h => by rcases p.2.2 b h with h' | h'; exact hn h'; omega⟩
def Lines (L : List Int) (k : Nat) : Prop := ∀ j, j < 16 → L[j]?.getD 0 = if j < k then (j : Int) + 1 else 0
def O1 (B : Nat) (w0 wr : World) (c m k : Nat) : Prop := ∃ E L rv, In B w0 wr c ⟨m, E, L, [], rv⟩ ∧ At E (F3 k (fun _ => 0) []) ∧ Lines L k
def par (t : Int) (R : List Int) : List Int := R.filter (fun x => x % 2 == t)
def cameCells (R : List Int) : List Value := (rg 0 16).map fun x => .bool (decide (x ∈ R))
structure O2 (B : Nat) (w0 wr : World) (c m bc : Nat) (i : Nat) (R : List Int) (ev od : Value) : Prop where
  ctl : ∃ E L rv Lf, In B w0 wr c ⟨m, E, L, R, rv⟩ ∧ At E (F3 16 Lf R) ∧ Lines L 16 ∧ (∀ x, 0 ≤ Lf x ∧ Lf x ≤ i) ∧ ¬ fp c ⟨m, E, L, R, rv⟩ bc ∧ (∀ b, ev.ownBlock = some b → ¬ fp c ⟨m, E, L, R, rv⟩ b) ∧ (∀ b, od.ownBlock = some b → ¬ fp c ⟨m, E, L, R, rv⟩ b)
  came : Cells wr bc 35 (cameCells R)
  own : B ≤ bc
  evs : wr.ownsRow B 3 1 ev (par 0 R).length ((par 0 R).map (Value.int .i64))
  ods : wr.ownsRow B 3 1 od (par 1 R).length ((par 1 R).map (Value.int .i64))
  ne : ∀ b, ev.ownBlock = some b → od.ownBlock ≠ some b
  nd : R.Nodup
  rng : ∀ x ∈ R, 0 ≤ x ∧ x < 16
  len : R.length ≤ i
/-- Behind the choice: S is what stands in the list that was chosen. -/
structure O3 (B : Nat) (w0 wr : World) (c m : Nat) (t : Int) (S : List Int) (j : Nat) (sv : Value) : Prop where
  ctl : ∃ E L R rv Lf, In B w0 wr c ⟨m, E, L, R, rv⟩ ∧ At E (F3 16 Lf R) ∧ (∀ x, 0 ≤ Lf x ∧ Lf x ≤ 100) ∧ (∀ b, sv.ownBlock = some b → ¬ fp c ⟨m, E, L, R, rv⟩ b) ∧ R.Nodup ∧ (∀ x ∈ R, 0 ≤ x ∧ x < 16) ∧ R.length ≤ 100 ∧ par t R = S.drop j
  row : wr.ownsRow B 3 1 sv S.length (S.map (Value.int .i64))

theorem par_app (t : Int) (R : List Int) (x : Int) : par t (R ++ [x]) = if x % 2 = t then par t R ++ [x] else par t R := by
  unfold par
  rw [List.filter_append]
  by_cases h : x % 2 = t <;> simp [h]
theorem came_len (R : List Int) : (cameCells R).length = 16 := by simp [cameCells, rg_len]
theorem came_get (R : List Int) (k : Nat) (hk : k < 16) : (cameCells R)[k]? = some (.bool (decide ((k : Int) ∈ R))) := by
  unfold cameCells rg
  simp [hk]
theorem came_set (R : List Int) (k : Nat) (hk : k < 16) : (cameCells R).set k (.bool true) = cameCells (R ++ [(k : Int)]) := by
  refine List.ext_getElem? fun j => ?_
  by_cases hj : j < 16
  · rw [List.getElem?_set]
    by_cases e : k = j
    · subst e
      rw [if_pos rfl, if_pos (by rw [came_len]; exact hk), came_get _ k hk]
      simp
    · rw [if_neg e, came_get _ j hj, came_get _ j hj]
      have : ¬ ((j : Int) = k) := by omega
      simp [this]
  · rw [List.getElem?_eq_none (by rw [List.length_set, came_len]; omega), List.getElem?_eq_none (by rw [came_len]; omega)]
theorem ownsRow_keep {w w' : World} {B n : Nat} {v : Value} {xs : List Value} (h : w.ownsRow B 3 1 v n xs) (hs : ∀ b, v.ownBlock = some b → w'.heap[b]? = w.heap[b]?) : w'.ownsRow B 3 1 v n xs := ownsRow_same h hs

theorem In.setOther {B : Nat} {w0 w : World} {c : Nat} {g : G} (h : In B w0 w c g) (a : Addr) (v : Value) (hn : ¬ fp c g a.block) (hB : B ≤ a.block) : In B w0 (w.setCell a v) c g :=
  ⟨h.rep.same fun b hb => Below.heap_setCell _ _ _ _ (fun e => hn (e ▸ hb)), h.own, h.bel.setCell hB v, by simpa using h.le⟩
theorem In.grownOther {B : Nat} {w0 w w' : World} {c : Nat} {g : G} {row : Option Nat} (h : In B w0 w c g) (hg : w.grownBy w' row) (hn : ∀ b, row = some b → ¬ fp c g b ∧ B ≤ b) : In B w0 w' c g :=
  ⟨h.rep.same fun b hb => hg.block b (h.rep.lt hb) (fun e => (hn b e.symm).1 hb), h.own, h.bel.grown hg h.le (fun k e => (hn k e).2), Nat.le_trans h.le hg.size⟩
theorem ownsRow_lt {w : World} {B n : Nat} {v : Value} {xs : List Value} (h : w.ownsRow B 3 1 v n xs) {b : Nat} (hb : v.ownBlock = some b) : B ≤ b ∧ b < w.heap.size := h.lt b hb

theorem O2.again {B : Nat} {w0 wr w' : World} {c m bc i : Nat} {R : List Int} {ev od : Value} (h : O2 B w0 wr c m bc i R ev od) {E : List Ent} {L : List Int} {rv : Value} {Lf : Int → Int}
    (hin : In B w0 wr c ⟨m, E, L, R, rv⟩) (hA : At E (F3 16 Lf R)) (hL : Lines L 16) (hLf : ∀ x, 0 ≤ Lf x ∧ Lf x ≤ i) (n1 : ¬ fp c ⟨m, E, L, R, rv⟩ bc) (n2 : ∀ b, ev.ownBlock = some b → ¬ fp c ⟨m, E, L, R, rv⟩ b) (n3 : ∀ b, od.ownBlock = some b → ¬ fp c ⟨m, E, L, R, rv⟩ b)
    {k : Nat} (hk : k < 16) {e : Ent} (hf : find E k = some e) (hq : e.q = ⟨k, false, k % 2, Lf k, true⟩) (hkR : (k : Int) ∈ R)
    (p : Post c wr ⟨m, E, L, R, rv⟩ ⟨m, upd E k { e.q with lost := e.q.lost + 1 }, L, R, rv⟩ w') : O2 B w0 w' c m bc (i + 1) R ev od := by
  have hA2 := hA.up hf { e.q with lost := e.q.lost + 1 }
  refine ⟨⟨_, L, rv, fun x => if x = k then Lf x + 1 else Lf x, hin.post p, hA2.ext ?_, hL, ?_, (p.keep h.came.lt n1).2, fun b hb => (p.keep (ownsRow_lt h.evs hb).2 (n2 b hb)).2, fun b hb => (p.keep (ownsRow_lt h.ods hb).2 (n3 b hb)).2⟩,
    h.came.same (p.keep h.came.lt n1).1, h.own, ownsRow_keep h.evs fun b hb => (p.keep (ownsRow_lt h.evs hb).2 (n2 b hb)).1, ownsRow_keep h.ods fun b hb => (p.keep (ownsRow_lt h.ods hb).2 (n3 b hb)).1, h.ne, h.nd, h.rng, by have := h.len; omega⟩
  · intro x
    by_cases hx : x = k
    · subst hx
      rw [F3_in (n := 16) (by omega)]
      simp [set1, hq, hkR]
    · simp [set1, hx, F3]
  · intro x
    have := hLf x
    show 0 ≤ (if x = k then Lf x + 1 else Lf x) ∧ (if x = k then Lf x + 1 else Lf x) ≤ ((i + 1 : Nat) : Int)
    split <;> omega

/-- What holds when a new one has been raised, ahead of the append. -/
structure O2n (B : Nat) (w0 wr : World) (c m bc : Nat) (i k : Nat) (R : List Int) (ev od : Value) : Prop where
  ctl : ∃ E L rv Lf, In B w0 wr c ⟨m, E, L, R ++ [(k : Int)], rv⟩ ∧ At E (F3 16 Lf (R ++ [(k : Int)])) ∧ Lines L 16 ∧ (∀ x, 0 ≤ Lf x ∧ Lf x ≤ i) ∧ ¬ fp c ⟨m, E, L, R ++ [(k : Int)], rv⟩ bc ∧ (∀ b, ev.ownBlock = some b → ¬ fp c ⟨m, E, L, R ++ [(k : Int)], rv⟩ b) ∧ (∀ b, od.ownBlock = some b → ¬ fp c ⟨m, E, L, R ++ [(k : Int)], rv⟩ b)
  came : Cells wr bc 35 (cameCells (R ++ [(k : Int)]))
  own : B ≤ bc
  evs : wr.ownsRow B 3 1 ev (par 0 R).length ((par 0 R).map (Value.int .i64))
  ods : wr.ownsRow B 3 1 od (par 1 R).length ((par 1 R).map (Value.int .i64))
  ne : ∀ b, ev.ownBlock = some b → od.ownBlock ≠ some b
  nd : (R ++ [(k : Int)]).Nodup
  rng : ∀ x ∈ R ++ [(k : Int)], 0 ≤ x ∧ x < 16
  len : (R ++ [(k : Int)]).length ≤ i + 1

theorem O2.fresh {B : Nat} {w0 wr w' : World} {c m bc i : Nat} {R : List Int} {ev od : Value} (h : O2 B w0 wr c m bc i R ev od) {E : List Ent} {L : List Int} {rv rv' : Value} {Lf : Int → Int}
    (hin : In B w0 wr c ⟨m, E, L, R, rv⟩) (hA : At E (F3 16 Lf R)) (hL : Lines L 16) (hLf : ∀ x, 0 ≤ Lf x ∧ Lf x ≤ i) (n1 : ¬ fp c ⟨m, E, L, R, rv⟩ bc) (n2 : ∀ b, ev.ownBlock = some b → ¬ fp c ⟨m, E, L, R, rv⟩ b) (n3 : ∀ b, od.ownBlock = some b → ¬ fp c ⟨m, E, L, R, rv⟩ b)
    {k : Nat} (hk : k < 16) {e : Ent} (hf : find E k = some e) (hq : e.q = ⟨k, false, k % 2, Lf k, false⟩) (hkR : ¬ (k : Int) ∈ R)
    (p : Post c wr ⟨m, E, L, R, rv⟩ ⟨m, upd E k { e.q with pending := true }, L, R ++ [(k : Int)], rv'⟩ w') : O2n B w0 (w'.setCell ⟨bc, k, none⟩ (.bool true)) c m bc i k R ev od := by
  have hA2 := hA.up hf { e.q with pending := true }
  have hc := h.came.same (p.keep h.came.lt n1).1
  have hn := (p.keep h.came.lt n1).2
  have he := ownsRow_keep h.evs fun b hb => (p.keep (ownsRow_lt h.evs hb).2 (n2 b hb)).1
  have ho := ownsRow_keep h.ods fun b hb => (p.keep (ownsRow_lt h.ods hb).2 (n3 b hb)).1
  have hne : ∀ {v : Value} {n : Nat} {xs : List Value}, w'.ownsRow B 3 1 v n xs → v.ownBlock ≠ some bc := by
    intro v n xs hr hb
    obtain ⟨cs, hcs⟩ := ownsRow_block3 hr hb
    exact hc.type_ne hcs (by decide) rfl
  refine ⟨⟨_, L, rv', Lf, (hin.post p).setOther ⟨bc, k, none⟩ (.bool true) hn h.own, hA2.ext ?_, hL, hLf, hn, fun b hb => (p.keep (ownsRow_lt h.evs hb).2 (n2 b hb)).2, fun b hb => (p.keep (ownsRow_lt h.ods hb).2 (n3 b hb)).2⟩,
    ?_, h.own, ownsRow_set he _ _ (hne he), ownsRow_set ho _ _ (hne ho), h.ne, ?_, ?_, by have := h.len; simp; omega⟩
  · intro x
    by_cases hx : x = k
    · subst hx
      rw [F3_in (n := 16) (by omega)]
      simp [set1, hq]
    · simp [set1, hx, F3]
  · rw [← came_set R k hk]; exact hc.set _ _
  · exact List.nodup_append.2 ⟨h.nd, by simp, by intro a ha b hb; simp at hb; subst hb; rintro rfl; exact hkR ha⟩
  · intro x hx
    rcases List.mem_append.1 hx with hx | hx
    · exact h.rng x hx
    · simp at hx; subst hx; omega

theorem O2n.even {B : Nat} {w0 wr w' : World} {c m bc i k : Nat} {R : List Int} {ev od ev' : Value} {o : Obj} (h : O2n B w0 wr c m bc i k R ev od) (hk : (k : Int) % 2 = 0)
    (hown : w'.ownsRow B 3 1 ev' ((par 0 R).length + 1) ((par 0 R).map (Value.int .i64) ++ [.int .i64 k])) (hg : (wr.alloc o).grownBy w' ev.ownBlock) (hat : ev'.ownBlock = ev.ownBlock ∨ ev'.ownBlock = some (wr.alloc o).heap.size) :
    O2 B w0 w' c m bc (i + 1) (R ++ [(k : Int)]) ev' od := by
  obtain ⟨E, L, rv, Lf, hin, hA, hL, hLf, n1, n2, n3⟩ := h.ctl
  have hg' := grown_alloc hg
  have hodk : ∀ b, od.ownBlock = some b → w'.heap[b]? = wr.heap[b]? := fun b hb => hg'.block b (ownsRow_lt h.ods hb).2 (fun e => h.ne b e.symm hb)
  have hbck : w'.heap[bc]? = wr.heap[bc]? := hg'.block bc h.came.lt (fun e => by
    obtain ⟨cs, hcs⟩ := ownsRow_block3 h.evs e.symm
    exact h.came.type_ne hcs (by decide) rfl)
  have hp0 : par 0 (R ++ [(k : Int)]) = par 0 R ++ [(k : Int)] := by rw [par_app, if_pos hk]
  have hp1 : par 1 (R ++ [(k : Int)]) = par 1 R := by rw [par_app, if_neg (by omega)]
  refine ⟨⟨E, L, rv, Lf, hin.grownOther hg' (fun b hb => ⟨n2 b hb, (ownsRow_lt h.evs hb).1⟩), hA, hL, fun x => by have := hLf x; omega, n1, ?_, n3⟩, h.came.same hbck, h.own, ?_, ?_, ?_, h.nd, h.rng, h.len⟩
  · intro b hb
    rcases hat with hat | hat
    · exact n2 b (hat ▸ hb)
    · rw [hat] at hb; cases hb; intro hf; have := hin.rep.lt hf; simp at this; omega
  · rw [hp0]; simpa using hown
  · rw [hp1]; exact ownsRow_keep h.ods hodk
  · intro b hb
    rcases hat with hat | hat
    · exact h.ne b (hat ▸ hb)
    · rw [hat] at hb; cases hb; intro hf; have := (ownsRow_lt h.ods hf).2; simp at this; omega
theorem O2n.odd {B : Nat} {w0 wr w' : World} {c m bc i k : Nat} {R : List Int} {ev od od' : Value} {o : Obj} (h : O2n B w0 wr c m bc i k R ev od) (hk : (k : Int) % 2 = 1)
    (hown : w'.ownsRow B 3 1 od' ((par 1 R).length + 1) ((par 1 R).map (Value.int .i64) ++ [.int .i64 k])) (hg : (wr.alloc o).grownBy w' od.ownBlock) (hat : od'.ownBlock = od.ownBlock ∨ od'.ownBlock = some (wr.alloc o).heap.size) :
    O2 B w0 w' c m bc (i + 1) (R ++ [(k : Int)]) ev od' := by
  obtain ⟨E, L, rv, Lf, hin, hA, hL, hLf, n1, n2, n3⟩ := h.ctl
  have hg' := grown_alloc hg
  have hevk : ∀ b, ev.ownBlock = some b → w'.heap[b]? = wr.heap[b]? := fun b hb => hg'.block b (ownsRow_lt h.evs hb).2 (fun e => h.ne b hb e.symm)
  have hbck : w'.heap[bc]? = wr.heap[bc]? := hg'.block bc h.came.lt (fun e => by
    obtain ⟨cs, hcs⟩ := ownsRow_block3 h.ods e.symm
    exact h.came.type_ne hcs (by decide) rfl)
  have hp0 : par 1 (R ++ [(k : Int)]) = par 1 R ++ [(k : Int)] := by rw [par_app, if_pos hk]
  have hp1 : par 0 (R ++ [(k : Int)]) = par 0 R := by rw [par_app, if_neg (by omega)]
  refine ⟨⟨E, L, rv, Lf, hin.grownOther hg' (fun b hb => ⟨n3 b hb, (ownsRow_lt h.ods hb).1⟩), hA, hL, fun x => by have := hLf x; omega, n1, n2, ?_⟩, h.came.same hbck, h.own, ?_, ?_, ?_, h.nd, h.rng, h.len⟩
  · intro b hb
    rcases hat with hat | hat
    · exact n3 b (hat ▸ hb)
    · rw [hat] at hb; cases hb; intro hf; have := hin.rep.lt hf; simp at this; omega
  · rw [hp1]; exact ownsRow_keep h.evs hevk
  · rw [hp0]; simpa using hown
  · intro b hb hb2
    rcases hat with hat | hat
    · exact h.ne b hb (hat ▸ hb2)
    · rw [hat] at hb2; cases hb2; have := (ownsRow_lt h.evs hb).2; simp at this; omega
end Go.Proofs.Ytekgfdfganelmaa
