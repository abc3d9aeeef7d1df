/- What stays true of the controller while one irq is counted: plain lists. No condition. -/
import Derived.Test.YtekgfdfganelmaaPure
import Derived.Test.YtekgfdfganelmaaAlive
namespace Go.Proofs.Ytekgfdfganelmaa
open Go.RowKit

def rowOf (k : Int) (b : Bool) : List Int := if b then [k] else []
def one (b : Bool) : Int := if b then 1 else 0
structure CI (E : List Ent) (L row : List Int) (k : Int) (came went : Int) (ek : Ent) : Prop where
  fk : find E k = some ek
  others : ∀ x ∈ E, x.id ≠ k → x.q.line = -1
  row : row = rowOf k ek.q.pending
  line : ek.q.line = -1 ∨ ∃ p : Nat, p < 16 ∧ ek.q.line = p ∧ L[p]?.getD 0 = k + 1
  lines : ∀ p : Nat, p < 16 → L[p]?.getD 0 = 0 ∨ (L[p]?.getD 0 = k + 1 ∧ ek.q.line = p)
  lost : 0 ≤ ek.q.lost
  sum : came = went + ek.q.lost + one ek.q.pending
  wpos : 0 ≤ went

theorem CI.add {E : List Ent} {L row : List Int} {k came went : Int} {ek : Ent} (h : CI E L row k came went ek) {id : Int} (hf : find E id = none) (b : Nat) : CI (E ++ [⟨id, b, .fresh⟩]) L row k came went ek := by
  refine ⟨by rw [find_append, h.fk], ?_, h.row, h.line, h.lines, h.lost, h.sum, h.wpos⟩
  intro x hx hne
  rcases List.mem_append.1 hx with hx | hx
  · exact h.others x hx hne
  · simp at hx; subst hx; rfl
theorem CI.remove {E : List Ent} {L row : List Int} {k came went : Int} {ek : Ent} (h : CI E L row k came went ek) (hids : E.Pairwise (fun a b => a.id ≠ b.id)) {id : Int} (hne : id ≠ k) : CI (rem E id) L (flt row id) k came went ek := by
  refine ⟨by rw [find_rem hids, if_neg (fun e => hne e.symm)]; exact h.fk, fun x hx => h.others x (mem_rem hx), ?_, h.line, h.lines, h.lost, h.sum, h.wpos⟩
  rw [h.row]
  unfold rowOf flt
  cases ek.q.pending <;> simp
  exact fun e => hne e.symm
theorem find_upd_same {E : List Ent} {id : Int} {e : Ent} (hf : find E id = some e) (q : Irq) : find (upd E id q) id = some { e with q := q } := by
  induction E with
  | nil => simp [find] at hf
  | cons x r ih =>
    by_cases hx : id = x.id
    · simp only [find, hx, if_true] at hf
      simp only [upd, List.map_cons, hx, if_true, find]
      cases hf; rfl
    · simp only [find, hx, if_false] at hf
      have := ih hf
      have hx' : ¬ x.id = id := fun e => hx e.symm
      simp only [upd, List.map_cons, hx', if_false, find, hx]
      exact this
theorem find_upd_other {E : List Ent} {id j : Int} (hne : j ≠ id) (q : Irq) : find (upd E id q) j = find E j := by
  induction E with
  | nil => rfl
  | cons x r ih =>
    by_cases hx : x.id = id
    · have hj : ¬ j = x.id := fun e => hne (e.trans hx)
      simp only [upd, List.map_cons, hx, if_true, find, hj, if_false]
      have hj2 : ¬ j = id := hne
      simp only [hj2, if_false]
      exact ih
    · simp only [upd, List.map_cons, hx, if_false, find]
      by_cases hj : j = x.id
      · simp [hj]
      · simp only [hj, if_false]; exact ih
theorem CI.turn {E : List Ent} {L row : List Int} {k came went : Int} {ek : Ent} (h : CI E L row k came went ek) (q : Irq) {L' row' : List Int} {came' went' : Int} (hr : row' = rowOf k q.pending)
    (hl : q.line = -1 ∨ ∃ p : Nat, p < 16 ∧ q.line = p ∧ L'[p]?.getD 0 = k + 1) (hls : ∀ p : Nat, p < 16 → L'[p]?.getD 0 = 0 ∨ (L'[p]?.getD 0 = k + 1 ∧ q.line = p)) (h0 : 0 ≤ q.lost) (hs : came' = went' + q.lost + one q.pending) (hw : 0 ≤ went') :
    CI (upd E k q) L' row' k came' went' { ek with q := q } := by
  refine ⟨find_upd_same h.fk q, ?_, hr, hl, hls, h0, hs, hw⟩
  intro x hx hne
  obtain ⟨y, hy, _, hyid, hc⟩ := mem_upd hx
  rcases hc with ⟨h1, _⟩ | ⟨h1, rfl⟩
  · exact absurd (hyid.symm.trans h1) hne
  · exact h.others x hy hne
theorem CI.mask {L row : List Int} {k came went : Int} (on : Bool) : ∀ (l : List Int) (E : List Ent) (n : Nat) (ek : Ent), CI E L row k came went ek → ∃ ek', CI (mall on l E n).1 L row k came went ek'
  | [], E, n, ek, h => ⟨ek, h⟩
  | id :: r, E, n, ek, h => by
    unfold mall
    have step : ∃ ek', CI (mstep on E id).1 L row k came went ek' := by
      unfold mstep
      cases hf : find E id with
      | none => exact ⟨ek, h⟩
      | some e =>
        by_cases hid : id = k
        · subst hid
          have he : e = ek := by rw [h.fk] at hf; exact (Option.some.inj hf).symm
          subst he
          exact ⟨_, h.turn { e.q with masked := on } h.row h.line h.lines h.lost h.sum h.wpos⟩
        · refine ⟨ek, ⟨by rw [find_upd_other (fun e => hid e.symm)]; exact h.fk, ?_, h.row, h.line, h.lines, h.lost, h.sum, h.wpos⟩⟩
          intro x hx hne
          obtain ⟨y, hy, _, hyid, hc⟩ := mem_upd hx
          rcases hc with ⟨h1, h2⟩ | ⟨h1, rfl⟩
          · rw [h2]
            obtain ⟨he, heid⟩ := find_mem hf
            exact h.others e he (by rw [heid]; exact hid)
          · exact h.others x hy hne
    obtain ⟨ek', h'⟩ := step
    exact CI.mask on r _ _ ek' h'
end Go.Proofs.Ytekgfdfganelmaa
