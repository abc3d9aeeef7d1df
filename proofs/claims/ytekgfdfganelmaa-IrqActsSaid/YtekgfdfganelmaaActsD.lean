/- What an act answers, of both controllers: the same. Condition: what AR says. -/
import Derived.Test.YtekgfdfganelmaaActsB
import Derived.Deep.RegionWith
namespace Go.Proofs.Ytekgfdfganelmaa
open Go.RowKit

def Does (B : Nat) (w0 : World) (c m r t : Nat) (K : List (Nat × Obj)) (e : Ending) (w' : World) : Prop :=
  (∃ x : Int, e = .returned (.tuple #[.int .i64 x, .int .i64 x])) ∧ AR B w0 w' c m r t K
/-- The act's own cells, wherever K holds them. -/
theorem box_cells {K : List (Nat × Obj)} {w : World} {b : Nat} {cs : List Value} {T : TypeId} (h : Kept ((b, .cells cs.toArray T (0, 0)) :: K) w) (i : Nat) (v : Value) (hv : cs[i]? = some v) : w.cell? ⟨b, i, none⟩ = some v :=
  Cells.cell (T := T) (cs := cs) (h (b, _) (List.mem_cons_self ..)) i v hv

end Go.Proofs.Ytekgfdfganelmaa
