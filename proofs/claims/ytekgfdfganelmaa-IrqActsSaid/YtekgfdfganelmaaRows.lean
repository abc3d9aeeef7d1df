/-
  No cell of these rows narrows 'for every input' (looked for: loops, veiled, ifaces, maps, wideKeys, modest, calm, conditions, laid).
  DERIVED. THE GIVEN ROWS OF THIS SEAT. 5 by the template 'for every input the law returns true; each argument reads behind the call as it read before'; 0 by the template 'total and deterministic' (their statements: YtekgfdfganelmaaTotals.lean).
  GIVEN WITH THE SEED: the statements are not yours to turn. If you find one false, say at which input.
  Laid BY PROGRAM, IN A SANDBOX (cutbox-rows.mjs): the forced cells as the released guide's own fill.sh prints them over the translation da485f4aa1c11a76… (all of the seat's roots in one cut). By AI agents, Wed Nov 11 2026. No macro, syntax, notation, axiom, sorry.
-/
import Derived.Test.YtekgfdfganelmaaChecked
import GoSem.Claim
import GoSem.ClaimJoined
import GoSem.ClaimMapViews
import Derived.JoinedTies
import Derived.KernelRfl
namespace Go.Proofs.Ytekgfdfganelmaa
/- THE CELL 'sum', in the pinned program and in every row, IS THE sha256 OF THE DUMP (.gsa) THAT YtekgfdfganelmaaProg.lean LOADS. Nothing in Lean hashes anything: it is a label: what it is worth is what the hold of that sum in a sandbox is worth. -/
noncomputable def Try.pinned : Pinned := { name := "ytekgfdfganelmaa", sum := "da485f4aa1c11a76fb6cc408562bc75c7d41b7925693d3191ed4816f0d5cda35", checked := Try.checked }
namespace Rows
def none {H : Type} : Left H := { results := [], args := [] }

/-- 'quartermasterlaw13.IrqMasks': WHATEVER THE INPUT: true; the input reads as it did. -/
def irqMasksSpec : ChangeSpec := { name := "irqMasks", fn := fun _ => fun
  | [d1, d2, d3] => { results := [.lit (.bool true)], args := [d1, d2, d3] }
  | _ => none }
def irqMasksRow : OpenClaim := { program := "ytekgfdfganelmaa", sum := "da485f4aa1c11a76fb6cc408562bc75c7d41b7925693d3191ed4816f0d5cda35", func := "quartermaster/quartermasterlaw13.IrqMasks", spec := "irqMasks", unfollowed := true, recurses := true, apart := false }
def IrqMasksSaid : Prop := irqMasksRow.holds Try.pinned (OpenSpec.ofChange irqMasksSpec)

/-- ITS FALSE NEIGHBOUR: 'it returns false'. Refute it at one input. -/
def irqMasksWrong : ChangeSpec := { name := "irqMasks", fn := fun _ => fun
  | [d1, d2, d3] => { results := [.lit (.bool false)], args := [d1, d2, d3] }
  | _ => none }
def IrqMasksWrongFalsely : Prop := irqMasksRow.holds Try.pinned (OpenSpec.ofChange irqMasksWrong)

/-- 'quartermasterlaw13.IrqOrder': WHATEVER THE INPUT: true; the input reads as it did. -/
def irqOrderSpec : ChangeSpec := { name := "irqOrder", fn := fun _ => fun
  | [d1, d2] => { results := [.lit (.bool true)], args := [d1, d2] }
  | _ => none }
def irqOrderRow : OpenClaim := { program := "ytekgfdfganelmaa", sum := "da485f4aa1c11a76fb6cc408562bc75c7d41b7925693d3191ed4816f0d5cda35", func := "quartermaster/quartermasterlaw13.IrqOrder", spec := "irqOrder", unfollowed := true, recurses := true, apart := false }
def IrqOrderSaid : Prop := irqOrderRow.holds Try.pinned (OpenSpec.ofChange irqOrderSpec)

/-- ITS FALSE NEIGHBOUR: 'it returns false'. Refute it at one input. -/
def irqOrderWrong : ChangeSpec := { name := "irqOrder", fn := fun _ => fun
  | [d1, d2] => { results := [.lit (.bool false)], args := [d1, d2] }
  | _ => none }
def IrqOrderWrongFalsely : Prop := irqOrderRow.holds Try.pinned (OpenSpec.ofChange irqOrderWrong)

/-- 'quartermasterlaw13.IrqActs': WHATEVER THE INPUT: true; the input reads as it did. -/
def irqActsSpec : ChangeSpec := { name := "irqActs", fn := fun _ => fun
  | [d] => { results := [.lit (.bool true)], args := [d] }
  | _ => none }
def irqActsRow : OpenClaim := { program := "ytekgfdfganelmaa", sum := "da485f4aa1c11a76fb6cc408562bc75c7d41b7925693d3191ed4816f0d5cda35", func := "quartermaster/quartermasterlaw13.IrqActs", spec := "irqActs", unfollowed := true, recurses := true, apart := false }
def IrqActsSaid : Prop := irqActsRow.holds Try.pinned (OpenSpec.ofChange irqActsSpec)

/-- ITS FALSE NEIGHBOUR: 'it returns false'. Refute it at one input. -/
def irqActsWrong : ChangeSpec := { name := "irqActs", fn := fun _ => fun
  | [d] => { results := [.lit (.bool false)], args := [d] }
  | _ => none }
def IrqActsWrongFalsely : Prop := irqActsRow.holds Try.pinned (OpenSpec.ofChange irqActsWrong)

/-- 'quartermasterlaw13.IrqCount': WHATEVER THE INPUT: true; the input reads as it did. -/
def irqCountSpec : ChangeSpec := { name := "irqCount", fn := fun _ => fun
  | [d1, d2] => { results := [.lit (.bool true)], args := [d1, d2] }
  | _ => none }
def irqCountRow : OpenClaim := { program := "ytekgfdfganelmaa", sum := "da485f4aa1c11a76fb6cc408562bc75c7d41b7925693d3191ed4816f0d5cda35", func := "quartermaster/quartermasterlaw13.IrqCount", spec := "irqCount", unfollowed := true, recurses := true, apart := false }
def IrqCountSaid : Prop := irqCountRow.holds Try.pinned (OpenSpec.ofChange irqCountSpec)

/-- ITS FALSE NEIGHBOUR: 'it returns false'. Refute it at one input. -/
def irqCountWrong : ChangeSpec := { name := "irqCount", fn := fun _ => fun
  | [d1, d2] => { results := [.lit (.bool false)], args := [d1, d2] }
  | _ => none }
def IrqCountWrongFalsely : Prop := irqCountRow.holds Try.pinned (OpenSpec.ofChange irqCountWrong)

/-- 'quartermasterlaw13.IrqBinds': WHATEVER THE INPUT: true; the input reads as it did. -/
def irqBindsSpec : ChangeSpec := { name := "irqBinds", fn := fun _ => fun
  | [d1, d2, d3, d4] => { results := [.lit (.bool true)], args := [d1, d2, d3, d4] }
  | _ => none }
def irqBindsRow : OpenClaim := { program := "ytekgfdfganelmaa", sum := "da485f4aa1c11a76fb6cc408562bc75c7d41b7925693d3191ed4816f0d5cda35", func := "quartermaster/quartermasterlaw13.IrqBinds", spec := "irqBinds", unfollowed := true, recurses := true, apart := false }
def IrqBindsSaid : Prop := irqBindsRow.holds Try.pinned (OpenSpec.ofChange irqBindsSpec)

/-- ITS FALSE NEIGHBOUR: 'it returns false'. Refute it at one input. -/
def irqBindsWrong : ChangeSpec := { name := "irqBinds", fn := fun _ => fun
  | [d1, d2, d3, d4] => { results := [.lit (.bool false)], args := [d1, d2, d3, d4] }
  | _ => none }
def IrqBindsWrongFalsely : Prop := irqBindsRow.holds Try.pinned (OpenSpec.ofChange irqBindsWrong)

/- THE SECOND FORM. 'bulk': how many values and letters a reading holds, each counted each time it is reached (what is shared counts as often as it is met; a slice's spare places count too). A statement '..UptoSaid' is the law's where the arguments, and the package variables that the reading takes, are together of bulk at most 1048576: NARROWER than '..Said'. Prove '..Said' where nothing that the law and all that it calls make is longer than what came in: it says more and counts as full. Else prove '..UptoSaid'. A law counts once. -/
mutual
def uptoBulk {H : Type} : DataW H → Nat
  | .lit (.string bytes) => bytes.length + 1
  | .lit _ => 1
  | .nil => 1
  | .ptr d => uptoBulk d + 1
  | .slice elems spare => uptoBulkAll elems + uptoBulkAll spare + 1
  | .agg parts => uptoBulkAll parts + 1
  | .iface _ d => uptoBulk d + 1
  | .map entries => uptoBulkEntries entries + 1
  | .held _ => 1
def uptoBulkAll {H : Type} : List (DataW H) → Nat
  | [] => 0
  | d :: r => uptoBulk d + uptoBulkAll r
def uptoBulkEntries {H : Type} : List (Lit × DataW H) → Nat
  | [] => 0
  | x :: r => uptoBulkEntry x + uptoBulkEntries r
def uptoBulkEntry {H : Type} : Lit × DataW H → Nat
  | (.string bytes, d) => bytes.length + uptoBulk d + 1
  | (_, d) => uptoBulk d + 1
 end
def uptoSmall : (H : Type) → List (DataW H) → Bool := fun _ ds => decide (uptoBulkAll ds ≤ 1048576)
def OpenSpec.upto (s : _root_.Go.ChangeSpec) : _root_.Go.OpenSpec := { _root_.Go.OpenSpec.ofChange s with cond := some uptoSmall }

/-- 'quartermasterlaw13.IrqMasks', WHERE WHAT IT READS IS OF BULK AT MOST 1048576: true; the input reads as it did. -/
def irqMasksUptoRow : OpenClaim := { program := "ytekgfdfganelmaa", sum := "da485f4aa1c11a76fb6cc408562bc75c7d41b7925693d3191ed4816f0d5cda35", func := "quartermaster/quartermasterlaw13.IrqMasks", spec := "irqMasks", unfollowed := true, recurses := true, apart := false, narrowed := true }
def IrqMasksUptoSaid : Prop := irqMasksUptoRow.holds Try.pinned (OpenSpec.upto irqMasksSpec)

/-- 'quartermasterlaw13.IrqOrder', WHERE WHAT IT READS IS OF BULK AT MOST 1048576: true; the input reads as it did. -/
def irqOrderUptoRow : OpenClaim := { program := "ytekgfdfganelmaa", sum := "da485f4aa1c11a76fb6cc408562bc75c7d41b7925693d3191ed4816f0d5cda35", func := "quartermaster/quartermasterlaw13.IrqOrder", spec := "irqOrder", unfollowed := true, recurses := true, apart := false, narrowed := true }
def IrqOrderUptoSaid : Prop := irqOrderUptoRow.holds Try.pinned (OpenSpec.upto irqOrderSpec)

/-- 'quartermasterlaw13.IrqActs', WHERE WHAT IT READS IS OF BULK AT MOST 1048576: true; the input reads as it did. -/
def irqActsUptoRow : OpenClaim := { program := "ytekgfdfganelmaa", sum := "da485f4aa1c11a76fb6cc408562bc75c7d41b7925693d3191ed4816f0d5cda35", func := "quartermaster/quartermasterlaw13.IrqActs", spec := "irqActs", unfollowed := true, recurses := true, apart := false, narrowed := true }
def IrqActsUptoSaid : Prop := irqActsUptoRow.holds Try.pinned (OpenSpec.upto irqActsSpec)

/-- 'quartermasterlaw13.IrqCount', WHERE WHAT IT READS IS OF BULK AT MOST 1048576: true; the input reads as it did. -/
def irqCountUptoRow : OpenClaim := { program := "ytekgfdfganelmaa", sum := "da485f4aa1c11a76fb6cc408562bc75c7d41b7925693d3191ed4816f0d5cda35", func := "quartermaster/quartermasterlaw13.IrqCount", spec := "irqCount", unfollowed := true, recurses := true, apart := false, narrowed := true }
def IrqCountUptoSaid : Prop := irqCountUptoRow.holds Try.pinned (OpenSpec.upto irqCountSpec)

/-- 'quartermasterlaw13.IrqBinds', WHERE WHAT IT READS IS OF BULK AT MOST 1048576: true; the input reads as it did. -/
def irqBindsUptoRow : OpenClaim := { program := "ytekgfdfganelmaa", sum := "da485f4aa1c11a76fb6cc408562bc75c7d41b7925693d3191ed4816f0d5cda35", func := "quartermaster/quartermasterlaw13.IrqBinds", spec := "irqBinds", unfollowed := true, recurses := true, apart := false, narrowed := true }
def IrqBindsUptoSaid : Prop := irqBindsUptoRow.holds Try.pinned (OpenSpec.upto irqBindsSpec)

end Rows
end Go.Proofs.Ytekgfdfganelmaa
