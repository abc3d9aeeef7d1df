/-
  NARROWER THAN 'FOR EVERY INPUT', by the rows' own cells (each row's printed sentence says how): CoreUnder: laid · CoreStale: laid · CoreExact: laid · CoreGrace: laid · CoreActs: laid · CoreApart: laid · CoreCharge: laid · CoreBack: laid · CoreFails: laid.
  DERIVED. THE GIVEN ROWS OF THIS SEAT. 9 by the template 'for every input the law returns true; each argument reads behind the call as it read before'; 0 by the template 'total and deterministic' (their statements: YtcnbbenmlffgpaaGreatDoorTotals.lean).
  GIVEN WITH THE SEED: the statements are not yours to turn. If you find one false, say at which input.
  Laid BY PROGRAM, IN A SANDBOX (cutbox-rows.mjs): the forced cells as the released guide's own fill.sh prints them over the translation 52846fff07c0e6df… (all of the seat's roots in one cut). By AI agents, Wed Nov 11 2026. No macro, syntax, notation, axiom, sorry.
-/
import Derived.Test.YtcnbbenmlffgpaaGreatDoorChecked
import GoSem.Claim
import GoSem.ClaimJoined
import GoSem.ClaimMapViews
import Derived.JoinedTies
import Derived.KernelRfl
namespace Go.Proofs.YtcnbbenmlffgpaaGreatDoor
/- THE CELL 'sum', in the pinned program and in every row, IS THE sha256 OF THE DUMP (.gsa) THAT YtcnbbenmlffgpaaGreatDoorProg.lean LOADS. Nothing in Lean hashes anything: it is a label: what it is worth is what the hold of that sum in a sandbox is worth. -/
noncomputable def Tryz.pinned : Pinned := { name := "ytcnbbenmlffgpaagreatdoor", sum := "52846fff07c0e6df7d10d4d72ce9ca0137357767dcefc0dffae8e442ae5b648b", checked := Tryz.checked }
namespace Rows
def none {H : Type} : Left H := { results := [], args := [] }

/- WHAT THE LISTED PACKAGE-LEVEL VARIABLES READ AS WHEN THE CALL BEGINS. Each datum BY PROGRAM (the guide's laid-datum.mjs) off the statement by which the dump's own 'gosem.cut.vars' lays the variable. In a bare row this is a premise. The card (YtcnbbenmlffgpaaGreatDoorCards.lean) ties it to the program's text. -/
def laid_math_bits_deBruijn32tab {H : Type} : DataW H := .agg [.lit (.int .u8 0), .lit (.int .u8 1), .lit (.int .u8 28), .lit (.int .u8 2), .lit (.int .u8 29), .lit (.int .u8 14), .lit (.int .u8 24), .lit (.int .u8 3), .lit (.int .u8 30), .lit (.int .u8 22), .lit (.int .u8 20), .lit (.int .u8 15), .lit (.int .u8 25), .lit (.int .u8 17), .lit (.int .u8 4), .lit (.int .u8 8), .lit (.int .u8 31), .lit (.int .u8 27), .lit (.int .u8 13), .lit (.int .u8 23), .lit (.int .u8 21), .lit (.int .u8 19), .lit (.int .u8 16), .lit (.int .u8 7), .lit (.int .u8 26), .lit (.int .u8 12), .lit (.int .u8 18), .lit (.int .u8 6), .lit (.int .u8 11), .lit (.int .u8 5), .lit (.int .u8 10), .lit (.int .u8 9)]
def laid_math_bits_deBruijn64tab {H : Type} : DataW H := .agg [.lit (.int .u8 0), .lit (.int .u8 1), .lit (.int .u8 56), .lit (.int .u8 2), .lit (.int .u8 57), .lit (.int .u8 49), .lit (.int .u8 28), .lit (.int .u8 3), .lit (.int .u8 61), .lit (.int .u8 58), .lit (.int .u8 42), .lit (.int .u8 50), .lit (.int .u8 38), .lit (.int .u8 29), .lit (.int .u8 17), .lit (.int .u8 4), .lit (.int .u8 62), .lit (.int .u8 47), .lit (.int .u8 59), .lit (.int .u8 36), .lit (.int .u8 45), .lit (.int .u8 43), .lit (.int .u8 51), .lit (.int .u8 22), .lit (.int .u8 53), .lit (.int .u8 39), .lit (.int .u8 33), .lit (.int .u8 30), .lit (.int .u8 24), .lit (.int .u8 18), .lit (.int .u8 12), .lit (.int .u8 5), .lit (.int .u8 63), .lit (.int .u8 55), .lit (.int .u8 48), .lit (.int .u8 27), .lit (.int .u8 60), .lit (.int .u8 41), .lit (.int .u8 37), .lit (.int .u8 16), .lit (.int .u8 46), .lit (.int .u8 35), .lit (.int .u8 44), .lit (.int .u8 21), .lit (.int .u8 52), .lit (.int .u8 32), .lit (.int .u8 23), .lit (.int .u8 11), .lit (.int .u8 54), .lit (.int .u8 26), .lit (.int .u8 40), .lit (.int .u8 15), .lit (.int .u8 34), .lit (.int .u8 20), .lit (.int .u8 31), .lit (.int .u8 10), .lit (.int .u8 25), .lit (.int .u8 14), .lit (.int .u8 19), .lit (.int .u8 9), .lit (.int .u8 13), .lit (.int .u8 8), .lit (.int .u8 7), .lit (.int .u8 6)]
def laid_quartermaster_pool_costs {H : Type} : DataW H := .agg [.lit (.int .i64 0), .lit (.int .i64 64), .lit (.int .i64 128), .lit (.int .i64 256), .lit (.int .i64 32), .lit (.int .i64 32), .lit (.int .i64 48), .lit (.int .i64 256)]

/-- 'quartermasterlaw16.CoreUnder': WHATEVER THE INPUT: true; the input reads as it did. -/
def coreUnderSpec : ChangeSpec := { name := "coreUnder", fn := fun _ => fun
  | [d1, d2] => { results := [.lit (.bool true)], args := [d1, d2] }
  | _ => none }
def coreUnderRow : OpenClaim := { program := "ytcnbbenmlffgpaagreatdoor", sum := "52846fff07c0e6df7d10d4d72ce9ca0137357767dcefc0dffae8e442ae5b648b", func := "quartermaster/quartermasterlaw16.CoreUnder", spec := "coreUnder", inPlace := ["slices.overlaps[quartermaster/slab.page]"], unfollowed := true, recurses := true, named := ["quartermaster/pool.costs", "math/bits.deBruijn32tab", "math/bits.deBruijn64tab"], apart := false, laid := [("math/bits.deBruijn32tab", laid_math_bits_deBruijn32tab), ("math/bits.deBruijn64tab", laid_math_bits_deBruijn64tab), ("quartermaster/pool.costs", laid_quartermaster_pool_costs)] }
def CoreUnderSaid : Prop := coreUnderRow.holds Tryz.pinned (OpenSpec.ofChange coreUnderSpec)

/-- ITS FALSE NEIGHBOUR: 'it returns false'. Refute it at one input. -/
def coreUnderWrong : ChangeSpec := { name := "coreUnder", fn := fun _ => fun
  | [d1, d2] => { results := [.lit (.bool false)], args := [d1, d2] }
  | _ => none }
def CoreUnderWrongFalsely : Prop := coreUnderRow.holds Tryz.pinned (OpenSpec.ofChange coreUnderWrong)

/-- 'quartermasterlaw16.CoreStale': WHATEVER THE INPUT: true; the input reads as it did. -/
def coreStaleSpec : ChangeSpec := { name := "coreStale", fn := fun _ => fun
  | [d1, d2] => { results := [.lit (.bool true)], args := [d1, d2] }
  | _ => none }
def coreStaleRow : OpenClaim := { program := "ytcnbbenmlffgpaagreatdoor", sum := "52846fff07c0e6df7d10d4d72ce9ca0137357767dcefc0dffae8e442ae5b648b", func := "quartermaster/quartermasterlaw16.CoreStale", spec := "coreStale", inPlace := ["slices.overlaps[quartermaster/slab.page]"], unfollowed := true, recurses := true, named := ["quartermaster/pool.costs", "math/bits.deBruijn32tab", "math/bits.deBruijn64tab"], apart := false, laid := [("math/bits.deBruijn32tab", laid_math_bits_deBruijn32tab), ("math/bits.deBruijn64tab", laid_math_bits_deBruijn64tab), ("quartermaster/pool.costs", laid_quartermaster_pool_costs)] }
def CoreStaleSaid : Prop := coreStaleRow.holds Tryz.pinned (OpenSpec.ofChange coreStaleSpec)

/-- ITS FALSE NEIGHBOUR: 'it returns false'. Refute it at one input. -/
def coreStaleWrong : ChangeSpec := { name := "coreStale", fn := fun _ => fun
  | [d1, d2] => { results := [.lit (.bool false)], args := [d1, d2] }
  | _ => none }
def CoreStaleWrongFalsely : Prop := coreStaleRow.holds Tryz.pinned (OpenSpec.ofChange coreStaleWrong)

/-- 'quartermasterlaw16.CoreExact': WHATEVER THE INPUT: true; the input reads as it did. -/
def coreExactSpec : ChangeSpec := { name := "coreExact", fn := fun _ => fun
  | [d1, d2, d3] => { results := [.lit (.bool true)], args := [d1, d2, d3] }
  | _ => none }
def coreExactRow : OpenClaim := { program := "ytcnbbenmlffgpaagreatdoor", sum := "52846fff07c0e6df7d10d4d72ce9ca0137357767dcefc0dffae8e442ae5b648b", func := "quartermaster/quartermasterlaw16.CoreExact", spec := "coreExact", inPlace := ["slices.overlaps[quartermaster/slab.page]"], unfollowed := true, recurses := true, named := ["quartermaster/pool.costs", "math/bits.deBruijn32tab", "math/bits.deBruijn64tab"], apart := false, laid := [("math/bits.deBruijn32tab", laid_math_bits_deBruijn32tab), ("math/bits.deBruijn64tab", laid_math_bits_deBruijn64tab), ("quartermaster/pool.costs", laid_quartermaster_pool_costs)] }
def CoreExactSaid : Prop := coreExactRow.holds Tryz.pinned (OpenSpec.ofChange coreExactSpec)

/-- ITS FALSE NEIGHBOUR: 'it returns false'. Refute it at one input. -/
def coreExactWrong : ChangeSpec := { name := "coreExact", fn := fun _ => fun
  | [d1, d2, d3] => { results := [.lit (.bool false)], args := [d1, d2, d3] }
  | _ => none }
def CoreExactWrongFalsely : Prop := coreExactRow.holds Tryz.pinned (OpenSpec.ofChange coreExactWrong)

/-- 'quartermasterlaw16.CoreGrace': WHATEVER THE INPUT: true; the input reads as it did. -/
def coreGraceSpec : ChangeSpec := { name := "coreGrace", fn := fun _ => fun
  | [d1, d2, d3] => { results := [.lit (.bool true)], args := [d1, d2, d3] }
  | _ => none }
def coreGraceRow : OpenClaim := { program := "ytcnbbenmlffgpaagreatdoor", sum := "52846fff07c0e6df7d10d4d72ce9ca0137357767dcefc0dffae8e442ae5b648b", func := "quartermaster/quartermasterlaw16.CoreGrace", spec := "coreGrace", inPlace := ["slices.overlaps[quartermaster/slab.page]"], unfollowed := true, recurses := true, named := ["quartermaster/pool.costs", "math/bits.deBruijn32tab", "math/bits.deBruijn64tab"], apart := false, laid := [("math/bits.deBruijn32tab", laid_math_bits_deBruijn32tab), ("math/bits.deBruijn64tab", laid_math_bits_deBruijn64tab), ("quartermaster/pool.costs", laid_quartermaster_pool_costs)] }
def CoreGraceSaid : Prop := coreGraceRow.holds Tryz.pinned (OpenSpec.ofChange coreGraceSpec)

/-- ITS FALSE NEIGHBOUR: 'it returns false'. Refute it at one input. -/
def coreGraceWrong : ChangeSpec := { name := "coreGrace", fn := fun _ => fun
  | [d1, d2, d3] => { results := [.lit (.bool false)], args := [d1, d2, d3] }
  | _ => none }
def CoreGraceWrongFalsely : Prop := coreGraceRow.holds Tryz.pinned (OpenSpec.ofChange coreGraceWrong)

/-- 'quartermasterlaw16.CoreActs': WHATEVER THE INPUT: true; the input reads as it did. -/
def coreActsSpec : ChangeSpec := { name := "coreActs", fn := fun _ => fun
  | [d1, d2, d3, d4] => { results := [.lit (.bool true)], args := [d1, d2, d3, d4] }
  | _ => none }
def coreActsRow : OpenClaim := { program := "ytcnbbenmlffgpaagreatdoor", sum := "52846fff07c0e6df7d10d4d72ce9ca0137357767dcefc0dffae8e442ae5b648b", func := "quartermaster/quartermasterlaw16.CoreActs", spec := "coreActs", inPlace := ["slices.overlaps[quartermaster/slab.page]"], unfollowed := true, recurses := true, named := ["quartermaster/pool.costs", "math/bits.deBruijn32tab", "math/bits.deBruijn64tab"], apart := false, laid := [("math/bits.deBruijn32tab", laid_math_bits_deBruijn32tab), ("math/bits.deBruijn64tab", laid_math_bits_deBruijn64tab), ("quartermaster/pool.costs", laid_quartermaster_pool_costs)] }
def CoreActsSaid : Prop := coreActsRow.holds Tryz.pinned (OpenSpec.ofChange coreActsSpec)

/-- ITS FALSE NEIGHBOUR: 'it returns false'. Refute it at one input. -/
def coreActsWrong : ChangeSpec := { name := "coreActs", fn := fun _ => fun
  | [d1, d2, d3, d4] => { results := [.lit (.bool false)], args := [d1, d2, d3, d4] }
  | _ => none }
def CoreActsWrongFalsely : Prop := coreActsRow.holds Tryz.pinned (OpenSpec.ofChange coreActsWrong)

/-- 'quartermasterlaw16.CoreApart': WHATEVER THE INPUT: true; the input reads as it did. -/
def coreApartSpec : ChangeSpec := { name := "coreApart", fn := fun _ => fun
  | [d1, d2, d3] => { results := [.lit (.bool true)], args := [d1, d2, d3] }
  | _ => none }
def coreApartRow : OpenClaim := { program := "ytcnbbenmlffgpaagreatdoor", sum := "52846fff07c0e6df7d10d4d72ce9ca0137357767dcefc0dffae8e442ae5b648b", func := "quartermaster/quartermasterlaw16.CoreApart", spec := "coreApart", inPlace := ["slices.overlaps[quartermaster/slab.page]"], unfollowed := true, recurses := true, named := ["quartermaster/pool.costs", "math/bits.deBruijn32tab", "math/bits.deBruijn64tab"], apart := false, laid := [("math/bits.deBruijn32tab", laid_math_bits_deBruijn32tab), ("math/bits.deBruijn64tab", laid_math_bits_deBruijn64tab), ("quartermaster/pool.costs", laid_quartermaster_pool_costs)] }
def CoreApartSaid : Prop := coreApartRow.holds Tryz.pinned (OpenSpec.ofChange coreApartSpec)

/-- ITS FALSE NEIGHBOUR: 'it returns false'. Refute it at one input. -/
def coreApartWrong : ChangeSpec := { name := "coreApart", fn := fun _ => fun
  | [d1, d2, d3] => { results := [.lit (.bool false)], args := [d1, d2, d3] }
  | _ => none }
def CoreApartWrongFalsely : Prop := coreApartRow.holds Tryz.pinned (OpenSpec.ofChange coreApartWrong)

/-- 'quartermasterlaw16.CoreCharge': WHATEVER THE INPUT: true; the input reads as it did. -/
def coreChargeSpec : ChangeSpec := { name := "coreCharge", fn := fun _ => fun
  | [d1, d2, d3] => { results := [.lit (.bool true)], args := [d1, d2, d3] }
  | _ => none }
def coreChargeRow : OpenClaim := { program := "ytcnbbenmlffgpaagreatdoor", sum := "52846fff07c0e6df7d10d4d72ce9ca0137357767dcefc0dffae8e442ae5b648b", func := "quartermaster/quartermasterlaw16.CoreCharge", spec := "coreCharge", inPlace := ["slices.overlaps[quartermaster/slab.page]"], unfollowed := true, recurses := true, named := ["quartermaster/pool.costs", "math/bits.deBruijn32tab", "math/bits.deBruijn64tab"], apart := false, laid := [("math/bits.deBruijn32tab", laid_math_bits_deBruijn32tab), ("math/bits.deBruijn64tab", laid_math_bits_deBruijn64tab), ("quartermaster/pool.costs", laid_quartermaster_pool_costs)] }
def CoreChargeSaid : Prop := coreChargeRow.holds Tryz.pinned (OpenSpec.ofChange coreChargeSpec)

/-- ITS FALSE NEIGHBOUR: 'it returns false'. Refute it at one input. -/
def coreChargeWrong : ChangeSpec := { name := "coreCharge", fn := fun _ => fun
  | [d1, d2, d3] => { results := [.lit (.bool false)], args := [d1, d2, d3] }
  | _ => none }
def CoreChargeWrongFalsely : Prop := coreChargeRow.holds Tryz.pinned (OpenSpec.ofChange coreChargeWrong)

/-- 'quartermasterlaw16.CoreBack': WHATEVER THE INPUT: true; the input reads as it did. -/
def coreBackSpec : ChangeSpec := { name := "coreBack", fn := fun _ => fun
  | [d1, d2, d3] => { results := [.lit (.bool true)], args := [d1, d2, d3] }
  | _ => none }
def coreBackRow : OpenClaim := { program := "ytcnbbenmlffgpaagreatdoor", sum := "52846fff07c0e6df7d10d4d72ce9ca0137357767dcefc0dffae8e442ae5b648b", func := "quartermaster/quartermasterlaw16.CoreBack", spec := "coreBack", inPlace := ["slices.overlaps[quartermaster/slab.page]"], unfollowed := true, recurses := true, named := ["quartermaster/pool.costs", "math/bits.deBruijn32tab", "math/bits.deBruijn64tab"], apart := false, laid := [("math/bits.deBruijn32tab", laid_math_bits_deBruijn32tab), ("math/bits.deBruijn64tab", laid_math_bits_deBruijn64tab), ("quartermaster/pool.costs", laid_quartermaster_pool_costs)] }
def CoreBackSaid : Prop := coreBackRow.holds Tryz.pinned (OpenSpec.ofChange coreBackSpec)

/-- ITS FALSE NEIGHBOUR: 'it returns false'. Refute it at one input. -/
def coreBackWrong : ChangeSpec := { name := "coreBack", fn := fun _ => fun
  | [d1, d2, d3] => { results := [.lit (.bool false)], args := [d1, d2, d3] }
  | _ => none }
def CoreBackWrongFalsely : Prop := coreBackRow.holds Tryz.pinned (OpenSpec.ofChange coreBackWrong)

/-- 'quartermasterlaw16.CoreFails': WHATEVER THE INPUT: true; the input reads as it did. -/
def coreFailsSpec : ChangeSpec := { name := "coreFails", fn := fun _ => fun
  | [d1, d2, d3, d4, d5] => { results := [.lit (.bool true)], args := [d1, d2, d3, d4, d5] }
  | _ => none }
def coreFailsRow : OpenClaim := { program := "ytcnbbenmlffgpaagreatdoor", sum := "52846fff07c0e6df7d10d4d72ce9ca0137357767dcefc0dffae8e442ae5b648b", func := "quartermaster/quartermasterlaw16.CoreFails", spec := "coreFails", inPlace := ["slices.overlaps[quartermaster/slab.page]"], unfollowed := true, recurses := true, named := ["quartermaster/pool.costs", "math/bits.deBruijn32tab", "math/bits.deBruijn64tab"], apart := false, laid := [("math/bits.deBruijn32tab", laid_math_bits_deBruijn32tab), ("math/bits.deBruijn64tab", laid_math_bits_deBruijn64tab), ("quartermaster/pool.costs", laid_quartermaster_pool_costs)] }
def CoreFailsSaid : Prop := coreFailsRow.holds Tryz.pinned (OpenSpec.ofChange coreFailsSpec)

/-- ITS FALSE NEIGHBOUR: 'it returns false'. Refute it at one input. -/
def coreFailsWrong : ChangeSpec := { name := "coreFails", fn := fun _ => fun
  | [d1, d2, d3, d4, d5] => { results := [.lit (.bool false)], args := [d1, d2, d3, d4, d5] }
  | _ => none }
def CoreFailsWrongFalsely : Prop := coreFailsRow.holds Tryz.pinned (OpenSpec.ofChange coreFailsWrong)

/- THE SECOND FORM. 'bulk': how many values and letters a reading holds, each counted each time it is reached (what is shared counts as often as it is met; a slice's spare places count too). A statement '..UptoSaid' is the law's where the arguments, and the package variables that the reading takes, are together of bulk at most 1048576: NARROWER than '..Said'. Prove '..Said' where nothing that the law and all that it calls make is longer than what came in: it says more and counts as full. Else prove '..UptoSaid'. A law counts once. -/
mutual
def uptoBulk {H : Type} : DataW H → Nat
  | .lit (.string bytes) => bytes.length + 1
  | .lit _ => 1
  | .nil => 1
  | .ptr d => uptoBulk d + 1
  | .slice elems spare => uptoBulkAll elems + uptoBulkAll spare + 1
  | .agg parts => uptoBulkAll parts + 1
  | .iface _ d => uptoBulk d + 1
  | .map entries => uptoBulkEntries entries + 1
  | .held _ => 1
def uptoBulkAll {H : Type} : List (DataW H) → Nat
  | [] => 0
  | d :: r => uptoBulk d + uptoBulkAll r
def uptoBulkEntries {H : Type} : List (Lit × DataW H) → Nat
  | [] => 0
  | x :: r => uptoBulkEntry x + uptoBulkEntries r
def uptoBulkEntry {H : Type} : Lit × DataW H → Nat
  | (.string bytes, d) => bytes.length + uptoBulk d + 1
  | (_, d) => uptoBulk d + 1
 end
def uptoSmall : (H : Type) → List (DataW H) → Bool := fun _ ds => decide (uptoBulkAll ds ≤ 1048576)
def OpenSpec.upto (s : _root_.Go.ChangeSpec) : _root_.Go.OpenSpec := { _root_.Go.OpenSpec.ofChange s with cond := some uptoSmall }

/-- 'quartermasterlaw16.CoreUnder', WHERE WHAT IT READS IS OF BULK AT MOST 1048576: true; the input reads as it did. -/
def coreUnderUptoRow : OpenClaim := { program := "ytcnbbenmlffgpaagreatdoor", sum := "52846fff07c0e6df7d10d4d72ce9ca0137357767dcefc0dffae8e442ae5b648b", func := "quartermaster/quartermasterlaw16.CoreUnder", spec := "coreUnder", inPlace := ["slices.overlaps[quartermaster/slab.page]"], unfollowed := true, recurses := true, named := ["quartermaster/pool.costs", "math/bits.deBruijn32tab", "math/bits.deBruijn64tab"], apart := false, laid := [("math/bits.deBruijn32tab", laid_math_bits_deBruijn32tab), ("math/bits.deBruijn64tab", laid_math_bits_deBruijn64tab), ("quartermaster/pool.costs", laid_quartermaster_pool_costs)], narrowed := true }
def CoreUnderUptoSaid : Prop := coreUnderUptoRow.holds Tryz.pinned (OpenSpec.upto coreUnderSpec)

/-- 'quartermasterlaw16.CoreStale', WHERE WHAT IT READS IS OF BULK AT MOST 1048576: true; the input reads as it did. -/
def coreStaleUptoRow : OpenClaim := { program := "ytcnbbenmlffgpaagreatdoor", sum := "52846fff07c0e6df7d10d4d72ce9ca0137357767dcefc0dffae8e442ae5b648b", func := "quartermaster/quartermasterlaw16.CoreStale", spec := "coreStale", inPlace := ["slices.overlaps[quartermaster/slab.page]"], unfollowed := true, recurses := true, named := ["quartermaster/pool.costs", "math/bits.deBruijn32tab", "math/bits.deBruijn64tab"], apart := false, laid := [("math/bits.deBruijn32tab", laid_math_bits_deBruijn32tab), ("math/bits.deBruijn64tab", laid_math_bits_deBruijn64tab), ("quartermaster/pool.costs", laid_quartermaster_pool_costs)], narrowed := true }
def CoreStaleUptoSaid : Prop := coreStaleUptoRow.holds Tryz.pinned (OpenSpec.upto coreStaleSpec)

/-- 'quartermasterlaw16.CoreExact', WHERE WHAT IT READS IS OF BULK AT MOST 1048576: true; the input reads as it did. -/
def coreExactUptoRow : OpenClaim := { program := "ytcnbbenmlffgpaagreatdoor", sum := "52846fff07c0e6df7d10d4d72ce9ca0137357767dcefc0dffae8e442ae5b648b", func := "quartermaster/quartermasterlaw16.CoreExact", spec := "coreExact", inPlace := ["slices.overlaps[quartermaster/slab.page]"], unfollowed := true, recurses := true, named := ["quartermaster/pool.costs", "math/bits.deBruijn32tab", "math/bits.deBruijn64tab"], apart := false, laid := [("math/bits.deBruijn32tab", laid_math_bits_deBruijn32tab), ("math/bits.deBruijn64tab", laid_math_bits_deBruijn64tab), ("quartermaster/pool.costs", laid_quartermaster_pool_costs)], narrowed := true }
def CoreExactUptoSaid : Prop := coreExactUptoRow.holds Tryz.pinned (OpenSpec.upto coreExactSpec)

/-- 'quartermasterlaw16.CoreGrace', WHERE WHAT IT READS IS OF BULK AT MOST 1048576: true; the input reads as it did. -/
def coreGraceUptoRow : OpenClaim := { program := "ytcnbbenmlffgpaagreatdoor", sum := "52846fff07c0e6df7d10d4d72ce9ca0137357767dcefc0dffae8e442ae5b648b", func := "quartermaster/quartermasterlaw16.CoreGrace", spec := "coreGrace", inPlace := ["slices.overlaps[quartermaster/slab.page]"], unfollowed := true, recurses := true, named := ["quartermaster/pool.costs", "math/bits.deBruijn32tab", "math/bits.deBruijn64tab"], apart := false, laid := [("math/bits.deBruijn32tab", laid_math_bits_deBruijn32tab), ("math/bits.deBruijn64tab", laid_math_bits_deBruijn64tab), ("quartermaster/pool.costs", laid_quartermaster_pool_costs)], narrowed := true }
def CoreGraceUptoSaid : Prop := coreGraceUptoRow.holds Tryz.pinned (OpenSpec.upto coreGraceSpec)

/-- 'quartermasterlaw16.CoreActs', WHERE WHAT IT READS IS OF BULK AT MOST 1048576: true; the input reads as it did. -/
def coreActsUptoRow : OpenClaim := { program := "ytcnbbenmlffgpaagreatdoor", sum := "52846fff07c0e6df7d10d4d72ce9ca0137357767dcefc0dffae8e442ae5b648b", func := "quartermaster/quartermasterlaw16.CoreActs", spec := "coreActs", inPlace := ["slices.overlaps[quartermaster/slab.page]"], unfollowed := true, recurses := true, named := ["quartermaster/pool.costs", "math/bits.deBruijn32tab", "math/bits.deBruijn64tab"], apart := false, laid := [("math/bits.deBruijn32tab", laid_math_bits_deBruijn32tab), ("math/bits.deBruijn64tab", laid_math_bits_deBruijn64tab), ("quartermaster/pool.costs", laid_quartermaster_pool_costs)], narrowed := true }
def CoreActsUptoSaid : Prop := coreActsUptoRow.holds Tryz.pinned (OpenSpec.upto coreActsSpec)

/-- 'quartermasterlaw16.CoreApart', WHERE WHAT IT READS IS OF BULK AT MOST 1048576: true; the input reads as it did. -/
def coreApartUptoRow : OpenClaim := { program := "ytcnbbenmlffgpaagreatdoor", sum := "52846fff07c0e6df7d10d4d72ce9ca0137357767dcefc0dffae8e442ae5b648b", func := "quartermaster/quartermasterlaw16.CoreApart", spec := "coreApart", inPlace := ["slices.overlaps[quartermaster/slab.page]"], unfollowed := true, recurses := true, named := ["quartermaster/pool.costs", "math/bits.deBruijn32tab", "math/bits.deBruijn64tab"], apart := false, laid := [("math/bits.deBruijn32tab", laid_math_bits_deBruijn32tab), ("math/bits.deBruijn64tab", laid_math_bits_deBruijn64tab), ("quartermaster/pool.costs", laid_quartermaster_pool_costs)], narrowed := true }
def CoreApartUptoSaid : Prop := coreApartUptoRow.holds Tryz.pinned (OpenSpec.upto coreApartSpec)

/-- 'quartermasterlaw16.CoreCharge', WHERE WHAT IT READS IS OF BULK AT MOST 1048576: true; the input reads as it did. -/
def coreChargeUptoRow : OpenClaim := { program := "ytcnbbenmlffgpaagreatdoor", sum := "52846fff07c0e6df7d10d4d72ce9ca0137357767dcefc0dffae8e442ae5b648b", func := "quartermaster/quartermasterlaw16.CoreCharge", spec := "coreCharge", inPlace := ["slices.overlaps[quartermaster/slab.page]"], unfollowed := true, recurses := true, named := ["quartermaster/pool.costs", "math/bits.deBruijn32tab", "math/bits.deBruijn64tab"], apart := false, laid := [("math/bits.deBruijn32tab", laid_math_bits_deBruijn32tab), ("math/bits.deBruijn64tab", laid_math_bits_deBruijn64tab), ("quartermaster/pool.costs", laid_quartermaster_pool_costs)], narrowed := true }
def CoreChargeUptoSaid : Prop := coreChargeUptoRow.holds Tryz.pinned (OpenSpec.upto coreChargeSpec)

/-- 'quartermasterlaw16.CoreBack', WHERE WHAT IT READS IS OF BULK AT MOST 1048576: true; the input reads as it did. -/
def coreBackUptoRow : OpenClaim := { program := "ytcnbbenmlffgpaagreatdoor", sum := "52846fff07c0e6df7d10d4d72ce9ca0137357767dcefc0dffae8e442ae5b648b", func := "quartermaster/quartermasterlaw16.CoreBack", spec := "coreBack", inPlace := ["slices.overlaps[quartermaster/slab.page]"], unfollowed := true, recurses := true, named := ["quartermaster/pool.costs", "math/bits.deBruijn32tab", "math/bits.deBruijn64tab"], apart := false, laid := [("math/bits.deBruijn32tab", laid_math_bits_deBruijn32tab), ("math/bits.deBruijn64tab", laid_math_bits_deBruijn64tab), ("quartermaster/pool.costs", laid_quartermaster_pool_costs)], narrowed := true }
def CoreBackUptoSaid : Prop := coreBackUptoRow.holds Tryz.pinned (OpenSpec.upto coreBackSpec)

/-- 'quartermasterlaw16.CoreFails', WHERE WHAT IT READS IS OF BULK AT MOST 1048576: true; the input reads as it did. -/
def coreFailsUptoRow : OpenClaim := { program := "ytcnbbenmlffgpaagreatdoor", sum := "52846fff07c0e6df7d10d4d72ce9ca0137357767dcefc0dffae8e442ae5b648b", func := "quartermaster/quartermasterlaw16.CoreFails", spec := "coreFails", inPlace := ["slices.overlaps[quartermaster/slab.page]"], unfollowed := true, recurses := true, named := ["quartermaster/pool.costs", "math/bits.deBruijn32tab", "math/bits.deBruijn64tab"], apart := false, laid := [("math/bits.deBruijn32tab", laid_math_bits_deBruijn32tab), ("math/bits.deBruijn64tab", laid_math_bits_deBruijn64tab), ("quartermaster/pool.costs", laid_quartermaster_pool_costs)], narrowed := true }
def CoreFailsUptoSaid : Prop := coreFailsUptoRow.holds Tryz.pinned (OpenSpec.upto coreFailsSpec)

end Rows
end Go.Proofs.YtcnbbenmlffgpaaGreatDoor
