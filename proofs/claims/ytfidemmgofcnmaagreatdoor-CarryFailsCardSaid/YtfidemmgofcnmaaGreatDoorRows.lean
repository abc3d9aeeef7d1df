/-
  NARROWER THAN 'FOR EVERY INPUT', by the rows' own cells (each row's printed sentence says how): PoolFails: laid · SpaceCharge: laid · SpaceFails: laid · CarryPages: laid · CarryApart: laid · CarryTells: laid · CarryGives: laid · CarryFails: laid.
  DERIVED. THE GIVEN ROWS OF THIS SEAT. 8 by the template 'for every input the law returns true; each argument reads behind the call as it read before'; 0 by the template 'total and deterministic' (their statements: YtfidemmgofcnmaaGreatDoorTotals.lean).
  GIVEN WITH THE SEED: the statements are not yours to turn. If you find one false, say at which input.
  Laid BY PROGRAM, IN A SANDBOX (cutbox-rows.mjs): the forced cells as the released guide's own fill.sh prints them over the translation 7859ea471d267e44… (all of the seat's roots in one cut). By AI agents, Wed Nov 11 2026. No macro, syntax, notation, axiom, sorry.
-/
import Derived.Test.YtfidemmgofcnmaaGreatDoorChecked
import GoSem.Claim
import GoSem.ClaimJoined
import GoSem.ClaimMapViews
import Derived.JoinedTies
import Derived.KernelRfl
namespace Go.Proofs.YtfidemmgofcnmaaGreatDoor
/- THE CELL 'sum', in the pinned program and in every row, IS THE sha256 OF THE DUMP (.gsa) THAT YtfidemmgofcnmaaGreatDoorProg.lean LOADS. Nothing in Lean hashes anything: it is a label: what it is worth is what the hold of that sum in a sandbox is worth. -/
noncomputable def Tryz.pinned : Pinned := { name := "ytfidemmgofcnmaagreatdoor", sum := "7859ea471d267e443a9b5467c7e8ce7b7026a3b1373cef903e5a4509fc1d70ff", checked := Tryz.checked }
namespace Rows
def none {H : Type} : Left H := { results := [], args := [] }

/- WHAT THE LISTED PACKAGE-LEVEL VARIABLES READ AS WHEN THE CALL BEGINS. Each datum BY PROGRAM (the guide's laid-datum.mjs) off the statement by which the dump's own 'gosem.cut.vars' lays the variable. In a bare row this is a premise. The card (YtfidemmgofcnmaaGreatDoorCards.lean) ties it to the program's text. -/
def laid_math_bits_deBruijn32tab {H : Type} : DataW H := .agg [.lit (.int .u8 0), .lit (.int .u8 1), .lit (.int .u8 28), .lit (.int .u8 2), .lit (.int .u8 29), .lit (.int .u8 14), .lit (.int .u8 24), .lit (.int .u8 3), .lit (.int .u8 30), .lit (.int .u8 22), .lit (.int .u8 20), .lit (.int .u8 15), .lit (.int .u8 25), .lit (.int .u8 17), .lit (.int .u8 4), .lit (.int .u8 8), .lit (.int .u8 31), .lit (.int .u8 27), .lit (.int .u8 13), .lit (.int .u8 23), .lit (.int .u8 21), .lit (.int .u8 19), .lit (.int .u8 16), .lit (.int .u8 7), .lit (.int .u8 26), .lit (.int .u8 12), .lit (.int .u8 18), .lit (.int .u8 6), .lit (.int .u8 11), .lit (.int .u8 5), .lit (.int .u8 10), .lit (.int .u8 9)]
def laid_math_bits_deBruijn64tab {H : Type} : DataW H := .agg [.lit (.int .u8 0), .lit (.int .u8 1), .lit (.int .u8 56), .lit (.int .u8 2), .lit (.int .u8 57), .lit (.int .u8 49), .lit (.int .u8 28), .lit (.int .u8 3), .lit (.int .u8 61), .lit (.int .u8 58), .lit (.int .u8 42), .lit (.int .u8 50), .lit (.int .u8 38), .lit (.int .u8 29), .lit (.int .u8 17), .lit (.int .u8 4), .lit (.int .u8 62), .lit (.int .u8 47), .lit (.int .u8 59), .lit (.int .u8 36), .lit (.int .u8 45), .lit (.int .u8 43), .lit (.int .u8 51), .lit (.int .u8 22), .lit (.int .u8 53), .lit (.int .u8 39), .lit (.int .u8 33), .lit (.int .u8 30), .lit (.int .u8 24), .lit (.int .u8 18), .lit (.int .u8 12), .lit (.int .u8 5), .lit (.int .u8 63), .lit (.int .u8 55), .lit (.int .u8 48), .lit (.int .u8 27), .lit (.int .u8 60), .lit (.int .u8 41), .lit (.int .u8 37), .lit (.int .u8 16), .lit (.int .u8 46), .lit (.int .u8 35), .lit (.int .u8 44), .lit (.int .u8 21), .lit (.int .u8 52), .lit (.int .u8 32), .lit (.int .u8 23), .lit (.int .u8 11), .lit (.int .u8 54), .lit (.int .u8 26), .lit (.int .u8 40), .lit (.int .u8 15), .lit (.int .u8 34), .lit (.int .u8 20), .lit (.int .u8 31), .lit (.int .u8 10), .lit (.int .u8 25), .lit (.int .u8 14), .lit (.int .u8 19), .lit (.int .u8 9), .lit (.int .u8 13), .lit (.int .u8 8), .lit (.int .u8 7), .lit (.int .u8 6)]
def laid_quartermaster_pool_costs {H : Type} : DataW H := .agg [.lit (.int .i64 0), .lit (.int .i64 64), .lit (.int .i64 128), .lit (.int .i64 256), .lit (.int .i64 32), .lit (.int .i64 32), .lit (.int .i64 48), .lit (.int .i64 256)]

/-- 'quartermasterlaw06.PoolFails': WHATEVER THE INPUT: true; the input reads as it did. -/
def poolFailsSpec : ChangeSpec := { name := "poolFails", fn := fun _ => fun
  | [d1, d2, d3, d4, d5] => { results := [.lit (.bool true)], args := [d1, d2, d3, d4, d5] }
  | _ => none }
def poolFailsRow : OpenClaim := { program := "ytfidemmgofcnmaagreatdoor", sum := "7859ea471d267e443a9b5467c7e8ce7b7026a3b1373cef903e5a4509fc1d70ff", func := "quartermaster/quartermasterlaw06.PoolFails", spec := "poolFails", inPlace := ["slices.overlaps[quartermaster/slab.page]"], unfollowed := true, recurses := true, named := ["quartermaster/pool.costs", "math/bits.deBruijn32tab", "math/bits.deBruijn64tab"], plainKeys := false, apart := false, laid := [("math/bits.deBruijn32tab", laid_math_bits_deBruijn32tab), ("math/bits.deBruijn64tab", laid_math_bits_deBruijn64tab), ("quartermaster/pool.costs", laid_quartermaster_pool_costs)] }
def PoolFailsSaid : Prop := poolFailsRow.holds Tryz.pinned (OpenSpec.ofChange poolFailsSpec)

/-- ITS FALSE NEIGHBOUR: 'it returns false'. Refute it at one input. -/
def poolFailsWrong : ChangeSpec := { name := "poolFails", fn := fun _ => fun
  | [d1, d2, d3, d4, d5] => { results := [.lit (.bool false)], args := [d1, d2, d3, d4, d5] }
  | _ => none }
def PoolFailsWrongFalsely : Prop := poolFailsRow.holds Tryz.pinned (OpenSpec.ofChange poolFailsWrong)

/-- 'quartermasterlaw17.SpaceCharge': WHATEVER THE INPUT: true; the input reads as it did. -/
def spaceChargeSpec : ChangeSpec := { name := "spaceCharge", fn := fun _ => fun
  | [d1, d2] => { results := [.lit (.bool true)], args := [d1, d2] }
  | _ => none }
def spaceChargeRow : OpenClaim := { program := "ytfidemmgofcnmaagreatdoor", sum := "7859ea471d267e443a9b5467c7e8ce7b7026a3b1373cef903e5a4509fc1d70ff", func := "quartermaster/quartermasterlaw17.SpaceCharge", spec := "spaceCharge", inPlace := ["slices.overlaps[quartermaster/slab.page]"], unfollowed := true, recurses := true, named := ["quartermaster/pool.costs", "math/bits.deBruijn32tab", "math/bits.deBruijn64tab"], plainKeys := false, apart := false, laid := [("math/bits.deBruijn32tab", laid_math_bits_deBruijn32tab), ("math/bits.deBruijn64tab", laid_math_bits_deBruijn64tab), ("quartermaster/pool.costs", laid_quartermaster_pool_costs)] }
def SpaceChargeSaid : Prop := spaceChargeRow.holds Tryz.pinned (OpenSpec.ofChange spaceChargeSpec)

/-- ITS FALSE NEIGHBOUR: 'it returns false'. Refute it at one input. -/
def spaceChargeWrong : ChangeSpec := { name := "spaceCharge", fn := fun _ => fun
  | [d1, d2] => { results := [.lit (.bool false)], args := [d1, d2] }
  | _ => none }
def SpaceChargeWrongFalsely : Prop := spaceChargeRow.holds Tryz.pinned (OpenSpec.ofChange spaceChargeWrong)

/-- 'quartermasterlaw17.SpaceFails': WHATEVER THE INPUT: true; the input reads as it did. -/
def spaceFailsSpec : ChangeSpec := { name := "spaceFails", fn := fun _ => fun
  | [d1, d2, d3] => { results := [.lit (.bool true)], args := [d1, d2, d3] }
  | _ => none }
def spaceFailsRow : OpenClaim := { program := "ytfidemmgofcnmaagreatdoor", sum := "7859ea471d267e443a9b5467c7e8ce7b7026a3b1373cef903e5a4509fc1d70ff", func := "quartermaster/quartermasterlaw17.SpaceFails", spec := "spaceFails", inPlace := ["slices.overlaps[quartermaster/slab.page]"], unfollowed := true, recurses := true, named := ["quartermaster/pool.costs", "math/bits.deBruijn32tab", "math/bits.deBruijn64tab"], plainKeys := false, apart := false, laid := [("math/bits.deBruijn32tab", laid_math_bits_deBruijn32tab), ("math/bits.deBruijn64tab", laid_math_bits_deBruijn64tab), ("quartermaster/pool.costs", laid_quartermaster_pool_costs)] }
def SpaceFailsSaid : Prop := spaceFailsRow.holds Tryz.pinned (OpenSpec.ofChange spaceFailsSpec)

/-- ITS FALSE NEIGHBOUR: 'it returns false'. Refute it at one input. -/
def spaceFailsWrong : ChangeSpec := { name := "spaceFails", fn := fun _ => fun
  | [d1, d2, d3] => { results := [.lit (.bool false)], args := [d1, d2, d3] }
  | _ => none }
def SpaceFailsWrongFalsely : Prop := spaceFailsRow.holds Tryz.pinned (OpenSpec.ofChange spaceFailsWrong)

/-- 'quartermasterlaw19.CarryPages': WHATEVER THE INPUT: true; the input reads as it did. -/
def carryPagesSpec : ChangeSpec := { name := "carryPages", fn := fun _ => fun
  | [d1, d2, d3, d4] => { results := [.lit (.bool true)], args := [d1, d2, d3, d4] }
  | _ => none }
def carryPagesRow : OpenClaim := { program := "ytfidemmgofcnmaagreatdoor", sum := "7859ea471d267e443a9b5467c7e8ce7b7026a3b1373cef903e5a4509fc1d70ff", func := "quartermaster/quartermasterlaw19.CarryPages", spec := "carryPages", inPlace := ["slices.overlaps[quartermaster/slab.page]"], unfollowed := true, recurses := true, named := ["quartermaster/pool.costs", "math/bits.deBruijn32tab", "math/bits.deBruijn64tab"], plainKeys := false, apart := false, laid := [("math/bits.deBruijn32tab", laid_math_bits_deBruijn32tab), ("math/bits.deBruijn64tab", laid_math_bits_deBruijn64tab), ("quartermaster/pool.costs", laid_quartermaster_pool_costs)] }
def CarryPagesSaid : Prop := carryPagesRow.holds Tryz.pinned (OpenSpec.ofChange carryPagesSpec)

/-- ITS FALSE NEIGHBOUR: 'it returns false'. Refute it at one input. -/
def carryPagesWrong : ChangeSpec := { name := "carryPages", fn := fun _ => fun
  | [d1, d2, d3, d4] => { results := [.lit (.bool false)], args := [d1, d2, d3, d4] }
  | _ => none }
def CarryPagesWrongFalsely : Prop := carryPagesRow.holds Tryz.pinned (OpenSpec.ofChange carryPagesWrong)

/-- 'quartermasterlaw19.CarryApart': WHATEVER THE INPUT: true; the input reads as it did. -/
def carryApartSpec : ChangeSpec := { name := "carryApart", fn := fun _ => fun
  | [d1, d2, d3] => { results := [.lit (.bool true)], args := [d1, d2, d3] }
  | _ => none }
def carryApartRow : OpenClaim := { program := "ytfidemmgofcnmaagreatdoor", sum := "7859ea471d267e443a9b5467c7e8ce7b7026a3b1373cef903e5a4509fc1d70ff", func := "quartermaster/quartermasterlaw19.CarryApart", spec := "carryApart", inPlace := ["slices.overlaps[quartermaster/slab.page]"], unfollowed := true, recurses := true, named := ["quartermaster/pool.costs", "math/bits.deBruijn32tab", "math/bits.deBruijn64tab"], plainKeys := false, apart := false, laid := [("math/bits.deBruijn32tab", laid_math_bits_deBruijn32tab), ("math/bits.deBruijn64tab", laid_math_bits_deBruijn64tab), ("quartermaster/pool.costs", laid_quartermaster_pool_costs)] }
def CarryApartSaid : Prop := carryApartRow.holds Tryz.pinned (OpenSpec.ofChange carryApartSpec)

/-- ITS FALSE NEIGHBOUR: 'it returns false'. Refute it at one input. -/
def carryApartWrong : ChangeSpec := { name := "carryApart", fn := fun _ => fun
  | [d1, d2, d3] => { results := [.lit (.bool false)], args := [d1, d2, d3] }
  | _ => none }
def CarryApartWrongFalsely : Prop := carryApartRow.holds Tryz.pinned (OpenSpec.ofChange carryApartWrong)

/-- 'quartermasterlaw19.CarryTells': WHATEVER THE INPUT: true; the input reads as it did. -/
def carryTellsSpec : ChangeSpec := { name := "carryTells", fn := fun _ => fun
  | [d1, d2, d3, d4] => { results := [.lit (.bool true)], args := [d1, d2, d3, d4] }
  | _ => none }
def carryTellsRow : OpenClaim := { program := "ytfidemmgofcnmaagreatdoor", sum := "7859ea471d267e443a9b5467c7e8ce7b7026a3b1373cef903e5a4509fc1d70ff", func := "quartermaster/quartermasterlaw19.CarryTells", spec := "carryTells", inPlace := ["slices.overlaps[quartermaster/slab.page]"], unfollowed := true, recurses := true, named := ["quartermaster/pool.costs", "math/bits.deBruijn32tab", "math/bits.deBruijn64tab"], plainKeys := false, apart := false, laid := [("math/bits.deBruijn32tab", laid_math_bits_deBruijn32tab), ("math/bits.deBruijn64tab", laid_math_bits_deBruijn64tab), ("quartermaster/pool.costs", laid_quartermaster_pool_costs)] }
def CarryTellsSaid : Prop := carryTellsRow.holds Tryz.pinned (OpenSpec.ofChange carryTellsSpec)

/-- ITS FALSE NEIGHBOUR: 'it returns false'. Refute it at one input. -/
def carryTellsWrong : ChangeSpec := { name := "carryTells", fn := fun _ => fun
  | [d1, d2, d3, d4] => { results := [.lit (.bool false)], args := [d1, d2, d3, d4] }
  | _ => none }
def CarryTellsWrongFalsely : Prop := carryTellsRow.holds Tryz.pinned (OpenSpec.ofChange carryTellsWrong)

/-- 'quartermasterlaw19.CarryGives': WHATEVER THE INPUT: true; the input reads as it did. -/
def carryGivesSpec : ChangeSpec := { name := "carryGives", fn := fun _ => fun
  | [d1, d2, d3] => { results := [.lit (.bool true)], args := [d1, d2, d3] }
  | _ => none }
def carryGivesRow : OpenClaim := { program := "ytfidemmgofcnmaagreatdoor", sum := "7859ea471d267e443a9b5467c7e8ce7b7026a3b1373cef903e5a4509fc1d70ff", func := "quartermaster/quartermasterlaw19.CarryGives", spec := "carryGives", inPlace := ["slices.overlaps[quartermaster/slab.page]"], unfollowed := true, recurses := true, named := ["quartermaster/pool.costs", "math/bits.deBruijn32tab", "math/bits.deBruijn64tab"], plainKeys := false, apart := false, laid := [("math/bits.deBruijn32tab", laid_math_bits_deBruijn32tab), ("math/bits.deBruijn64tab", laid_math_bits_deBruijn64tab), ("quartermaster/pool.costs", laid_quartermaster_pool_costs)] }
def CarryGivesSaid : Prop := carryGivesRow.holds Tryz.pinned (OpenSpec.ofChange carryGivesSpec)

/-- ITS FALSE NEIGHBOUR: 'it returns false'. Refute it at one input. -/
def carryGivesWrong : ChangeSpec := { name := "carryGives", fn := fun _ => fun
  | [d1, d2, d3] => { results := [.lit (.bool false)], args := [d1, d2, d3] }
  | _ => none }
def CarryGivesWrongFalsely : Prop := carryGivesRow.holds Tryz.pinned (OpenSpec.ofChange carryGivesWrong)

/-- 'quartermasterlaw19.CarryFails': WHATEVER THE INPUT: true; the input reads as it did. -/
def carryFailsSpec : ChangeSpec := { name := "carryFails", fn := fun _ => fun
  | [d1, d2] => { results := [.lit (.bool true)], args := [d1, d2] }
  | _ => none }
def carryFailsRow : OpenClaim := { program := "ytfidemmgofcnmaagreatdoor", sum := "7859ea471d267e443a9b5467c7e8ce7b7026a3b1373cef903e5a4509fc1d70ff", func := "quartermaster/quartermasterlaw19.CarryFails", spec := "carryFails", inPlace := ["slices.overlaps[quartermaster/slab.page]"], unfollowed := true, recurses := true, named := ["quartermaster/pool.costs", "math/bits.deBruijn32tab", "math/bits.deBruijn64tab"], plainKeys := false, apart := false, laid := [("math/bits.deBruijn32tab", laid_math_bits_deBruijn32tab), ("math/bits.deBruijn64tab", laid_math_bits_deBruijn64tab), ("quartermaster/pool.costs", laid_quartermaster_pool_costs)] }
def CarryFailsSaid : Prop := carryFailsRow.holds Tryz.pinned (OpenSpec.ofChange carryFailsSpec)

/-- ITS FALSE NEIGHBOUR: 'it returns false'. Refute it at one input. -/
def carryFailsWrong : ChangeSpec := { name := "carryFails", fn := fun _ => fun
  | [d1, d2] => { results := [.lit (.bool false)], args := [d1, d2] }
  | _ => none }
def CarryFailsWrongFalsely : Prop := carryFailsRow.holds Tryz.pinned (OpenSpec.ofChange carryFailsWrong)

/- THE SECOND FORM. 'bulk': how many values and letters a reading holds, each counted each time it is reached (what is shared counts as often as it is met; a slice's spare places count too). A statement '..UptoSaid' is the law's where the arguments, and the package variables that the reading takes, are together of bulk at most 1048576: NARROWER than '..Said'. Prove '..Said' where nothing that the law and all that it calls make is longer than what came in: it says more and counts as full. Else prove '..UptoSaid'. A law counts once. -/
mutual
def uptoBulk {H : Type} : DataW H → Nat
  | .lit (.string bytes) => bytes.length + 1
  | .lit _ => 1
  | .nil => 1
  | .ptr d => uptoBulk d + 1
  | .slice elems spare => uptoBulkAll elems + uptoBulkAll spare + 1
  | .agg parts => uptoBulkAll parts + 1
  | .iface _ d => uptoBulk d + 1
  | .map entries => uptoBulkEntries entries + 1
  | .held _ => 1
def uptoBulkAll {H : Type} : List (DataW H) → Nat
  | [] => 0
  | d :: r => uptoBulk d + uptoBulkAll r
def uptoBulkEntries {H : Type} : List (Lit × DataW H) → Nat
  | [] => 0
  | x :: r => uptoBulkEntry x + uptoBulkEntries r
def uptoBulkEntry {H : Type} : Lit × DataW H → Nat
  | (.string bytes, d) => bytes.length + uptoBulk d + 1
  | (_, d) => uptoBulk d + 1
 end
def uptoSmall : (H : Type) → List (DataW H) → Bool := fun _ ds => decide (uptoBulkAll ds ≤ 1048576)
def OpenSpec.upto (s : _root_.Go.ChangeSpec) : _root_.Go.OpenSpec := { _root_.Go.OpenSpec.ofChange s with cond := some uptoSmall }

/-- 'quartermasterlaw06.PoolFails', WHERE WHAT IT READS IS OF BULK AT MOST 1048576: true; the input reads as it did. -/
def poolFailsUptoRow : OpenClaim := { program := "ytfidemmgofcnmaagreatdoor", sum := "7859ea471d267e443a9b5467c7e8ce7b7026a3b1373cef903e5a4509fc1d70ff", func := "quartermaster/quartermasterlaw06.PoolFails", spec := "poolFails", inPlace := ["slices.overlaps[quartermaster/slab.page]"], unfollowed := true, recurses := true, named := ["quartermaster/pool.costs", "math/bits.deBruijn32tab", "math/bits.deBruijn64tab"], plainKeys := false, apart := false, laid := [("math/bits.deBruijn32tab", laid_math_bits_deBruijn32tab), ("math/bits.deBruijn64tab", laid_math_bits_deBruijn64tab), ("quartermaster/pool.costs", laid_quartermaster_pool_costs)], narrowed := true }
def PoolFailsUptoSaid : Prop := poolFailsUptoRow.holds Tryz.pinned (OpenSpec.upto poolFailsSpec)

/-- 'quartermasterlaw17.SpaceCharge', WHERE WHAT IT READS IS OF BULK AT MOST 1048576: true; the input reads as it did. -/
def spaceChargeUptoRow : OpenClaim := { program := "ytfidemmgofcnmaagreatdoor", sum := "7859ea471d267e443a9b5467c7e8ce7b7026a3b1373cef903e5a4509fc1d70ff", func := "quartermaster/quartermasterlaw17.SpaceCharge", spec := "spaceCharge", inPlace := ["slices.overlaps[quartermaster/slab.page]"], unfollowed := true, recurses := true, named := ["quartermaster/pool.costs", "math/bits.deBruijn32tab", "math/bits.deBruijn64tab"], plainKeys := false, apart := false, laid := [("math/bits.deBruijn32tab", laid_math_bits_deBruijn32tab), ("math/bits.deBruijn64tab", laid_math_bits_deBruijn64tab), ("quartermaster/pool.costs", laid_quartermaster_pool_costs)], narrowed := true }
def SpaceChargeUptoSaid : Prop := spaceChargeUptoRow.holds Tryz.pinned (OpenSpec.upto spaceChargeSpec)

/-- 'quartermasterlaw17.SpaceFails', WHERE WHAT IT READS IS OF BULK AT MOST 1048576: true; the input reads as it did. -/
def spaceFailsUptoRow : OpenClaim := { program := "ytfidemmgofcnmaagreatdoor", sum := "7859ea471d267e443a9b5467c7e8ce7b7026a3b1373cef903e5a4509fc1d70ff", func := "quartermaster/quartermasterlaw17.SpaceFails", spec := "spaceFails", inPlace := ["slices.overlaps[quartermaster/slab.page]"], unfollowed := true, recurses := true, named := ["quartermaster/pool.costs", "math/bits.deBruijn32tab", "math/bits.deBruijn64tab"], plainKeys := false, apart := false, laid := [("math/bits.deBruijn32tab", laid_math_bits_deBruijn32tab), ("math/bits.deBruijn64tab", laid_math_bits_deBruijn64tab), ("quartermaster/pool.costs", laid_quartermaster_pool_costs)], narrowed := true }
def SpaceFailsUptoSaid : Prop := spaceFailsUptoRow.holds Tryz.pinned (OpenSpec.upto spaceFailsSpec)

/-- 'quartermasterlaw19.CarryPages', WHERE WHAT IT READS IS OF BULK AT MOST 1048576: true; the input reads as it did. -/
def carryPagesUptoRow : OpenClaim := { program := "ytfidemmgofcnmaagreatdoor", sum := "7859ea471d267e443a9b5467c7e8ce7b7026a3b1373cef903e5a4509fc1d70ff", func := "quartermaster/quartermasterlaw19.CarryPages", spec := "carryPages", inPlace := ["slices.overlaps[quartermaster/slab.page]"], unfollowed := true, recurses := true, named := ["quartermaster/pool.costs", "math/bits.deBruijn32tab", "math/bits.deBruijn64tab"], plainKeys := false, apart := false, laid := [("math/bits.deBruijn32tab", laid_math_bits_deBruijn32tab), ("math/bits.deBruijn64tab", laid_math_bits_deBruijn64tab), ("quartermaster/pool.costs", laid_quartermaster_pool_costs)], narrowed := true }
def CarryPagesUptoSaid : Prop := carryPagesUptoRow.holds Tryz.pinned (OpenSpec.upto carryPagesSpec)

/-- 'quartermasterlaw19.CarryApart', WHERE WHAT IT READS IS OF BULK AT MOST 1048576: true; the input reads as it did. -/
def carryApartUptoRow : OpenClaim := { program := "ytfidemmgofcnmaagreatdoor", sum := "7859ea471d267e443a9b5467c7e8ce7b7026a3b1373cef903e5a4509fc1d70ff", func := "quartermaster/quartermasterlaw19.CarryApart", spec := "carryApart", inPlace := ["slices.overlaps[quartermaster/slab.page]"], unfollowed := true, recurses := true, named := ["quartermaster/pool.costs", "math/bits.deBruijn32tab", "math/bits.deBruijn64tab"], plainKeys := false, apart := false, laid := [("math/bits.deBruijn32tab", laid_math_bits_deBruijn32tab), ("math/bits.deBruijn64tab", laid_math_bits_deBruijn64tab), ("quartermaster/pool.costs", laid_quartermaster_pool_costs)], narrowed := true }
def CarryApartUptoSaid : Prop := carryApartUptoRow.holds Tryz.pinned (OpenSpec.upto carryApartSpec)

/-- 'quartermasterlaw19.CarryTells', WHERE WHAT IT READS IS OF BULK AT MOST 1048576: true; the input reads as it did. -/
def carryTellsUptoRow : OpenClaim := { program := "ytfidemmgofcnmaagreatdoor", sum := "7859ea471d267e443a9b5467c7e8ce7b7026a3b1373cef903e5a4509fc1d70ff", func := "quartermaster/quartermasterlaw19.CarryTells", spec := "carryTells", inPlace := ["slices.overlaps[quartermaster/slab.page]"], unfollowed := true, recurses := true, named := ["quartermaster/pool.costs", "math/bits.deBruijn32tab", "math/bits.deBruijn64tab"], plainKeys := false, apart := false, laid := [("math/bits.deBruijn32tab", laid_math_bits_deBruijn32tab), ("math/bits.deBruijn64tab", laid_math_bits_deBruijn64tab), ("quartermaster/pool.costs", laid_quartermaster_pool_costs)], narrowed := true }
def CarryTellsUptoSaid : Prop := carryTellsUptoRow.holds Tryz.pinned (OpenSpec.upto carryTellsSpec)

/-- 'quartermasterlaw19.CarryGives', WHERE WHAT IT READS IS OF BULK AT MOST 1048576: true; the input reads as it did. -/
def carryGivesUptoRow : OpenClaim := { program := "ytfidemmgofcnmaagreatdoor", sum := "7859ea471d267e443a9b5467c7e8ce7b7026a3b1373cef903e5a4509fc1d70ff", func := "quartermaster/quartermasterlaw19.CarryGives", spec := "carryGives", inPlace := ["slices.overlaps[quartermaster/slab.page]"], unfollowed := true, recurses := true, named := ["quartermaster/pool.costs", "math/bits.deBruijn32tab", "math/bits.deBruijn64tab"], plainKeys := false, apart := false, laid := [("math/bits.deBruijn32tab", laid_math_bits_deBruijn32tab), ("math/bits.deBruijn64tab", laid_math_bits_deBruijn64tab), ("quartermaster/pool.costs", laid_quartermaster_pool_costs)], narrowed := true }
def CarryGivesUptoSaid : Prop := carryGivesUptoRow.holds Tryz.pinned (OpenSpec.upto carryGivesSpec)

/-- 'quartermasterlaw19.CarryFails', WHERE WHAT IT READS IS OF BULK AT MOST 1048576: true; the input reads as it did. -/
def carryFailsUptoRow : OpenClaim := { program := "ytfidemmgofcnmaagreatdoor", sum := "7859ea471d267e443a9b5467c7e8ce7b7026a3b1373cef903e5a4509fc1d70ff", func := "quartermaster/quartermasterlaw19.CarryFails", spec := "carryFails", inPlace := ["slices.overlaps[quartermaster/slab.page]"], unfollowed := true, recurses := true, named := ["quartermaster/pool.costs", "math/bits.deBruijn32tab", "math/bits.deBruijn64tab"], plainKeys := false, apart := false, laid := [("math/bits.deBruijn32tab", laid_math_bits_deBruijn32tab), ("math/bits.deBruijn64tab", laid_math_bits_deBruijn64tab), ("quartermaster/pool.costs", laid_quartermaster_pool_costs)], narrowed := true }
def CarryFailsUptoSaid : Prop := carryFailsUptoRow.holds Tryz.pinned (OpenSpec.upto carryFailsSpec)

end Rows
end Go.Proofs.YtfidemmgofcnmaaGreatDoor
