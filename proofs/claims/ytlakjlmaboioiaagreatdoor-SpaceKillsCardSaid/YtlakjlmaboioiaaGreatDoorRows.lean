/-
  NARROWER THAN 'FOR EVERY INPUT', by the rows' own cells (each row's printed sentence says how): SpaceChain: laid · SpaceGrants: laid · SpaceItems: laid · SpaceRights: laid · SpaceMoves: laid · SpaceRevokes: laid · SpaceKills: laid · SpaceActs: laid · SpaceBack: laid · SpaceCharge: laid · SpaceFails: laid.
  DERIVED. THE GIVEN ROWS OF THIS SEAT. 11 by the template 'for every input the law returns true; each argument reads behind the call as it read before'; 0 by the template 'total and deterministic' (their statements: YtlakjlmaboioiaaGreatDoorTotals.lean).
  GIVEN WITH THE SEED: the statements are not yours to turn. If you find one false, say at which input.
  Laid BY PROGRAM, IN A SANDBOX (cutbox-rows.mjs): the forced cells as the released guide's own fill.sh prints them over the translation 9552d4565bacadc5… (all of the seat's roots in one cut). By AI agents, Wed Nov 11 2026. No macro, syntax, notation, axiom, sorry.
-/
import Derived.Test.YtlakjlmaboioiaaGreatDoorChecked
import GoSem.Claim
import GoSem.ClaimJoined
import GoSem.ClaimMapViews
import Derived.JoinedTies
import Derived.KernelRfl
namespace Go.Proofs.YtlakjlmaboioiaaGreatDoor
/- THE CELL 'sum', in the pinned program and in every row, IS THE sha256 OF THE DUMP (.gsa) THAT YtlakjlmaboioiaaGreatDoorProg.lean LOADS. Nothing in Lean hashes anything: it is a label: what it is worth is what the hold of that sum in a sandbox is worth. -/
noncomputable def Tryz.pinned : Pinned := { name := "ytlakjlmaboioiaagreatdoor", sum := "9552d4565bacadc55dfe84b89bd55c1e811a1caa6363c6f340eccd3feee99829", checked := Tryz.checked }
namespace Rows
def none {H : Type} : Left H := { results := [], args := [] }

/- WHAT THE LISTED PACKAGE-LEVEL VARIABLES READ AS WHEN THE CALL BEGINS. Each datum BY PROGRAM (the guide's laid-datum.mjs) off the statement by which the dump's own 'gosem.cut.vars' lays the variable. In a bare row this is a premise. The card (YtlakjlmaboioiaaGreatDoorCards.lean) ties it to the program's text. -/
def laid_math_bits_deBruijn32tab {H : Type} : DataW H := .agg [.lit (.int .u8 0), .lit (.int .u8 1), .lit (.int .u8 28), .lit (.int .u8 2), .lit (.int .u8 29), .lit (.int .u8 14), .lit (.int .u8 24), .lit (.int .u8 3), .lit (.int .u8 30), .lit (.int .u8 22), .lit (.int .u8 20), .lit (.int .u8 15), .lit (.int .u8 25), .lit (.int .u8 17), .lit (.int .u8 4), .lit (.int .u8 8), .lit (.int .u8 31), .lit (.int .u8 27), .lit (.int .u8 13), .lit (.int .u8 23), .lit (.int .u8 21), .lit (.int .u8 19), .lit (.int .u8 16), .lit (.int .u8 7), .lit (.int .u8 26), .lit (.int .u8 12), .lit (.int .u8 18), .lit (.int .u8 6), .lit (.int .u8 11), .lit (.int .u8 5), .lit (.int .u8 10), .lit (.int .u8 9)]
def laid_math_bits_deBruijn64tab {H : Type} : DataW H := .agg [.lit (.int .u8 0), .lit (.int .u8 1), .lit (.int .u8 56), .lit (.int .u8 2), .lit (.int .u8 57), .lit (.int .u8 49), .lit (.int .u8 28), .lit (.int .u8 3), .lit (.int .u8 61), .lit (.int .u8 58), .lit (.int .u8 42), .lit (.int .u8 50), .lit (.int .u8 38), .lit (.int .u8 29), .lit (.int .u8 17), .lit (.int .u8 4), .lit (.int .u8 62), .lit (.int .u8 47), .lit (.int .u8 59), .lit (.int .u8 36), .lit (.int .u8 45), .lit (.int .u8 43), .lit (.int .u8 51), .lit (.int .u8 22), .lit (.int .u8 53), .lit (.int .u8 39), .lit (.int .u8 33), .lit (.int .u8 30), .lit (.int .u8 24), .lit (.int .u8 18), .lit (.int .u8 12), .lit (.int .u8 5), .lit (.int .u8 63), .lit (.int .u8 55), .lit (.int .u8 48), .lit (.int .u8 27), .lit (.int .u8 60), .lit (.int .u8 41), .lit (.int .u8 37), .lit (.int .u8 16), .lit (.int .u8 46), .lit (.int .u8 35), .lit (.int .u8 44), .lit (.int .u8 21), .lit (.int .u8 52), .lit (.int .u8 32), .lit (.int .u8 23), .lit (.int .u8 11), .lit (.int .u8 54), .lit (.int .u8 26), .lit (.int .u8 40), .lit (.int .u8 15), .lit (.int .u8 34), .lit (.int .u8 20), .lit (.int .u8 31), .lit (.int .u8 10), .lit (.int .u8 25), .lit (.int .u8 14), .lit (.int .u8 19), .lit (.int .u8 9), .lit (.int .u8 13), .lit (.int .u8 8), .lit (.int .u8 7), .lit (.int .u8 6)]
def laid_quartermaster_pool_costs {H : Type} : DataW H := .agg [.lit (.int .i64 0), .lit (.int .i64 64), .lit (.int .i64 128), .lit (.int .i64 256), .lit (.int .i64 32), .lit (.int .i64 32), .lit (.int .i64 48), .lit (.int .i64 256)]

/-- 'quartermasterlaw17.SpaceChain': WHATEVER THE INPUT: true; the input reads as it did. -/
def spaceChainSpec : ChangeSpec := { name := "spaceChain", fn := fun _ => fun
  | [d1, d2, d3] => { results := [.lit (.bool true)], args := [d1, d2, d3] }
  | _ => none }
def spaceChainRow : OpenClaim := { program := "ytlakjlmaboioiaagreatdoor", sum := "9552d4565bacadc55dfe84b89bd55c1e811a1caa6363c6f340eccd3feee99829", func := "quartermaster/quartermasterlaw17.SpaceChain", spec := "spaceChain", inPlace := ["slices.overlaps[quartermaster/slab.page]"], unfollowed := true, recurses := true, named := ["quartermaster/pool.costs", "math/bits.deBruijn32tab", "math/bits.deBruijn64tab"], plainKeys := false, apart := false, laid := [("math/bits.deBruijn32tab", laid_math_bits_deBruijn32tab), ("math/bits.deBruijn64tab", laid_math_bits_deBruijn64tab), ("quartermaster/pool.costs", laid_quartermaster_pool_costs)] }
def SpaceChainSaid : Prop := spaceChainRow.holds Tryz.pinned (OpenSpec.ofChange spaceChainSpec)

/-- ITS FALSE NEIGHBOUR: 'it returns false'. Refute it at one input. -/
def spaceChainWrong : ChangeSpec := { name := "spaceChain", fn := fun _ => fun
  | [d1, d2, d3] => { results := [.lit (.bool false)], args := [d1, d2, d3] }
  | _ => none }
def SpaceChainWrongFalsely : Prop := spaceChainRow.holds Tryz.pinned (OpenSpec.ofChange spaceChainWrong)

/-- 'quartermasterlaw17.SpaceGrants': WHATEVER THE INPUT: true; the input reads as it did. -/
def spaceGrantsSpec : ChangeSpec := { name := "spaceGrants", fn := fun _ => fun
  | [d1, d2, d3] => { results := [.lit (.bool true)], args := [d1, d2, d3] }
  | _ => none }
def spaceGrantsRow : OpenClaim := { program := "ytlakjlmaboioiaagreatdoor", sum := "9552d4565bacadc55dfe84b89bd55c1e811a1caa6363c6f340eccd3feee99829", func := "quartermaster/quartermasterlaw17.SpaceGrants", spec := "spaceGrants", inPlace := ["slices.overlaps[quartermaster/slab.page]"], unfollowed := true, recurses := true, named := ["quartermaster/pool.costs", "math/bits.deBruijn32tab", "math/bits.deBruijn64tab"], plainKeys := false, apart := false, laid := [("math/bits.deBruijn32tab", laid_math_bits_deBruijn32tab), ("math/bits.deBruijn64tab", laid_math_bits_deBruijn64tab), ("quartermaster/pool.costs", laid_quartermaster_pool_costs)] }
def SpaceGrantsSaid : Prop := spaceGrantsRow.holds Tryz.pinned (OpenSpec.ofChange spaceGrantsSpec)

/-- ITS FALSE NEIGHBOUR: 'it returns false'. Refute it at one input. -/
def spaceGrantsWrong : ChangeSpec := { name := "spaceGrants", fn := fun _ => fun
  | [d1, d2, d3] => { results := [.lit (.bool false)], args := [d1, d2, d3] }
  | _ => none }
def SpaceGrantsWrongFalsely : Prop := spaceGrantsRow.holds Tryz.pinned (OpenSpec.ofChange spaceGrantsWrong)

/-- 'quartermasterlaw17.SpaceItems': WHATEVER THE INPUT: true; the input reads as it did. -/
def spaceItemsSpec : ChangeSpec := { name := "spaceItems", fn := fun _ => fun
  | [d1, d2, d3] => { results := [.lit (.bool true)], args := [d1, d2, d3] }
  | _ => none }
def spaceItemsRow : OpenClaim := { program := "ytlakjlmaboioiaagreatdoor", sum := "9552d4565bacadc55dfe84b89bd55c1e811a1caa6363c6f340eccd3feee99829", func := "quartermaster/quartermasterlaw17.SpaceItems", spec := "spaceItems", inPlace := ["slices.overlaps[quartermaster/slab.page]"], unfollowed := true, recurses := true, named := ["quartermaster/pool.costs", "math/bits.deBruijn32tab", "math/bits.deBruijn64tab"], plainKeys := false, apart := false, laid := [("math/bits.deBruijn32tab", laid_math_bits_deBruijn32tab), ("math/bits.deBruijn64tab", laid_math_bits_deBruijn64tab), ("quartermaster/pool.costs", laid_quartermaster_pool_costs)] }
def SpaceItemsSaid : Prop := spaceItemsRow.holds Tryz.pinned (OpenSpec.ofChange spaceItemsSpec)

/-- ITS FALSE NEIGHBOUR: 'it returns false'. Refute it at one input. -/
def spaceItemsWrong : ChangeSpec := { name := "spaceItems", fn := fun _ => fun
  | [d1, d2, d3] => { results := [.lit (.bool false)], args := [d1, d2, d3] }
  | _ => none }
def SpaceItemsWrongFalsely : Prop := spaceItemsRow.holds Tryz.pinned (OpenSpec.ofChange spaceItemsWrong)

/-- 'quartermasterlaw17.SpaceRights': WHATEVER THE INPUT: true; the input reads as it did. -/
def spaceRightsSpec : ChangeSpec := { name := "spaceRights", fn := fun _ => fun
  | [d1, d2] => { results := [.lit (.bool true)], args := [d1, d2] }
  | _ => none }
def spaceRightsRow : OpenClaim := { program := "ytlakjlmaboioiaagreatdoor", sum := "9552d4565bacadc55dfe84b89bd55c1e811a1caa6363c6f340eccd3feee99829", func := "quartermaster/quartermasterlaw17.SpaceRights", spec := "spaceRights", inPlace := ["slices.overlaps[quartermaster/slab.page]"], unfollowed := true, recurses := true, named := ["quartermaster/pool.costs", "math/bits.deBruijn32tab", "math/bits.deBruijn64tab"], plainKeys := false, apart := false, laid := [("math/bits.deBruijn32tab", laid_math_bits_deBruijn32tab), ("math/bits.deBruijn64tab", laid_math_bits_deBruijn64tab), ("quartermaster/pool.costs", laid_quartermaster_pool_costs)] }
def SpaceRightsSaid : Prop := spaceRightsRow.holds Tryz.pinned (OpenSpec.ofChange spaceRightsSpec)

/-- ITS FALSE NEIGHBOUR: 'it returns false'. Refute it at one input. -/
def spaceRightsWrong : ChangeSpec := { name := "spaceRights", fn := fun _ => fun
  | [d1, d2] => { results := [.lit (.bool false)], args := [d1, d2] }
  | _ => none }
def SpaceRightsWrongFalsely : Prop := spaceRightsRow.holds Tryz.pinned (OpenSpec.ofChange spaceRightsWrong)

/-- 'quartermasterlaw17.SpaceMoves': WHATEVER THE INPUT: true; the input reads as it did. -/
def spaceMovesSpec : ChangeSpec := { name := "spaceMoves", fn := fun _ => fun
  | [d1, d2, d3, d4, d5] => { results := [.lit (.bool true)], args := [d1, d2, d3, d4, d5] }
  | _ => none }
def spaceMovesRow : OpenClaim := { program := "ytlakjlmaboioiaagreatdoor", sum := "9552d4565bacadc55dfe84b89bd55c1e811a1caa6363c6f340eccd3feee99829", func := "quartermaster/quartermasterlaw17.SpaceMoves", spec := "spaceMoves", inPlace := ["slices.overlaps[quartermaster/slab.page]"], unfollowed := true, recurses := true, named := ["quartermaster/pool.costs", "math/bits.deBruijn32tab", "math/bits.deBruijn64tab"], plainKeys := false, apart := false, laid := [("math/bits.deBruijn32tab", laid_math_bits_deBruijn32tab), ("math/bits.deBruijn64tab", laid_math_bits_deBruijn64tab), ("quartermaster/pool.costs", laid_quartermaster_pool_costs)] }
def SpaceMovesSaid : Prop := spaceMovesRow.holds Tryz.pinned (OpenSpec.ofChange spaceMovesSpec)

/-- ITS FALSE NEIGHBOUR: 'it returns false'. Refute it at one input. -/
def spaceMovesWrong : ChangeSpec := { name := "spaceMoves", fn := fun _ => fun
  | [d1, d2, d3, d4, d5] => { results := [.lit (.bool false)], args := [d1, d2, d3, d4, d5] }
  | _ => none }
def SpaceMovesWrongFalsely : Prop := spaceMovesRow.holds Tryz.pinned (OpenSpec.ofChange spaceMovesWrong)

/-- 'quartermasterlaw17.SpaceRevokes': WHATEVER THE INPUT: true; the input reads as it did. -/
def spaceRevokesSpec : ChangeSpec := { name := "spaceRevokes", fn := fun _ => fun
  | [d1, d2, d3, d4, d5] => { results := [.lit (.bool true)], args := [d1, d2, d3, d4, d5] }
  | _ => none }
def spaceRevokesRow : OpenClaim := { program := "ytlakjlmaboioiaagreatdoor", sum := "9552d4565bacadc55dfe84b89bd55c1e811a1caa6363c6f340eccd3feee99829", func := "quartermaster/quartermasterlaw17.SpaceRevokes", spec := "spaceRevokes", inPlace := ["slices.overlaps[quartermaster/slab.page]"], unfollowed := true, recurses := true, named := ["quartermaster/pool.costs", "math/bits.deBruijn32tab", "math/bits.deBruijn64tab"], plainKeys := false, apart := false, laid := [("math/bits.deBruijn32tab", laid_math_bits_deBruijn32tab), ("math/bits.deBruijn64tab", laid_math_bits_deBruijn64tab), ("quartermaster/pool.costs", laid_quartermaster_pool_costs)] }
def SpaceRevokesSaid : Prop := spaceRevokesRow.holds Tryz.pinned (OpenSpec.ofChange spaceRevokesSpec)

/-- ITS FALSE NEIGHBOUR: 'it returns false'. Refute it at one input. -/
def spaceRevokesWrong : ChangeSpec := { name := "spaceRevokes", fn := fun _ => fun
  | [d1, d2, d3, d4, d5] => { results := [.lit (.bool false)], args := [d1, d2, d3, d4, d5] }
  | _ => none }
def SpaceRevokesWrongFalsely : Prop := spaceRevokesRow.holds Tryz.pinned (OpenSpec.ofChange spaceRevokesWrong)

/-- 'quartermasterlaw17.SpaceKills': WHATEVER THE INPUT: true; the input reads as it did. -/
def spaceKillsSpec : ChangeSpec := { name := "spaceKills", fn := fun _ => fun
  | [d1, d2, d3] => { results := [.lit (.bool true)], args := [d1, d2, d3] }
  | _ => none }
def spaceKillsRow : OpenClaim := { program := "ytlakjlmaboioiaagreatdoor", sum := "9552d4565bacadc55dfe84b89bd55c1e811a1caa6363c6f340eccd3feee99829", func := "quartermaster/quartermasterlaw17.SpaceKills", spec := "spaceKills", inPlace := ["slices.overlaps[quartermaster/slab.page]"], unfollowed := true, recurses := true, named := ["quartermaster/pool.costs", "math/bits.deBruijn32tab", "math/bits.deBruijn64tab"], plainKeys := false, apart := false, laid := [("math/bits.deBruijn32tab", laid_math_bits_deBruijn32tab), ("math/bits.deBruijn64tab", laid_math_bits_deBruijn64tab), ("quartermaster/pool.costs", laid_quartermaster_pool_costs)] }
def SpaceKillsSaid : Prop := spaceKillsRow.holds Tryz.pinned (OpenSpec.ofChange spaceKillsSpec)

/-- ITS FALSE NEIGHBOUR: 'it returns false'. Refute it at one input. -/
def spaceKillsWrong : ChangeSpec := { name := "spaceKills", fn := fun _ => fun
  | [d1, d2, d3] => { results := [.lit (.bool false)], args := [d1, d2, d3] }
  | _ => none }
def SpaceKillsWrongFalsely : Prop := spaceKillsRow.holds Tryz.pinned (OpenSpec.ofChange spaceKillsWrong)

/-- 'quartermasterlaw17.SpaceActs': WHATEVER THE INPUT: true; the input reads as it did. -/
def spaceActsSpec : ChangeSpec := { name := "spaceActs", fn := fun _ => fun
  | [d1, d2] => { results := [.lit (.bool true)], args := [d1, d2] }
  | _ => none }
def spaceActsRow : OpenClaim := { program := "ytlakjlmaboioiaagreatdoor", sum := "9552d4565bacadc55dfe84b89bd55c1e811a1caa6363c6f340eccd3feee99829", func := "quartermaster/quartermasterlaw17.SpaceActs", spec := "spaceActs", inPlace := ["slices.overlaps[quartermaster/slab.page]"], unfollowed := true, recurses := true, named := ["quartermaster/pool.costs", "math/bits.deBruijn32tab", "math/bits.deBruijn64tab"], plainKeys := false, apart := false, laid := [("math/bits.deBruijn32tab", laid_math_bits_deBruijn32tab), ("math/bits.deBruijn64tab", laid_math_bits_deBruijn64tab), ("quartermaster/pool.costs", laid_quartermaster_pool_costs)] }
def SpaceActsSaid : Prop := spaceActsRow.holds Tryz.pinned (OpenSpec.ofChange spaceActsSpec)

/-- ITS FALSE NEIGHBOUR: 'it returns false'. Refute it at one input. -/
def spaceActsWrong : ChangeSpec := { name := "spaceActs", fn := fun _ => fun
  | [d1, d2] => { results := [.lit (.bool false)], args := [d1, d2] }
  | _ => none }
def SpaceActsWrongFalsely : Prop := spaceActsRow.holds Tryz.pinned (OpenSpec.ofChange spaceActsWrong)

/-- 'quartermasterlaw17.SpaceBack': WHATEVER THE INPUT: true; the input reads as it did. -/
def spaceBackSpec : ChangeSpec := { name := "spaceBack", fn := fun _ => fun
  | [d1, d2] => { results := [.lit (.bool true)], args := [d1, d2] }
  | _ => none }
def spaceBackRow : OpenClaim := { program := "ytlakjlmaboioiaagreatdoor", sum := "9552d4565bacadc55dfe84b89bd55c1e811a1caa6363c6f340eccd3feee99829", func := "quartermaster/quartermasterlaw17.SpaceBack", spec := "spaceBack", inPlace := ["slices.overlaps[quartermaster/slab.page]"], unfollowed := true, recurses := true, named := ["quartermaster/pool.costs", "math/bits.deBruijn32tab", "math/bits.deBruijn64tab"], plainKeys := false, apart := false, laid := [("math/bits.deBruijn32tab", laid_math_bits_deBruijn32tab), ("math/bits.deBruijn64tab", laid_math_bits_deBruijn64tab), ("quartermaster/pool.costs", laid_quartermaster_pool_costs)] }
def SpaceBackSaid : Prop := spaceBackRow.holds Tryz.pinned (OpenSpec.ofChange spaceBackSpec)

/-- ITS FALSE NEIGHBOUR: 'it returns false'. Refute it at one input. -/
def spaceBackWrong : ChangeSpec := { name := "spaceBack", fn := fun _ => fun
  | [d1, d2] => { results := [.lit (.bool false)], args := [d1, d2] }
  | _ => none }
def SpaceBackWrongFalsely : Prop := spaceBackRow.holds Tryz.pinned (OpenSpec.ofChange spaceBackWrong)

/-- 'quartermasterlaw17.SpaceCharge': WHATEVER THE INPUT: true; the input reads as it did. -/
def spaceChargeSpec : ChangeSpec := { name := "spaceCharge", fn := fun _ => fun
  | [d1, d2] => { results := [.lit (.bool true)], args := [d1, d2] }
  | _ => none }
def spaceChargeRow : OpenClaim := { program := "ytlakjlmaboioiaagreatdoor", sum := "9552d4565bacadc55dfe84b89bd55c1e811a1caa6363c6f340eccd3feee99829", func := "quartermaster/quartermasterlaw17.SpaceCharge", spec := "spaceCharge", inPlace := ["slices.overlaps[quartermaster/slab.page]"], unfollowed := true, recurses := true, named := ["quartermaster/pool.costs", "math/bits.deBruijn32tab", "math/bits.deBruijn64tab"], plainKeys := false, apart := false, laid := [("math/bits.deBruijn32tab", laid_math_bits_deBruijn32tab), ("math/bits.deBruijn64tab", laid_math_bits_deBruijn64tab), ("quartermaster/pool.costs", laid_quartermaster_pool_costs)] }
def SpaceChargeSaid : Prop := spaceChargeRow.holds Tryz.pinned (OpenSpec.ofChange spaceChargeSpec)

/-- ITS FALSE NEIGHBOUR: 'it returns false'. Refute it at one input. -/
def spaceChargeWrong : ChangeSpec := { name := "spaceCharge", fn := fun _ => fun
  | [d1, d2] => { results := [.lit (.bool false)], args := [d1, d2] }
  | _ => none }
def SpaceChargeWrongFalsely : Prop := spaceChargeRow.holds Tryz.pinned (OpenSpec.ofChange spaceChargeWrong)

/-- 'quartermasterlaw17.SpaceFails': WHATEVER THE INPUT: true; the input reads as it did. -/
def spaceFailsSpec : ChangeSpec := { name := "spaceFails", fn := fun _ => fun
  | [d1, d2, d3] => { results := [.lit (.bool true)], args := [d1, d2, d3] }
  | _ => none }
def spaceFailsRow : OpenClaim := { program := "ytlakjlmaboioiaagreatdoor", sum := "9552d4565bacadc55dfe84b89bd55c1e811a1caa6363c6f340eccd3feee99829", func := "quartermaster/quartermasterlaw17.SpaceFails", spec := "spaceFails", inPlace := ["slices.overlaps[quartermaster/slab.page]"], unfollowed := true, recurses := true, named := ["quartermaster/pool.costs", "math/bits.deBruijn32tab", "math/bits.deBruijn64tab"], plainKeys := false, apart := false, laid := [("math/bits.deBruijn32tab", laid_math_bits_deBruijn32tab), ("math/bits.deBruijn64tab", laid_math_bits_deBruijn64tab), ("quartermaster/pool.costs", laid_quartermaster_pool_costs)] }
def SpaceFailsSaid : Prop := spaceFailsRow.holds Tryz.pinned (OpenSpec.ofChange spaceFailsSpec)

/-- ITS FALSE NEIGHBOUR: 'it returns false'. Refute it at one input. -/
def spaceFailsWrong : ChangeSpec := { name := "spaceFails", fn := fun _ => fun
  | [d1, d2, d3] => { results := [.lit (.bool false)], args := [d1, d2, d3] }
  | _ => none }
def SpaceFailsWrongFalsely : Prop := spaceFailsRow.holds Tryz.pinned (OpenSpec.ofChange spaceFailsWrong)

/- THE SECOND FORM. 'bulk': how many values and letters a reading holds, each counted each time it is reached (what is shared counts as often as it is met; a slice's spare places count too). A statement '..UptoSaid' is the law's where the arguments, and the package variables that the reading takes, are together of bulk at most 1048576: NARROWER than '..Said'. Prove '..Said' where nothing that the law and all that it calls make is longer than what came in: it says more and counts as full. Else prove '..UptoSaid'. A law counts once. -/
mutual
def uptoBulk {H : Type} : DataW H → Nat
  | .lit (.string bytes) => bytes.length + 1
  | .lit _ => 1
  | .nil => 1
  | .ptr d => uptoBulk d + 1
  | .slice elems spare => uptoBulkAll elems + uptoBulkAll spare + 1
  | .agg parts => uptoBulkAll parts + 1
  | .iface _ d => uptoBulk d + 1
  | .map entries => uptoBulkEntries entries + 1
  | .held _ => 1
def uptoBulkAll {H : Type} : List (DataW H) → Nat
  | [] => 0
  | d :: r => uptoBulk d + uptoBulkAll r
def uptoBulkEntries {H : Type} : List (Lit × DataW H) → Nat
  | [] => 0
  | x :: r => uptoBulkEntry x + uptoBulkEntries r
def uptoBulkEntry {H : Type} : Lit × DataW H → Nat
  | (.string bytes, d) => bytes.length + uptoBulk d + 1
  | (_, d) => uptoBulk d + 1
 end
def uptoSmall : (H : Type) → List (DataW H) → Bool := fun _ ds => decide (uptoBulkAll ds ≤ 1048576)
def OpenSpec.upto (s : _root_.Go.ChangeSpec) : _root_.Go.OpenSpec := { _root_.Go.OpenSpec.ofChange s with cond := some uptoSmall }

/-- 'quartermasterlaw17.SpaceChain', WHERE WHAT IT READS IS OF BULK AT MOST 1048576: true; the input reads as it did. -/
def spaceChainUptoRow : OpenClaim := { program := "ytlakjlmaboioiaagreatdoor", sum := "9552d4565bacadc55dfe84b89bd55c1e811a1caa6363c6f340eccd3feee99829", func := "quartermaster/quartermasterlaw17.SpaceChain", spec := "spaceChain", inPlace := ["slices.overlaps[quartermaster/slab.page]"], unfollowed := true, recurses := true, named := ["quartermaster/pool.costs", "math/bits.deBruijn32tab", "math/bits.deBruijn64tab"], plainKeys := false, apart := false, laid := [("math/bits.deBruijn32tab", laid_math_bits_deBruijn32tab), ("math/bits.deBruijn64tab", laid_math_bits_deBruijn64tab), ("quartermaster/pool.costs", laid_quartermaster_pool_costs)], narrowed := true }
def SpaceChainUptoSaid : Prop := spaceChainUptoRow.holds Tryz.pinned (OpenSpec.upto spaceChainSpec)

/-- 'quartermasterlaw17.SpaceGrants', WHERE WHAT IT READS IS OF BULK AT MOST 1048576: true; the input reads as it did. -/
def spaceGrantsUptoRow : OpenClaim := { program := "ytlakjlmaboioiaagreatdoor", sum := "9552d4565bacadc55dfe84b89bd55c1e811a1caa6363c6f340eccd3feee99829", func := "quartermaster/quartermasterlaw17.SpaceGrants", spec := "spaceGrants", inPlace := ["slices.overlaps[quartermaster/slab.page]"], unfollowed := true, recurses := true, named := ["quartermaster/pool.costs", "math/bits.deBruijn32tab", "math/bits.deBruijn64tab"], plainKeys := false, apart := false, laid := [("math/bits.deBruijn32tab", laid_math_bits_deBruijn32tab), ("math/bits.deBruijn64tab", laid_math_bits_deBruijn64tab), ("quartermaster/pool.costs", laid_quartermaster_pool_costs)], narrowed := true }
def SpaceGrantsUptoSaid : Prop := spaceGrantsUptoRow.holds Tryz.pinned (OpenSpec.upto spaceGrantsSpec)

/-- 'quartermasterlaw17.SpaceItems', WHERE WHAT IT READS IS OF BULK AT MOST 1048576: true; the input reads as it did. -/
def spaceItemsUptoRow : OpenClaim := { program := "ytlakjlmaboioiaagreatdoor", sum := "9552d4565bacadc55dfe84b89bd55c1e811a1caa6363c6f340eccd3feee99829", func := "quartermaster/quartermasterlaw17.SpaceItems", spec := "spaceItems", inPlace := ["slices.overlaps[quartermaster/slab.page]"], unfollowed := true, recurses := true, named := ["quartermaster/pool.costs", "math/bits.deBruijn32tab", "math/bits.deBruijn64tab"], plainKeys := false, apart := false, laid := [("math/bits.deBruijn32tab", laid_math_bits_deBruijn32tab), ("math/bits.deBruijn64tab", laid_math_bits_deBruijn64tab), ("quartermaster/pool.costs", laid_quartermaster_pool_costs)], narrowed := true }
def SpaceItemsUptoSaid : Prop := spaceItemsUptoRow.holds Tryz.pinned (OpenSpec.upto spaceItemsSpec)

/-- 'quartermasterlaw17.SpaceRights', WHERE WHAT IT READS IS OF BULK AT MOST 1048576: true; the input reads as it did. -/
def spaceRightsUptoRow : OpenClaim := { program := "ytlakjlmaboioiaagreatdoor", sum := "9552d4565bacadc55dfe84b89bd55c1e811a1caa6363c6f340eccd3feee99829", func := "quartermaster/quartermasterlaw17.SpaceRights", spec := "spaceRights", inPlace := ["slices.overlaps[quartermaster/slab.page]"], unfollowed := true, recurses := true, named := ["quartermaster/pool.costs", "math/bits.deBruijn32tab", "math/bits.deBruijn64tab"], plainKeys := false, apart := false, laid := [("math/bits.deBruijn32tab", laid_math_bits_deBruijn32tab), ("math/bits.deBruijn64tab", laid_math_bits_deBruijn64tab), ("quartermaster/pool.costs", laid_quartermaster_pool_costs)], narrowed := true }
def SpaceRightsUptoSaid : Prop := spaceRightsUptoRow.holds Tryz.pinned (OpenSpec.upto spaceRightsSpec)

/-- 'quartermasterlaw17.SpaceMoves', WHERE WHAT IT READS IS OF BULK AT MOST 1048576: true; the input reads as it did. -/
def spaceMovesUptoRow : OpenClaim := { program := "ytlakjlmaboioiaagreatdoor", sum := "9552d4565bacadc55dfe84b89bd55c1e811a1caa6363c6f340eccd3feee99829", func := "quartermaster/quartermasterlaw17.SpaceMoves", spec := "spaceMoves", inPlace := ["slices.overlaps[quartermaster/slab.page]"], unfollowed := true, recurses := true, named := ["quartermaster/pool.costs", "math/bits.deBruijn32tab", "math/bits.deBruijn64tab"], plainKeys := false, apart := false, laid := [("math/bits.deBruijn32tab", laid_math_bits_deBruijn32tab), ("math/bits.deBruijn64tab", laid_math_bits_deBruijn64tab), ("quartermaster/pool.costs", laid_quartermaster_pool_costs)], narrowed := true }
def SpaceMovesUptoSaid : Prop := spaceMovesUptoRow.holds Tryz.pinned (OpenSpec.upto spaceMovesSpec)

/-- 'quartermasterlaw17.SpaceRevokes', WHERE WHAT IT READS IS OF BULK AT MOST 1048576: true; the input reads as it did. -/
def spaceRevokesUptoRow : OpenClaim := { program := "ytlakjlmaboioiaagreatdoor", sum := "9552d4565bacadc55dfe84b89bd55c1e811a1caa6363c6f340eccd3feee99829", func := "quartermaster/quartermasterlaw17.SpaceRevokes", spec := "spaceRevokes", inPlace := ["slices.overlaps[quartermaster/slab.page]"], unfollowed := true, recurses := true, named := ["quartermaster/pool.costs", "math/bits.deBruijn32tab", "math/bits.deBruijn64tab"], plainKeys := false, apart := false, laid := [("math/bits.deBruijn32tab", laid_math_bits_deBruijn32tab), ("math/bits.deBruijn64tab", laid_math_bits_deBruijn64tab), ("quartermaster/pool.costs", laid_quartermaster_pool_costs)], narrowed := true }
def SpaceRevokesUptoSaid : Prop := spaceRevokesUptoRow.holds Tryz.pinned (OpenSpec.upto spaceRevokesSpec)

/-- 'quartermasterlaw17.SpaceKills', WHERE WHAT IT READS IS OF BULK AT MOST 1048576: true; the input reads as it did. -/
def spaceKillsUptoRow : OpenClaim := { program := "ytlakjlmaboioiaagreatdoor", sum := "9552d4565bacadc55dfe84b89bd55c1e811a1caa6363c6f340eccd3feee99829", func := "quartermaster/quartermasterlaw17.SpaceKills", spec := "spaceKills", inPlace := ["slices.overlaps[quartermaster/slab.page]"], unfollowed := true, recurses := true, named := ["quartermaster/pool.costs", "math/bits.deBruijn32tab", "math/bits.deBruijn64tab"], plainKeys := false, apart := false, laid := [("math/bits.deBruijn32tab", laid_math_bits_deBruijn32tab), ("math/bits.deBruijn64tab", laid_math_bits_deBruijn64tab), ("quartermaster/pool.costs", laid_quartermaster_pool_costs)], narrowed := true }
def SpaceKillsUptoSaid : Prop := spaceKillsUptoRow.holds Tryz.pinned (OpenSpec.upto spaceKillsSpec)

/-- 'quartermasterlaw17.SpaceActs', WHERE WHAT IT READS IS OF BULK AT MOST 1048576: true; the input reads as it did. -/
def spaceActsUptoRow : OpenClaim := { program := "ytlakjlmaboioiaagreatdoor", sum := "9552d4565bacadc55dfe84b89bd55c1e811a1caa6363c6f340eccd3feee99829", func := "quartermaster/quartermasterlaw17.SpaceActs", spec := "spaceActs", inPlace := ["slices.overlaps[quartermaster/slab.page]"], unfollowed := true, recurses := true, named := ["quartermaster/pool.costs", "math/bits.deBruijn32tab", "math/bits.deBruijn64tab"], plainKeys := false, apart := false, laid := [("math/bits.deBruijn32tab", laid_math_bits_deBruijn32tab), ("math/bits.deBruijn64tab", laid_math_bits_deBruijn64tab), ("quartermaster/pool.costs", laid_quartermaster_pool_costs)], narrowed := true }
def SpaceActsUptoSaid : Prop := spaceActsUptoRow.holds Tryz.pinned (OpenSpec.upto spaceActsSpec)

/-- 'quartermasterlaw17.SpaceBack', WHERE WHAT IT READS IS OF BULK AT MOST 1048576: true; the input reads as it did. -/
def spaceBackUptoRow : OpenClaim := { program := "ytlakjlmaboioiaagreatdoor", sum := "9552d4565bacadc55dfe84b89bd55c1e811a1caa6363c6f340eccd3feee99829", func := "quartermaster/quartermasterlaw17.SpaceBack", spec := "spaceBack", inPlace := ["slices.overlaps[quartermaster/slab.page]"], unfollowed := true, recurses := true, named := ["quartermaster/pool.costs", "math/bits.deBruijn32tab", "math/bits.deBruijn64tab"], plainKeys := false, apart := false, laid := [("math/bits.deBruijn32tab", laid_math_bits_deBruijn32tab), ("math/bits.deBruijn64tab", laid_math_bits_deBruijn64tab), ("quartermaster/pool.costs", laid_quartermaster_pool_costs)], narrowed := true }
def SpaceBackUptoSaid : Prop := spaceBackUptoRow.holds Tryz.pinned (OpenSpec.upto spaceBackSpec)

/-- 'quartermasterlaw17.SpaceCharge', WHERE WHAT IT READS IS OF BULK AT MOST 1048576: true; the input reads as it did. -/
def spaceChargeUptoRow : OpenClaim := { program := "ytlakjlmaboioiaagreatdoor", sum := "9552d4565bacadc55dfe84b89bd55c1e811a1caa6363c6f340eccd3feee99829", func := "quartermaster/quartermasterlaw17.SpaceCharge", spec := "spaceCharge", inPlace := ["slices.overlaps[quartermaster/slab.page]"], unfollowed := true, recurses := true, named := ["quartermaster/pool.costs", "math/bits.deBruijn32tab", "math/bits.deBruijn64tab"], plainKeys := false, apart := false, laid := [("math/bits.deBruijn32tab", laid_math_bits_deBruijn32tab), ("math/bits.deBruijn64tab", laid_math_bits_deBruijn64tab), ("quartermaster/pool.costs", laid_quartermaster_pool_costs)], narrowed := true }
def SpaceChargeUptoSaid : Prop := spaceChargeUptoRow.holds Tryz.pinned (OpenSpec.upto spaceChargeSpec)

/-- 'quartermasterlaw17.SpaceFails', WHERE WHAT IT READS IS OF BULK AT MOST 1048576: true; the input reads as it did. -/
def spaceFailsUptoRow : OpenClaim := { program := "ytlakjlmaboioiaagreatdoor", sum := "9552d4565bacadc55dfe84b89bd55c1e811a1caa6363c6f340eccd3feee99829", func := "quartermaster/quartermasterlaw17.SpaceFails", spec := "spaceFails", inPlace := ["slices.overlaps[quartermaster/slab.page]"], unfollowed := true, recurses := true, named := ["quartermaster/pool.costs", "math/bits.deBruijn32tab", "math/bits.deBruijn64tab"], plainKeys := false, apart := false, laid := [("math/bits.deBruijn32tab", laid_math_bits_deBruijn32tab), ("math/bits.deBruijn64tab", laid_math_bits_deBruijn64tab), ("quartermaster/pool.costs", laid_quartermaster_pool_costs)], narrowed := true }
def SpaceFailsUptoSaid : Prop := spaceFailsUptoRow.holds Tryz.pinned (OpenSpec.upto spaceFailsSpec)

end Rows
end Go.Proofs.YtlakjlmaboioiaaGreatDoor
