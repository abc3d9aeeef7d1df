/-
  DERIVED. GIVEN WITH THE SEED: THE CARDS: each row of YtfefdleadocpmaaDoorRows.lean that lists a variable, with what it lists TIED to the program's text (the seventh form; the later family's looks); each row that meets fmt, with fmt's text TOLD by the authors' own Lean function (tested against real Go, not proved from fmt's source: count such statements apart). THE CARD IS WHAT COUNTS. Prove the row's statement (the work); the ties are given (YtfefdleadocpmaaDoorTie.lean); close each card by the builder's one call (the guide's Derived/Test/ToyasCard.lean, 'card_holds'). Laid BY PROGRAM, IN A SANDBOX (cutbox-door.mjs). By AI agents, Wed Nov 11 2026. No macro, syntax, notation, axiom, sorry.
-/
import Derived.Test.YtfefdleadocpmaaDoorRows
import GoSem.ClaimSeven
namespace Go.Proofs.YtfefdleadocpmaaDoor
namespace Rows

/-- THE TIED CARD OF 'quartermasterlaw06.PoolSums'. -/
def poolSumsCard : Claim7 := { stood := { row := poolSumsRow, standIns := [], harness := (true, "8a4ceb0ecf97b5bcd355cfe1a3ff642c5f79d71629043a3ab83b14b09052d9e5"), looks := false }, kinds := [], alts := [], laidByText := true, laidKinds := [.data, .data, .data], laidTests := true, laidLooks := .later }
def PoolSumsCardSaid : Prop := Claim7.holds Tryd.pinned (.plain (OpenSpec.ofChange poolSumsSpec)) poolSumsCard

/-- THE TIED CARD OF 'quartermasterlaw06.PoolZeros'. -/
def poolZerosCard : Claim7 := { stood := { row := poolZerosRow, standIns := [], harness := (true, "8a4ceb0ecf97b5bcd355cfe1a3ff642c5f79d71629043a3ab83b14b09052d9e5"), looks := false }, kinds := [], alts := [], laidByText := true, laidKinds := [.data, .data, .data], laidTests := true, laidLooks := .later }
def PoolZerosCardSaid : Prop := Claim7.holds Tryd.pinned (.plain (OpenSpec.ofChange poolZerosSpec)) poolZerosCard

/-- THE SECOND FORM's CARD OF 'quartermasterlaw06.PoolSums'. -/
def poolSumsUptoCard : Claim7 := { stood := { row := poolSumsUptoRow, standIns := [], harness := (true, "8a4ceb0ecf97b5bcd355cfe1a3ff642c5f79d71629043a3ab83b14b09052d9e5"), looks := false }, kinds := [], alts := [], laidByText := true, laidKinds := [.data, .data, .data], laidTests := true, laidLooks := .later }
def PoolSumsUptoCardSaid : Prop := Claim7.holds Tryd.pinned (.plain (OpenSpec.upto poolSumsSpec)) poolSumsUptoCard

/-- THE SECOND FORM's CARD OF 'quartermasterlaw06.PoolZeros'. -/
def poolZerosUptoCard : Claim7 := { stood := { row := poolZerosUptoRow, standIns := [], harness := (true, "8a4ceb0ecf97b5bcd355cfe1a3ff642c5f79d71629043a3ab83b14b09052d9e5"), looks := false }, kinds := [], alts := [], laidByText := true, laidKinds := [.data, .data, .data], laidTests := true, laidLooks := .later }
def PoolZerosUptoCardSaid : Prop := Claim7.holds Tryd.pinned (.plain (OpenSpec.upto poolZerosSpec)) poolZerosUptoCard
end Rows
end Go.Proofs.YtfefdleadocpmaaDoor
