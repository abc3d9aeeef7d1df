/-
  DERIVED. GIVEN WITH THE SEED: THE CARDS: each row of YtfidemmgofcnmaaGreatDoorRows.lean that lists a variable, with what it lists TIED to the program's text (the seventh form; the later family's looks); each row that meets fmt, with fmt's text TOLD by the authors' own Lean function (tested against real Go, not proved from fmt's source: count such statements apart). THE CARD IS WHAT COUNTS. Prove the row's statement (the work); the ties are given (YtfidemmgofcnmaaGreatDoorTie.lean); close each card by the builder's one call (the guide's Derived/Test/ToyasCard.lean, 'card_holds'). Laid BY PROGRAM, IN A SANDBOX (cutbox-door.mjs). By AI agents, Wed Nov 11 2026. No macro, syntax, notation, axiom, sorry.
-/
import Derived.Test.YtfidemmgofcnmaaGreatDoorRows
import GoSem.ClaimSeven
namespace Go.Proofs.YtfidemmgofcnmaaGreatDoor
namespace Rows

/-- THE TIED CARD OF 'quartermasterlaw06.PoolFails'. -/
def poolFailsCard : Claim7 := { stood := { row := poolFailsRow, standIns := [], harness := (true, "18cab706b30b89665933d3db64f20996dd1fa144517ea12b4562cb4b0e22bd5b"), looks := false }, kinds := [], alts := [], laidByText := true, laidKinds := [.data, .data, .data], laidTests := true, laidLooks := .later }
def PoolFailsCardSaid : Prop := Claim7.holds Tryz.pinned (.plain (OpenSpec.ofChange poolFailsSpec)) poolFailsCard

/-- THE TIED CARD OF 'quartermasterlaw17.SpaceCharge'. -/
def spaceChargeCard : Claim7 := { stood := { row := spaceChargeRow, standIns := [], harness := (true, "18cab706b30b89665933d3db64f20996dd1fa144517ea12b4562cb4b0e22bd5b"), looks := false }, kinds := [], alts := [], laidByText := true, laidKinds := [.data, .data, .data], laidTests := true, laidLooks := .later }
def SpaceChargeCardSaid : Prop := Claim7.holds Tryz.pinned (.plain (OpenSpec.ofChange spaceChargeSpec)) spaceChargeCard

/-- THE TIED CARD OF 'quartermasterlaw17.SpaceFails'. -/
def spaceFailsCard : Claim7 := { stood := { row := spaceFailsRow, standIns := [], harness := (true, "18cab706b30b89665933d3db64f20996dd1fa144517ea12b4562cb4b0e22bd5b"), looks := false }, kinds := [], alts := [], laidByText := true, laidKinds := [.data, .data, .data], laidTests := true, laidLooks := .later }
def SpaceFailsCardSaid : Prop := Claim7.holds Tryz.pinned (.plain (OpenSpec.ofChange spaceFailsSpec)) spaceFailsCard

/-- THE TIED CARD OF 'quartermasterlaw19.CarryPages'. -/
def carryPagesCard : Claim7 := { stood := { row := carryPagesRow, standIns := [], harness := (true, "18cab706b30b89665933d3db64f20996dd1fa144517ea12b4562cb4b0e22bd5b"), looks := false }, kinds := [], alts := [], laidByText := true, laidKinds := [.data, .data, .data], laidTests := true, laidLooks := .later }
def CarryPagesCardSaid : Prop := Claim7.holds Tryz.pinned (.plain (OpenSpec.ofChange carryPagesSpec)) carryPagesCard

/-- THE TIED CARD OF 'quartermasterlaw19.CarryApart'. -/
def carryApartCard : Claim7 := { stood := { row := carryApartRow, standIns := [], harness := (true, "18cab706b30b89665933d3db64f20996dd1fa144517ea12b4562cb4b0e22bd5b"), looks := false }, kinds := [], alts := [], laidByText := true, laidKinds := [.data, .data, .data], laidTests := true, laidLooks := .later }
def CarryApartCardSaid : Prop := Claim7.holds Tryz.pinned (.plain (OpenSpec.ofChange carryApartSpec)) carryApartCard

/-- THE TIED CARD OF 'quartermasterlaw19.CarryTells'. -/
def carryTellsCard : Claim7 := { stood := { row := carryTellsRow, standIns := [], harness := (true, "18cab706b30b89665933d3db64f20996dd1fa144517ea12b4562cb4b0e22bd5b"), looks := false }, kinds := [], alts := [], laidByText := true, laidKinds := [.data, .data, .data], laidTests := true, laidLooks := .later }
def CarryTellsCardSaid : Prop := Claim7.holds Tryz.pinned (.plain (OpenSpec.ofChange carryTellsSpec)) carryTellsCard

/-- THE TIED CARD OF 'quartermasterlaw19.CarryGives'. -/
def carryGivesCard : Claim7 := { stood := { row := carryGivesRow, standIns := [], harness := (true, "18cab706b30b89665933d3db64f20996dd1fa144517ea12b4562cb4b0e22bd5b"), looks := false }, kinds := [], alts := [], laidByText := true, laidKinds := [.data, .data, .data], laidTests := true, laidLooks := .later }
def CarryGivesCardSaid : Prop := Claim7.holds Tryz.pinned (.plain (OpenSpec.ofChange carryGivesSpec)) carryGivesCard

/-- THE TIED CARD OF 'quartermasterlaw19.CarryFails'. -/
def carryFailsCard : Claim7 := { stood := { row := carryFailsRow, standIns := [], harness := (true, "18cab706b30b89665933d3db64f20996dd1fa144517ea12b4562cb4b0e22bd5b"), looks := false }, kinds := [], alts := [], laidByText := true, laidKinds := [.data, .data, .data], laidTests := true, laidLooks := .later }
def CarryFailsCardSaid : Prop := Claim7.holds Tryz.pinned (.plain (OpenSpec.ofChange carryFailsSpec)) carryFailsCard

/-- THE SECOND FORM's CARD OF 'quartermasterlaw06.PoolFails'. -/
def poolFailsUptoCard : Claim7 := { stood := { row := poolFailsUptoRow, standIns := [], harness := (true, "18cab706b30b89665933d3db64f20996dd1fa144517ea12b4562cb4b0e22bd5b"), looks := false }, kinds := [], alts := [], laidByText := true, laidKinds := [.data, .data, .data], laidTests := true, laidLooks := .later }
def PoolFailsUptoCardSaid : Prop := Claim7.holds Tryz.pinned (.plain (OpenSpec.upto poolFailsSpec)) poolFailsUptoCard

/-- THE SECOND FORM's CARD OF 'quartermasterlaw17.SpaceCharge'. -/
def spaceChargeUptoCard : Claim7 := { stood := { row := spaceChargeUptoRow, standIns := [], harness := (true, "18cab706b30b89665933d3db64f20996dd1fa144517ea12b4562cb4b0e22bd5b"), looks := false }, kinds := [], alts := [], laidByText := true, laidKinds := [.data, .data, .data], laidTests := true, laidLooks := .later }
def SpaceChargeUptoCardSaid : Prop := Claim7.holds Tryz.pinned (.plain (OpenSpec.upto spaceChargeSpec)) spaceChargeUptoCard

/-- THE SECOND FORM's CARD OF 'quartermasterlaw17.SpaceFails'. -/
def spaceFailsUptoCard : Claim7 := { stood := { row := spaceFailsUptoRow, standIns := [], harness := (true, "18cab706b30b89665933d3db64f20996dd1fa144517ea12b4562cb4b0e22bd5b"), looks := false }, kinds := [], alts := [], laidByText := true, laidKinds := [.data, .data, .data], laidTests := true, laidLooks := .later }
def SpaceFailsUptoCardSaid : Prop := Claim7.holds Tryz.pinned (.plain (OpenSpec.upto spaceFailsSpec)) spaceFailsUptoCard

/-- THE SECOND FORM's CARD OF 'quartermasterlaw19.CarryPages'. -/
def carryPagesUptoCard : Claim7 := { stood := { row := carryPagesUptoRow, standIns := [], harness := (true, "18cab706b30b89665933d3db64f20996dd1fa144517ea12b4562cb4b0e22bd5b"), looks := false }, kinds := [], alts := [], laidByText := true, laidKinds := [.data, .data, .data], laidTests := true, laidLooks := .later }
def CarryPagesUptoCardSaid : Prop := Claim7.holds Tryz.pinned (.plain (OpenSpec.upto carryPagesSpec)) carryPagesUptoCard

/-- THE SECOND FORM's CARD OF 'quartermasterlaw19.CarryApart'. -/
def carryApartUptoCard : Claim7 := { stood := { row := carryApartUptoRow, standIns := [], harness := (true, "18cab706b30b89665933d3db64f20996dd1fa144517ea12b4562cb4b0e22bd5b"), looks := false }, kinds := [], alts := [], laidByText := true, laidKinds := [.data, .data, .data], laidTests := true, laidLooks := .later }
def CarryApartUptoCardSaid : Prop := Claim7.holds Tryz.pinned (.plain (OpenSpec.upto carryApartSpec)) carryApartUptoCard

/-- THE SECOND FORM's CARD OF 'quartermasterlaw19.CarryTells'. -/
def carryTellsUptoCard : Claim7 := { stood := { row := carryTellsUptoRow, standIns := [], harness := (true, "18cab706b30b89665933d3db64f20996dd1fa144517ea12b4562cb4b0e22bd5b"), looks := false }, kinds := [], alts := [], laidByText := true, laidKinds := [.data, .data, .data], laidTests := true, laidLooks := .later }
def CarryTellsUptoCardSaid : Prop := Claim7.holds Tryz.pinned (.plain (OpenSpec.upto carryTellsSpec)) carryTellsUptoCard

/-- THE SECOND FORM's CARD OF 'quartermasterlaw19.CarryGives'. -/
def carryGivesUptoCard : Claim7 := { stood := { row := carryGivesUptoRow, standIns := [], harness := (true, "18cab706b30b89665933d3db64f20996dd1fa144517ea12b4562cb4b0e22bd5b"), looks := false }, kinds := [], alts := [], laidByText := true, laidKinds := [.data, .data, .data], laidTests := true, laidLooks := .later }
def CarryGivesUptoCardSaid : Prop := Claim7.holds Tryz.pinned (.plain (OpenSpec.upto carryGivesSpec)) carryGivesUptoCard

/-- THE SECOND FORM's CARD OF 'quartermasterlaw19.CarryFails'. -/
def carryFailsUptoCard : Claim7 := { stood := { row := carryFailsUptoRow, standIns := [], harness := (true, "18cab706b30b89665933d3db64f20996dd1fa144517ea12b4562cb4b0e22bd5b"), looks := false }, kinds := [], alts := [], laidByText := true, laidKinds := [.data, .data, .data], laidTests := true, laidLooks := .later }
def CarryFailsUptoCardSaid : Prop := Claim7.holds Tryz.pinned (.plain (OpenSpec.upto carryFailsSpec)) carryFailsUptoCard
end Rows
end Go.Proofs.YtfidemmgofcnmaaGreatDoor
