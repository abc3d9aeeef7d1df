/-
  DERIVED. GIVEN WITH THE SEED: THE CARDS: each row of YtlakjlmaboioiaaGreatDoorRows.lean that lists a variable, with what it lists TIED to the program's text (the seventh form; the later family's looks); each row that meets fmt, with fmt's text TOLD by the authors' own Lean function (tested against real Go, not proved from fmt's source: count such statements apart). THE CARD IS WHAT COUNTS. Prove the row's statement (the work); the ties are given (YtlakjlmaboioiaaGreatDoorTie.lean); close each card by the builder's one call (the guide's Derived/Test/ToyasCard.lean, 'card_holds'). Laid BY PROGRAM, IN A SANDBOX (cutbox-door.mjs). By AI agents, Wed Nov 11 2026. No macro, syntax, notation, axiom, sorry.
-/
import Derived.Test.YtlakjlmaboioiaaGreatDoorRows
import GoSem.ClaimSeven
namespace Go.Proofs.YtlakjlmaboioiaaGreatDoor
namespace Rows

/-- THE TIED CARD OF 'quartermasterlaw17.SpaceChain'. -/
def spaceChainCard : Claim7 := { stood := { row := spaceChainRow, standIns := [], harness := (true, "46c981935fdbb8f731de0b3e23d509c9324a65cb8423fa6168ae4048fd4c3ee3"), looks := false }, kinds := [], alts := [], laidByText := true, laidKinds := [.data, .data, .data], laidTests := true, laidLooks := .later }
def SpaceChainCardSaid : Prop := Claim7.holds Tryz.pinned (.plain (OpenSpec.ofChange spaceChainSpec)) spaceChainCard

/-- THE TIED CARD OF 'quartermasterlaw17.SpaceGrants'. -/
def spaceGrantsCard : Claim7 := { stood := { row := spaceGrantsRow, standIns := [], harness := (true, "46c981935fdbb8f731de0b3e23d509c9324a65cb8423fa6168ae4048fd4c3ee3"), looks := false }, kinds := [], alts := [], laidByText := true, laidKinds := [.data, .data, .data], laidTests := true, laidLooks := .later }
def SpaceGrantsCardSaid : Prop := Claim7.holds Tryz.pinned (.plain (OpenSpec.ofChange spaceGrantsSpec)) spaceGrantsCard

/-- THE TIED CARD OF 'quartermasterlaw17.SpaceItems'. -/
def spaceItemsCard : Claim7 := { stood := { row := spaceItemsRow, standIns := [], harness := (true, "46c981935fdbb8f731de0b3e23d509c9324a65cb8423fa6168ae4048fd4c3ee3"), looks := false }, kinds := [], alts := [], laidByText := true, laidKinds := [.data, .data, .data], laidTests := true, laidLooks := .later }
def SpaceItemsCardSaid : Prop := Claim7.holds Tryz.pinned (.plain (OpenSpec.ofChange spaceItemsSpec)) spaceItemsCard

/-- THE TIED CARD OF 'quartermasterlaw17.SpaceRights'. -/
def spaceRightsCard : Claim7 := { stood := { row := spaceRightsRow, standIns := [], harness := (true, "46c981935fdbb8f731de0b3e23d509c9324a65cb8423fa6168ae4048fd4c3ee3"), looks := false }, kinds := [], alts := [], laidByText := true, laidKinds := [.data, .data, .data], laidTests := true, laidLooks := .later }
def SpaceRightsCardSaid : Prop := Claim7.holds Tryz.pinned (.plain (OpenSpec.ofChange spaceRightsSpec)) spaceRightsCard

/-- THE TIED CARD OF 'quartermasterlaw17.SpaceMoves'. -/
def spaceMovesCard : Claim7 := { stood := { row := spaceMovesRow, standIns := [], harness := (true, "46c981935fdbb8f731de0b3e23d509c9324a65cb8423fa6168ae4048fd4c3ee3"), looks := false }, kinds := [], alts := [], laidByText := true, laidKinds := [.data, .data, .data], laidTests := true, laidLooks := .later }
def SpaceMovesCardSaid : Prop := Claim7.holds Tryz.pinned (.plain (OpenSpec.ofChange spaceMovesSpec)) spaceMovesCard

/-- THE TIED CARD OF 'quartermasterlaw17.SpaceRevokes'. -/
def spaceRevokesCard : Claim7 := { stood := { row := spaceRevokesRow, standIns := [], harness := (true, "46c981935fdbb8f731de0b3e23d509c9324a65cb8423fa6168ae4048fd4c3ee3"), looks := false }, kinds := [], alts := [], laidByText := true, laidKinds := [.data, .data, .data], laidTests := true, laidLooks := .later }
def SpaceRevokesCardSaid : Prop := Claim7.holds Tryz.pinned (.plain (OpenSpec.ofChange spaceRevokesSpec)) spaceRevokesCard

/-- THE TIED CARD OF 'quartermasterlaw17.SpaceKills'. -/
def spaceKillsCard : Claim7 := { stood := { row := spaceKillsRow, standIns := [], harness := (true, "46c981935fdbb8f731de0b3e23d509c9324a65cb8423fa6168ae4048fd4c3ee3"), looks := false }, kinds := [], alts := [], laidByText := true, laidKinds := [.data, .data, .data], laidTests := true, laidLooks := .later }
def SpaceKillsCardSaid : Prop := Claim7.holds Tryz.pinned (.plain (OpenSpec.ofChange spaceKillsSpec)) spaceKillsCard

/-- THE TIED CARD OF 'quartermasterlaw17.SpaceActs'. -/
def spaceActsCard : Claim7 := { stood := { row := spaceActsRow, standIns := [], harness := (true, "46c981935fdbb8f731de0b3e23d509c9324a65cb8423fa6168ae4048fd4c3ee3"), looks := false }, kinds := [], alts := [], laidByText := true, laidKinds := [.data, .data, .data], laidTests := true, laidLooks := .later }
def SpaceActsCardSaid : Prop := Claim7.holds Tryz.pinned (.plain (OpenSpec.ofChange spaceActsSpec)) spaceActsCard

/-- THE TIED CARD OF 'quartermasterlaw17.SpaceBack'. -/
def spaceBackCard : Claim7 := { stood := { row := spaceBackRow, standIns := [], harness := (true, "46c981935fdbb8f731de0b3e23d509c9324a65cb8423fa6168ae4048fd4c3ee3"), looks := false }, kinds := [], alts := [], laidByText := true, laidKinds := [.data, .data, .data], laidTests := true, laidLooks := .later }
def SpaceBackCardSaid : Prop := Claim7.holds Tryz.pinned (.plain (OpenSpec.ofChange spaceBackSpec)) spaceBackCard

/-- THE TIED CARD OF 'quartermasterlaw17.SpaceCharge'. -/
def spaceChargeCard : Claim7 := { stood := { row := spaceChargeRow, standIns := [], harness := (true, "46c981935fdbb8f731de0b3e23d509c9324a65cb8423fa6168ae4048fd4c3ee3"), looks := false }, kinds := [], alts := [], laidByText := true, laidKinds := [.data, .data, .data], laidTests := true, laidLooks := .later }
def SpaceChargeCardSaid : Prop := Claim7.holds Tryz.pinned (.plain (OpenSpec.ofChange spaceChargeSpec)) spaceChargeCard

/-- THE TIED CARD OF 'quartermasterlaw17.SpaceFails'. -/
def spaceFailsCard : Claim7 := { stood := { row := spaceFailsRow, standIns := [], harness := (true, "46c981935fdbb8f731de0b3e23d509c9324a65cb8423fa6168ae4048fd4c3ee3"), looks := false }, kinds := [], alts := [], laidByText := true, laidKinds := [.data, .data, .data], laidTests := true, laidLooks := .later }
def SpaceFailsCardSaid : Prop := Claim7.holds Tryz.pinned (.plain (OpenSpec.ofChange spaceFailsSpec)) spaceFailsCard

/-- THE SECOND FORM's CARD OF 'quartermasterlaw17.SpaceChain'. -/
def spaceChainUptoCard : Claim7 := { stood := { row := spaceChainUptoRow, standIns := [], harness := (true, "46c981935fdbb8f731de0b3e23d509c9324a65cb8423fa6168ae4048fd4c3ee3"), looks := false }, kinds := [], alts := [], laidByText := true, laidKinds := [.data, .data, .data], laidTests := true, laidLooks := .later }
def SpaceChainUptoCardSaid : Prop := Claim7.holds Tryz.pinned (.plain (OpenSpec.upto spaceChainSpec)) spaceChainUptoCard

/-- THE SECOND FORM's CARD OF 'quartermasterlaw17.SpaceGrants'. -/
def spaceGrantsUptoCard : Claim7 := { stood := { row := spaceGrantsUptoRow, standIns := [], harness := (true, "46c981935fdbb8f731de0b3e23d509c9324a65cb8423fa6168ae4048fd4c3ee3"), looks := false }, kinds := [], alts := [], laidByText := true, laidKinds := [.data, .data, .data], laidTests := true, laidLooks := .later }
def SpaceGrantsUptoCardSaid : Prop := Claim7.holds Tryz.pinned (.plain (OpenSpec.upto spaceGrantsSpec)) spaceGrantsUptoCard

/-- THE SECOND FORM's CARD OF 'quartermasterlaw17.SpaceItems'. -/
def spaceItemsUptoCard : Claim7 := { stood := { row := spaceItemsUptoRow, standIns := [], harness := (true, "46c981935fdbb8f731de0b3e23d509c9324a65cb8423fa6168ae4048fd4c3ee3"), looks := false }, kinds := [], alts := [], laidByText := true, laidKinds := [.data, .data, .data], laidTests := true, laidLooks := .later }
def SpaceItemsUptoCardSaid : Prop := Claim7.holds Tryz.pinned (.plain (OpenSpec.upto spaceItemsSpec)) spaceItemsUptoCard

/-- THE SECOND FORM's CARD OF 'quartermasterlaw17.SpaceRights'. -/
def spaceRightsUptoCard : Claim7 := { stood := { row := spaceRightsUptoRow, standIns := [], harness := (true, "46c981935fdbb8f731de0b3e23d509c9324a65cb8423fa6168ae4048fd4c3ee3"), looks := false }, kinds := [], alts := [], laidByText := true, laidKinds := [.data, .data, .data], laidTests := true, laidLooks := .later }
def SpaceRightsUptoCardSaid : Prop := Claim7.holds Tryz.pinned (.plain (OpenSpec.upto spaceRightsSpec)) spaceRightsUptoCard

/-- THE SECOND FORM's CARD OF 'quartermasterlaw17.SpaceMoves'. -/
def spaceMovesUptoCard : Claim7 := { stood := { row := spaceMovesUptoRow, standIns := [], harness := (true, "46c981935fdbb8f731de0b3e23d509c9324a65cb8423fa6168ae4048fd4c3ee3"), looks := false }, kinds := [], alts := [], laidByText := true, laidKinds := [.data, .data, .data], laidTests := true, laidLooks := .later }
def SpaceMovesUptoCardSaid : Prop := Claim7.holds Tryz.pinned (.plain (OpenSpec.upto spaceMovesSpec)) spaceMovesUptoCard

/-- THE SECOND FORM's CARD OF 'quartermasterlaw17.SpaceRevokes'. -/
def spaceRevokesUptoCard : Claim7 := { stood := { row := spaceRevokesUptoRow, standIns := [], harness := (true, "46c981935fdbb8f731de0b3e23d509c9324a65cb8423fa6168ae4048fd4c3ee3"), looks := false }, kinds := [], alts := [], laidByText := true, laidKinds := [.data, .data, .data], laidTests := true, laidLooks := .later }
def SpaceRevokesUptoCardSaid : Prop := Claim7.holds Tryz.pinned (.plain (OpenSpec.upto spaceRevokesSpec)) spaceRevokesUptoCard

/-- THE SECOND FORM's CARD OF 'quartermasterlaw17.SpaceKills'. -/
def spaceKillsUptoCard : Claim7 := { stood := { row := spaceKillsUptoRow, standIns := [], harness := (true, "46c981935fdbb8f731de0b3e23d509c9324a65cb8423fa6168ae4048fd4c3ee3"), looks := false }, kinds := [], alts := [], laidByText := true, laidKinds := [.data, .data, .data], laidTests := true, laidLooks := .later }
def SpaceKillsUptoCardSaid : Prop := Claim7.holds Tryz.pinned (.plain (OpenSpec.upto spaceKillsSpec)) spaceKillsUptoCard

/-- THE SECOND FORM's CARD OF 'quartermasterlaw17.SpaceActs'. -/
def spaceActsUptoCard : Claim7 := { stood := { row := spaceActsUptoRow, standIns := [], harness := (true, "46c981935fdbb8f731de0b3e23d509c9324a65cb8423fa6168ae4048fd4c3ee3"), looks := false }, kinds := [], alts := [], laidByText := true, laidKinds := [.data, .data, .data], laidTests := true, laidLooks := .later }
def SpaceActsUptoCardSaid : Prop := Claim7.holds Tryz.pinned (.plain (OpenSpec.upto spaceActsSpec)) spaceActsUptoCard

/-- THE SECOND FORM's CARD OF 'quartermasterlaw17.SpaceBack'. -/
def spaceBackUptoCard : Claim7 := { stood := { row := spaceBackUptoRow, standIns := [], harness := (true, "46c981935fdbb8f731de0b3e23d509c9324a65cb8423fa6168ae4048fd4c3ee3"), looks := false }, kinds := [], alts := [], laidByText := true, laidKinds := [.data, .data, .data], laidTests := true, laidLooks := .later }
def SpaceBackUptoCardSaid : Prop := Claim7.holds Tryz.pinned (.plain (OpenSpec.upto spaceBackSpec)) spaceBackUptoCard

/-- THE SECOND FORM's CARD OF 'quartermasterlaw17.SpaceCharge'. -/
def spaceChargeUptoCard : Claim7 := { stood := { row := spaceChargeUptoRow, standIns := [], harness := (true, "46c981935fdbb8f731de0b3e23d509c9324a65cb8423fa6168ae4048fd4c3ee3"), looks := false }, kinds := [], alts := [], laidByText := true, laidKinds := [.data, .data, .data], laidTests := true, laidLooks := .later }
def SpaceChargeUptoCardSaid : Prop := Claim7.holds Tryz.pinned (.plain (OpenSpec.upto spaceChargeSpec)) spaceChargeUptoCard

/-- THE SECOND FORM's CARD OF 'quartermasterlaw17.SpaceFails'. -/
def spaceFailsUptoCard : Claim7 := { stood := { row := spaceFailsUptoRow, standIns := [], harness := (true, "46c981935fdbb8f731de0b3e23d509c9324a65cb8423fa6168ae4048fd4c3ee3"), looks := false }, kinds := [], alts := [], laidByText := true, laidKinds := [.data, .data, .data], laidTests := true, laidLooks := .later }
def SpaceFailsUptoCardSaid : Prop := Claim7.holds Tryz.pinned (.plain (OpenSpec.upto spaceFailsSpec)) spaceFailsUptoCard
end Rows
end Go.Proofs.YtlakjlmaboioiaaGreatDoor
