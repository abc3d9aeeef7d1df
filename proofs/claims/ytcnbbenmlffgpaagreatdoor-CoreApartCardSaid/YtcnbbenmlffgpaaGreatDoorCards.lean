/-
  DERIVED. GIVEN WITH THE SEED: THE CARDS: each row of YtcnbbenmlffgpaaGreatDoorRows.lean that lists a variable, with what it lists TIED to the program's text (the seventh form; the later family's looks); each row that meets fmt, with fmt's text TOLD by the authors' own Lean function (tested against real Go, not proved from fmt's source: count such statements apart). THE CARD IS WHAT COUNTS. Prove the row's statement (the work); the ties are given (YtcnbbenmlffgpaaGreatDoorTie.lean); close each card by the builder's one call (the guide's Derived/Test/ToyasCard.lean, 'card_holds'). Laid BY PROGRAM, IN A SANDBOX (cutbox-door.mjs). By AI agents, Wed Nov 11 2026. No macro, syntax, notation, axiom, sorry.
-/
import Derived.Test.YtcnbbenmlffgpaaGreatDoorRows
import GoSem.ClaimSeven
namespace Go.Proofs.YtcnbbenmlffgpaaGreatDoor
namespace Rows

/-- THE TIED CARD OF 'quartermasterlaw16.CoreUnder'. -/
def coreUnderCard : Claim7 := { stood := { row := coreUnderRow, standIns := [], harness := (true, "9eeb70a455bfebfe72500bbecc9b58ff50b59a74f18b615be7bcd7dd98533419"), looks := false }, kinds := [], alts := [], laidByText := true, laidKinds := [.data, .data, .data], laidTests := true, laidLooks := .later }
def CoreUnderCardSaid : Prop := Claim7.holds Tryz.pinned (.plain (OpenSpec.ofChange coreUnderSpec)) coreUnderCard

/-- THE TIED CARD OF 'quartermasterlaw16.CoreStale'. -/
def coreStaleCard : Claim7 := { stood := { row := coreStaleRow, standIns := [], harness := (true, "9eeb70a455bfebfe72500bbecc9b58ff50b59a74f18b615be7bcd7dd98533419"), looks := false }, kinds := [], alts := [], laidByText := true, laidKinds := [.data, .data, .data], laidTests := true, laidLooks := .later }
def CoreStaleCardSaid : Prop := Claim7.holds Tryz.pinned (.plain (OpenSpec.ofChange coreStaleSpec)) coreStaleCard

/-- THE TIED CARD OF 'quartermasterlaw16.CoreExact'. -/
def coreExactCard : Claim7 := { stood := { row := coreExactRow, standIns := [], harness := (true, "9eeb70a455bfebfe72500bbecc9b58ff50b59a74f18b615be7bcd7dd98533419"), looks := false }, kinds := [], alts := [], laidByText := true, laidKinds := [.data, .data, .data], laidTests := true, laidLooks := .later }
def CoreExactCardSaid : Prop := Claim7.holds Tryz.pinned (.plain (OpenSpec.ofChange coreExactSpec)) coreExactCard

/-- THE TIED CARD OF 'quartermasterlaw16.CoreGrace'. -/
def coreGraceCard : Claim7 := { stood := { row := coreGraceRow, standIns := [], harness := (true, "9eeb70a455bfebfe72500bbecc9b58ff50b59a74f18b615be7bcd7dd98533419"), looks := false }, kinds := [], alts := [], laidByText := true, laidKinds := [.data, .data, .data], laidTests := true, laidLooks := .later }
def CoreGraceCardSaid : Prop := Claim7.holds Tryz.pinned (.plain (OpenSpec.ofChange coreGraceSpec)) coreGraceCard

/-- THE TIED CARD OF 'quartermasterlaw16.CoreActs'. -/
def coreActsCard : Claim7 := { stood := { row := coreActsRow, standIns := [], harness := (true, "9eeb70a455bfebfe72500bbecc9b58ff50b59a74f18b615be7bcd7dd98533419"), looks := false }, kinds := [], alts := [], laidByText := true, laidKinds := [.data, .data, .data], laidTests := true, laidLooks := .later }
def CoreActsCardSaid : Prop := Claim7.holds Tryz.pinned (.plain (OpenSpec.ofChange coreActsSpec)) coreActsCard

/-- THE TIED CARD OF 'quartermasterlaw16.CoreApart'. -/
def coreApartCard : Claim7 := { stood := { row := coreApartRow, standIns := [], harness := (true, "9eeb70a455bfebfe72500bbecc9b58ff50b59a74f18b615be7bcd7dd98533419"), looks := false }, kinds := [], alts := [], laidByText := true, laidKinds := [.data, .data, .data], laidTests := true, laidLooks := .later }
def CoreApartCardSaid : Prop := Claim7.holds Tryz.pinned (.plain (OpenSpec.ofChange coreApartSpec)) coreApartCard

/-- THE TIED CARD OF 'quartermasterlaw16.CoreCharge'. -/
def coreChargeCard : Claim7 := { stood := { row := coreChargeRow, standIns := [], harness := (true, "9eeb70a455bfebfe72500bbecc9b58ff50b59a74f18b615be7bcd7dd98533419"), looks := false }, kinds := [], alts := [], laidByText := true, laidKinds := [.data, .data, .data], laidTests := true, laidLooks := .later }
def CoreChargeCardSaid : Prop := Claim7.holds Tryz.pinned (.plain (OpenSpec.ofChange coreChargeSpec)) coreChargeCard

/-- THE TIED CARD OF 'quartermasterlaw16.CoreBack'. -/
def coreBackCard : Claim7 := { stood := { row := coreBackRow, standIns := [], harness := (true, "9eeb70a455bfebfe72500bbecc9b58ff50b59a74f18b615be7bcd7dd98533419"), looks := false }, kinds := [], alts := [], laidByText := true, laidKinds := [.data, .data, .data], laidTests := true, laidLooks := .later }
def CoreBackCardSaid : Prop := Claim7.holds Tryz.pinned (.plain (OpenSpec.ofChange coreBackSpec)) coreBackCard

/-- THE TIED CARD OF 'quartermasterlaw16.CoreFails'. -/
def coreFailsCard : Claim7 := { stood := { row := coreFailsRow, standIns := [], harness := (true, "9eeb70a455bfebfe72500bbecc9b58ff50b59a74f18b615be7bcd7dd98533419"), looks := false }, kinds := [], alts := [], laidByText := true, laidKinds := [.data, .data, .data], laidTests := true, laidLooks := .later }
def CoreFailsCardSaid : Prop := Claim7.holds Tryz.pinned (.plain (OpenSpec.ofChange coreFailsSpec)) coreFailsCard

/-- THE SECOND FORM's CARD OF 'quartermasterlaw16.CoreUnder'. -/
def coreUnderUptoCard : Claim7 := { stood := { row := coreUnderUptoRow, standIns := [], harness := (true, "9eeb70a455bfebfe72500bbecc9b58ff50b59a74f18b615be7bcd7dd98533419"), looks := false }, kinds := [], alts := [], laidByText := true, laidKinds := [.data, .data, .data], laidTests := true, laidLooks := .later }
def CoreUnderUptoCardSaid : Prop := Claim7.holds Tryz.pinned (.plain (OpenSpec.upto coreUnderSpec)) coreUnderUptoCard

/-- THE SECOND FORM's CARD OF 'quartermasterlaw16.CoreStale'. -/
def coreStaleUptoCard : Claim7 := { stood := { row := coreStaleUptoRow, standIns := [], harness := (true, "9eeb70a455bfebfe72500bbecc9b58ff50b59a74f18b615be7bcd7dd98533419"), looks := false }, kinds := [], alts := [], laidByText := true, laidKinds := [.data, .data, .data], laidTests := true, laidLooks := .later }
def CoreStaleUptoCardSaid : Prop := Claim7.holds Tryz.pinned (.plain (OpenSpec.upto coreStaleSpec)) coreStaleUptoCard

/-- THE SECOND FORM's CARD OF 'quartermasterlaw16.CoreExact'. -/
def coreExactUptoCard : Claim7 := { stood := { row := coreExactUptoRow, standIns := [], harness := (true, "9eeb70a455bfebfe72500bbecc9b58ff50b59a74f18b615be7bcd7dd98533419"), looks := false }, kinds := [], alts := [], laidByText := true, laidKinds := [.data, .data, .data], laidTests := true, laidLooks := .later }
def CoreExactUptoCardSaid : Prop := Claim7.holds Tryz.pinned (.plain (OpenSpec.upto coreExactSpec)) coreExactUptoCard

/-- THE SECOND FORM's CARD OF 'quartermasterlaw16.CoreGrace'. -/
def coreGraceUptoCard : Claim7 := { stood := { row := coreGraceUptoRow, standIns := [], harness := (true, "9eeb70a455bfebfe72500bbecc9b58ff50b59a74f18b615be7bcd7dd98533419"), looks := false }, kinds := [], alts := [], laidByText := true, laidKinds := [.data, .data, .data], laidTests := true, laidLooks := .later }
def CoreGraceUptoCardSaid : Prop := Claim7.holds Tryz.pinned (.plain (OpenSpec.upto coreGraceSpec)) coreGraceUptoCard

/-- THE SECOND FORM's CARD OF 'quartermasterlaw16.CoreActs'. -/
def coreActsUptoCard : Claim7 := { stood := { row := coreActsUptoRow, standIns := [], harness := (true, "9eeb70a455bfebfe72500bbecc9b58ff50b59a74f18b615be7bcd7dd98533419"), looks := false }, kinds := [], alts := [], laidByText := true, laidKinds := [.data, .data, .data], laidTests := true, laidLooks := .later }
def CoreActsUptoCardSaid : Prop := Claim7.holds Tryz.pinned (.plain (OpenSpec.upto coreActsSpec)) coreActsUptoCard

/-- THE SECOND FORM's CARD OF 'quartermasterlaw16.CoreApart'. -/
def coreApartUptoCard : Claim7 := { stood := { row := coreApartUptoRow, standIns := [], harness := (true, "9eeb70a455bfebfe72500bbecc9b58ff50b59a74f18b615be7bcd7dd98533419"), looks := false }, kinds := [], alts := [], laidByText := true, laidKinds := [.data, .data, .data], laidTests := true, laidLooks := .later }
def CoreApartUptoCardSaid : Prop := Claim7.holds Tryz.pinned (.plain (OpenSpec.upto coreApartSpec)) coreApartUptoCard

/-- THE SECOND FORM's CARD OF 'quartermasterlaw16.CoreCharge'. -/
def coreChargeUptoCard : Claim7 := { stood := { row := coreChargeUptoRow, standIns := [], harness := (true, "9eeb70a455bfebfe72500bbecc9b58ff50b59a74f18b615be7bcd7dd98533419"), looks := false }, kinds := [], alts := [], laidByText := true, laidKinds := [.data, .data, .data], laidTests := true, laidLooks := .later }
def CoreChargeUptoCardSaid : Prop := Claim7.holds Tryz.pinned (.plain (OpenSpec.upto coreChargeSpec)) coreChargeUptoCard

/-- THE SECOND FORM's CARD OF 'quartermasterlaw16.CoreBack'. -/
def coreBackUptoCard : Claim7 := { stood := { row := coreBackUptoRow, standIns := [], harness := (true, "9eeb70a455bfebfe72500bbecc9b58ff50b59a74f18b615be7bcd7dd98533419"), looks := false }, kinds := [], alts := [], laidByText := true, laidKinds := [.data, .data, .data], laidTests := true, laidLooks := .later }
def CoreBackUptoCardSaid : Prop := Claim7.holds Tryz.pinned (.plain (OpenSpec.upto coreBackSpec)) coreBackUptoCard

/-- THE SECOND FORM's CARD OF 'quartermasterlaw16.CoreFails'. -/
def coreFailsUptoCard : Claim7 := { stood := { row := coreFailsUptoRow, standIns := [], harness := (true, "9eeb70a455bfebfe72500bbecc9b58ff50b59a74f18b615be7bcd7dd98533419"), looks := false }, kinds := [], alts := [], laidByText := true, laidKinds := [.data, .data, .data], laidTests := true, laidLooks := .later }
def CoreFailsUptoCardSaid : Prop := Claim7.holds Tryz.pinned (.plain (OpenSpec.upto coreFailsSpec)) coreFailsUptoCard
end Rows
end Go.Proofs.YtcnbbenmlffgpaaGreatDoor
