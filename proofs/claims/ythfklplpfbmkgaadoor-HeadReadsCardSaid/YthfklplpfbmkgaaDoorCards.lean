/-
  DERIVED. GIVEN WITH THE SEED: THE CARDS: each row of YthfklplpfbmkgaaDoorRows.lean that lists a variable, with what it lists TIED to the program's text (the seventh form; the later family's looks); each row that meets fmt, with fmt's text TOLD by the authors' own Lean function (tested against real Go, not proved from fmt's source: count such statements apart). THE CARD IS WHAT COUNTS. Prove the row's statement (the work); the ties are given (YthfklplpfbmkgaaDoorTie.lean); close each card by the builder's one call (the guide's Derived/Test/ToyasCard.lean, 'card_holds'). Laid BY PROGRAM, IN A SANDBOX (cutbox-door.mjs). By AI agents, Wed Nov 11 2026. No macro, syntax, notation, axiom, sorry.
-/
import Derived.Test.YthfklplpfbmkgaaDoorRows
import GoSem.ClaimSeven
namespace Go.Proofs.YthfklplpfbmkgaaDoor
namespace Rows

/-- THE TIED CARD OF 'estreatlaw07.HeadSigns'. -/
def headSignsCard : Claim7 := { stood := { row := headSignsRow, standIns := [], harness := (true, "7d7a9e258f39d07efb5dbeef547c94f797b846c7a0668c8bd7e2e61e707d57c6"), looks := false }, kinds := [], alts := [], laidByText := true, laidKinds := [.data, .data], laidTests := true, laidLooks := .later }
def HeadSignsCardSaid : Prop := Claim7.holds Tryd.pinned (.plain (OpenSpec.ofChange headSignsSpec)) headSignsCard

/-- THE TIED CARD OF 'estreatlaw07.HeadTurned'. -/
def headTurnedCard : Claim7 := { stood := { row := headTurnedRow, standIns := [], harness := (true, "7d7a9e258f39d07efb5dbeef547c94f797b846c7a0668c8bd7e2e61e707d57c6"), looks := false }, kinds := [], alts := [], laidByText := true, laidKinds := [.data], laidTests := true, laidLooks := .later }
def HeadTurnedCardSaid : Prop := Claim7.holds Tryd.pinned (.plain (OpenSpec.ofChange headTurnedSpec)) headTurnedCard

/-- THE TIED CARD OF 'estreatlaw07.HeadApart'. -/
def headApartCard : Claim7 := { stood := { row := headApartRow, standIns := [], harness := (true, "7d7a9e258f39d07efb5dbeef547c94f797b846c7a0668c8bd7e2e61e707d57c6"), looks := false }, kinds := [], alts := [], laidByText := true, laidKinds := [.data], laidTests := true, laidLooks := .later }
def HeadApartCardSaid : Prop := Claim7.holds Tryd.pinned (.plain (OpenSpec.ofChange headApartSpec)) headApartCard

/-- THE TIED CARD OF 'estreatlaw07.HeadLays'. -/
def headLaysCard : Claim7 := { stood := { row := headLaysRow, standIns := [], harness := (true, "7d7a9e258f39d07efb5dbeef547c94f797b846c7a0668c8bd7e2e61e707d57c6"), looks := false }, kinds := [], alts := [], laidByText := true, laidKinds := [.data], laidTests := true, laidLooks := .later }
def HeadLaysCardSaid : Prop := Claim7.holds Tryd.pinned (.plain (OpenSpec.ofChange headLaysSpec)) headLaysCard

/-- THE TIED CARD OF 'estreatlaw07.HeadReads'. -/
def headReadsCard : Claim7 := { stood := { row := headReadsRow, standIns := [], harness := (true, "7d7a9e258f39d07efb5dbeef547c94f797b846c7a0668c8bd7e2e61e707d57c6"), looks := false }, kinds := [], alts := [], laidByText := true, laidKinds := [.data], laidTests := true, laidLooks := .later }
def HeadReadsCardSaid : Prop := Claim7.holds Tryd.pinned (.plain (OpenSpec.ofChange headReadsSpec)) headReadsCard

/-- THE SECOND FORM's CARD OF 'estreatlaw07.HeadSigns'. -/
def headSignsUptoCard : Claim7 := { stood := { row := headSignsUptoRow, standIns := [], harness := (true, "7d7a9e258f39d07efb5dbeef547c94f797b846c7a0668c8bd7e2e61e707d57c6"), looks := false }, kinds := [], alts := [], laidByText := true, laidKinds := [.data, .data], laidTests := true, laidLooks := .later }
def HeadSignsUptoCardSaid : Prop := Claim7.holds Tryd.pinned (.plain (OpenSpec.upto headSignsSpec)) headSignsUptoCard

/-- THE SECOND FORM's CARD OF 'estreatlaw07.HeadTurned'. -/
def headTurnedUptoCard : Claim7 := { stood := { row := headTurnedUptoRow, standIns := [], harness := (true, "7d7a9e258f39d07efb5dbeef547c94f797b846c7a0668c8bd7e2e61e707d57c6"), looks := false }, kinds := [], alts := [], laidByText := true, laidKinds := [.data], laidTests := true, laidLooks := .later }
def HeadTurnedUptoCardSaid : Prop := Claim7.holds Tryd.pinned (.plain (OpenSpec.upto headTurnedSpec)) headTurnedUptoCard

/-- THE SECOND FORM's CARD OF 'estreatlaw07.HeadApart'. -/
def headApartUptoCard : Claim7 := { stood := { row := headApartUptoRow, standIns := [], harness := (true, "7d7a9e258f39d07efb5dbeef547c94f797b846c7a0668c8bd7e2e61e707d57c6"), looks := false }, kinds := [], alts := [], laidByText := true, laidKinds := [.data], laidTests := true, laidLooks := .later }
def HeadApartUptoCardSaid : Prop := Claim7.holds Tryd.pinned (.plain (OpenSpec.upto headApartSpec)) headApartUptoCard

/-- THE SECOND FORM's CARD OF 'estreatlaw07.HeadLays'. -/
def headLaysUptoCard : Claim7 := { stood := { row := headLaysUptoRow, standIns := [], harness := (true, "7d7a9e258f39d07efb5dbeef547c94f797b846c7a0668c8bd7e2e61e707d57c6"), looks := false }, kinds := [], alts := [], laidByText := true, laidKinds := [.data], laidTests := true, laidLooks := .later }
def HeadLaysUptoCardSaid : Prop := Claim7.holds Tryd.pinned (.plain (OpenSpec.upto headLaysSpec)) headLaysUptoCard

/-- THE SECOND FORM's CARD OF 'estreatlaw07.HeadReads'. -/
def headReadsUptoCard : Claim7 := { stood := { row := headReadsUptoRow, standIns := [], harness := (true, "7d7a9e258f39d07efb5dbeef547c94f797b846c7a0668c8bd7e2e61e707d57c6"), looks := false }, kinds := [], alts := [], laidByText := true, laidKinds := [.data], laidTests := true, laidLooks := .later }
def HeadReadsUptoCardSaid : Prop := Claim7.holds Tryd.pinned (.plain (OpenSpec.upto headReadsSpec)) headReadsUptoCard
end Rows
end Go.Proofs.YthfklplpfbmkgaaDoor
