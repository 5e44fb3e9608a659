/-
  DERIVED. GIVEN WITH THE SEED: THE CARDS: each row of YtbjlgbejbolohaaDoorRows.lean that lists a variable, with what it lists TIED to the program's text (the seventh form; the later family's looks); each row that meets fmt, with fmt's text TOLD by the authors' own Lean function (tested against real Go, not proved from fmt's source: count such statements apart). THE CARD IS WHAT COUNTS. Prove the row's statement (the work); the ties are given (YtbjlgbejbolohaaDoorTie.lean); close each card by the builder's one call (the guide's Derived/Test/ToyasCard.lean, 'card_holds'). Laid BY PROGRAM, IN A SANDBOX (cutbox-door.mjs). By AI agents, Wed Nov 11 2026. No macro, syntax, notation, axiom, sorry.
-/
import Derived.Test.YtbjlgbejbolohaaDoorRows
import GoSem.ClaimSeven
namespace Go.Proofs.YtbjlgbejbolohaaDoor
namespace Rows

/-- THE TIED CARD OF 'estreattop.TopSigned'. -/
def topSignedCard : Claim7 := { stood := { row := topSignedRow, standIns := [], harness := (true, "5b83b7c0950014c4f8a0d267e0690128c1938fdfc9365c124a70c0eaa6d97317"), looks := false }, kinds := [], alts := [], laidByText := true, laidKinds := [.data, .data, .data], laidTests := true, laidLooks := .later }
def TopSignedCardSaid : Prop := Claim7.holds Tryd.pinned (.plain (OpenSpec.ofChange topSignedSpec)) topSignedCard

/-- THE SECOND FORM's CARD OF 'estreattop.TopSigned'. -/
def topSignedUptoCard : Claim7 := { stood := { row := topSignedUptoRow, standIns := [], harness := (true, "5b83b7c0950014c4f8a0d267e0690128c1938fdfc9365c124a70c0eaa6d97317"), looks := false }, kinds := [], alts := [], laidByText := true, laidKinds := [.data, .data, .data], laidTests := true, laidLooks := .later }
def TopSignedUptoCardSaid : Prop := Claim7.holds Tryd.pinned (.plain (OpenSpec.upto topSignedSpec)) topSignedUptoCard
end Rows
end Go.Proofs.YtbjlgbejbolohaaDoor
