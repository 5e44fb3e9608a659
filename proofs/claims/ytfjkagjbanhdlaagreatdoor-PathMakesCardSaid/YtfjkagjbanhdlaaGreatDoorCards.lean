/-
  DERIVED. GIVEN WITH THE SEED: THE CARDS: each row of YtfjkagjbanhdlaaGreatDoorRows.lean that lists a variable, with what it lists TIED to the program's text (the seventh form; the later family's looks); each row that meets fmt, with fmt's text TOLD by the authors' own Lean function (tested against real Go, not proved from fmt's source: count such statements apart). THE CARD IS WHAT COUNTS. Prove the row's statement (the work); the ties are given (YtfjkagjbanhdlaaGreatDoorTie.lean); close each card by the builder's one call (the guide's Derived/Test/ToyasCard.lean, 'card_holds'). Laid BY PROGRAM, IN A SANDBOX (cutbox-door.mjs). By AI agents, Wed Nov 11 2026. No macro, syntax, notation, axiom, sorry.
-/
import Derived.Test.YtfjkagjbanhdlaaGreatDoorRows
import GoSem.ClaimSeven
namespace Go.Proofs.YtfjkagjbanhdlaaGreatDoor
namespace Rows

/-- THE TIED CARD OF 'estreatlaw14.PathMakes'. -/
def pathMakesCard : Claim7 := { stood := { row := pathMakesRow, standIns := [], harness := (true, "99ec83b448b072077304c662c0de092844f66ce4238f0cfa3fc054998d7e1aa0"), looks := false }, kinds := [], alts := [], laidByText := true, laidKinds := [.data, .data, .data, .data], laidTests := true, laidLooks := .later }
def PathMakesCardSaid : Prop := Claim7.holds Tryz.pinned (.plain (OpenSpec.ofChange pathMakesSpec)) pathMakesCard

/-- THE TIED CARD OF 'estreatlaw14.PathVerifies'. -/
def pathVerifiesCard : Claim7 := { stood := { row := pathVerifiesRow, standIns := [], harness := (true, "99ec83b448b072077304c662c0de092844f66ce4238f0cfa3fc054998d7e1aa0"), looks := false }, kinds := [], alts := [], laidByText := true, laidKinds := [.data, .data, .data, .data], laidTests := true, laidLooks := .later }
def PathVerifiesCardSaid : Prop := Claim7.holds Tryz.pinned (.plain (OpenSpec.ofChange pathVerifiesSpec)) pathVerifiesCard

/-- THE SECOND FORM's CARD OF 'estreatlaw14.PathMakes'. -/
def pathMakesUptoCard : Claim7 := { stood := { row := pathMakesUptoRow, standIns := [], harness := (true, "99ec83b448b072077304c662c0de092844f66ce4238f0cfa3fc054998d7e1aa0"), looks := false }, kinds := [], alts := [], laidByText := true, laidKinds := [.data, .data, .data, .data], laidTests := true, laidLooks := .later }
def PathMakesUptoCardSaid : Prop := Claim7.holds Tryz.pinned (.plain (OpenSpec.upto pathMakesSpec)) pathMakesUptoCard

/-- THE SECOND FORM's CARD OF 'estreatlaw14.PathVerifies'. -/
def pathVerifiesUptoCard : Claim7 := { stood := { row := pathVerifiesUptoRow, standIns := [], harness := (true, "99ec83b448b072077304c662c0de092844f66ce4238f0cfa3fc054998d7e1aa0"), looks := false }, kinds := [], alts := [], laidByText := true, laidKinds := [.data, .data, .data, .data], laidTests := true, laidLooks := .later }
def PathVerifiesUptoCardSaid : Prop := Claim7.holds Tryz.pinned (.plain (OpenSpec.upto pathVerifiesSpec)) pathVerifiesUptoCard
end Rows
end Go.Proofs.YtfjkagjbanhdlaaGreatDoor
