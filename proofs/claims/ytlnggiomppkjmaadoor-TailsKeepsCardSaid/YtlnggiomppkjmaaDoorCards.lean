/-
  DERIVED. GIVEN WITH THE SEED: THE CARDS: each row of YtlnggiomppkjmaaDoorRows.lean that lists a variable, with what it lists TIED to the program's text (the seventh form; the later family's looks); each row that meets fmt, with fmt's text TOLD by the authors' own Lean function (tested against real Go, not proved from fmt's source: count such statements apart). THE CARD IS WHAT COUNTS. Prove the row's statement (the work); the ties are given (YtlnggiomppkjmaaDoorTie.lean); close each card by the builder's one call (the guide's Derived/Test/ToyasCard.lean, 'card_holds'). Laid BY PROGRAM, IN A SANDBOX (cutbox-door.mjs). By AI agents, Wed Nov 11 2026. No macro, syntax, notation, axiom, sorry.
-/
import Derived.Test.YtlnggiomppkjmaaDoorRows
import GoSem.ClaimSeven
namespace Go.Proofs.YtlnggiomppkjmaaDoor
namespace Rows

/-- THE TIED CARD OF 'estreatlaw16.TailsChooses'. -/
def tailsChoosesCard : Claim7 := { stood := { row := tailsChoosesRow, standIns := [], harness := (true, "4834214849311e90fc269828b69b58623582a31d1ac412131e0cdb1495178a7f"), looks := false }, kinds := [], alts := [], laidByText := true, laidKinds := [.data, .data, .data], laidTests := true, laidLooks := .later }
def TailsChoosesCardSaid : Prop := Claim7.holds Tryd.pinned (.plain (OpenSpec.ofChange tailsChoosesSpec)) tailsChoosesCard

/-- THE TIED CARD OF 'estreatlaw16.TailsKeeps'. -/
def tailsKeepsCard : Claim7 := { stood := { row := tailsKeepsRow, standIns := [], harness := (true, "4834214849311e90fc269828b69b58623582a31d1ac412131e0cdb1495178a7f"), looks := false }, kinds := [], alts := [], laidByText := true, laidKinds := [.data, .data, .data], laidTests := true, laidLooks := .later }
def TailsKeepsCardSaid : Prop := Claim7.holds Tryd.pinned (.plain (OpenSpec.ofChange tailsKeepsSpec)) tailsKeepsCard

/-- THE TIED CARD OF 'estreatlaw16.TailsOrder'. -/
def tailsOrderCard : Claim7 := { stood := { row := tailsOrderRow, standIns := [], harness := (true, "4834214849311e90fc269828b69b58623582a31d1ac412131e0cdb1495178a7f"), looks := false }, kinds := [], alts := [], laidByText := true, laidKinds := [.data, .data, .data], laidTests := true, laidLooks := .later }
def TailsOrderCardSaid : Prop := Claim7.holds Tryd.pinned (.plain (OpenSpec.ofChange tailsOrderSpec)) tailsOrderCard

/-- THE TIED CARD OF 'estreatlaw16.TailsMost'. -/
def tailsMostCard : Claim7 := { stood := { row := tailsMostRow, standIns := [], harness := (true, "4834214849311e90fc269828b69b58623582a31d1ac412131e0cdb1495178a7f"), looks := false }, kinds := [], alts := [], laidByText := true, laidKinds := [.data, .data, .data], laidTests := true, laidLooks := .later }
def TailsMostCardSaid : Prop := Claim7.holds Tryd.pinned (.plain (OpenSpec.ofChange tailsMostSpec)) tailsMostCard

/-- THE TIED CARD OF 'estreatlaw16.TailsKept'. -/
def tailsKeptCard : Claim7 := { stood := { row := tailsKeptRow, standIns := [], harness := (true, "4834214849311e90fc269828b69b58623582a31d1ac412131e0cdb1495178a7f"), looks := false }, kinds := [], alts := [], laidByText := true, laidKinds := [.data, .data, .data], laidTests := true, laidLooks := .later }
def TailsKeptCardSaid : Prop := Claim7.holds Tryd.pinned (.plain (OpenSpec.ofChange tailsKeptSpec)) tailsKeptCard

/-- THE SECOND FORM's CARD OF 'estreatlaw16.TailsChooses'. -/
def tailsChoosesUptoCard : Claim7 := { stood := { row := tailsChoosesUptoRow, standIns := [], harness := (true, "4834214849311e90fc269828b69b58623582a31d1ac412131e0cdb1495178a7f"), looks := false }, kinds := [], alts := [], laidByText := true, laidKinds := [.data, .data, .data], laidTests := true, laidLooks := .later }
def TailsChoosesUptoCardSaid : Prop := Claim7.holds Tryd.pinned (.plain (OpenSpec.upto tailsChoosesSpec)) tailsChoosesUptoCard

/-- THE SECOND FORM's CARD OF 'estreatlaw16.TailsKeeps'. -/
def tailsKeepsUptoCard : Claim7 := { stood := { row := tailsKeepsUptoRow, standIns := [], harness := (true, "4834214849311e90fc269828b69b58623582a31d1ac412131e0cdb1495178a7f"), looks := false }, kinds := [], alts := [], laidByText := true, laidKinds := [.data, .data, .data], laidTests := true, laidLooks := .later }
def TailsKeepsUptoCardSaid : Prop := Claim7.holds Tryd.pinned (.plain (OpenSpec.upto tailsKeepsSpec)) tailsKeepsUptoCard

/-- THE SECOND FORM's CARD OF 'estreatlaw16.TailsOrder'. -/
def tailsOrderUptoCard : Claim7 := { stood := { row := tailsOrderUptoRow, standIns := [], harness := (true, "4834214849311e90fc269828b69b58623582a31d1ac412131e0cdb1495178a7f"), looks := false }, kinds := [], alts := [], laidByText := true, laidKinds := [.data, .data, .data], laidTests := true, laidLooks := .later }
def TailsOrderUptoCardSaid : Prop := Claim7.holds Tryd.pinned (.plain (OpenSpec.upto tailsOrderSpec)) tailsOrderUptoCard

/-- THE SECOND FORM's CARD OF 'estreatlaw16.TailsMost'. -/
def tailsMostUptoCard : Claim7 := { stood := { row := tailsMostUptoRow, standIns := [], harness := (true, "4834214849311e90fc269828b69b58623582a31d1ac412131e0cdb1495178a7f"), looks := false }, kinds := [], alts := [], laidByText := true, laidKinds := [.data, .data, .data], laidTests := true, laidLooks := .later }
def TailsMostUptoCardSaid : Prop := Claim7.holds Tryd.pinned (.plain (OpenSpec.upto tailsMostSpec)) tailsMostUptoCard

/-- THE SECOND FORM's CARD OF 'estreatlaw16.TailsKept'. -/
def tailsKeptUptoCard : Claim7 := { stood := { row := tailsKeptUptoRow, standIns := [], harness := (true, "4834214849311e90fc269828b69b58623582a31d1ac412131e0cdb1495178a7f"), looks := false }, kinds := [], alts := [], laidByText := true, laidKinds := [.data, .data, .data], laidTests := true, laidLooks := .later }
def TailsKeptUptoCardSaid : Prop := Claim7.holds Tryd.pinned (.plain (OpenSpec.upto tailsKeptSpec)) tailsKeptUptoCard
end Rows
end Go.Proofs.YtlnggiomppkjmaaDoor
