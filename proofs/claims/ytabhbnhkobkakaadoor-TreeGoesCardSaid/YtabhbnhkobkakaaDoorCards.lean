/-
  DERIVED. GIVEN WITH THE SEED: THE CARDS: each row of YtabhbnhkobkakaaDoorRows.lean that lists a variable, with what it lists TIED to the program's text (the seventh form; the later family's looks); each row that meets fmt, with fmt's text TOLD by the authors' own Lean function (tested against real Go, not proved from fmt's source: count such statements apart). THE CARD IS WHAT COUNTS. Prove the row's statement (the work); the ties are given (YtabhbnhkobkakaaDoorTie.lean); close each card by the builder's one call (the guide's Derived/Test/ToyasCard.lean, 'card_holds'). Laid BY PROGRAM, IN A SANDBOX (cutbox-door.mjs). By AI agents, Wed Nov 11 2026. No macro, syntax, notation, axiom, sorry.
-/
import Derived.Test.YtabhbnhkobkakaaDoorRows
import GoSem.ClaimSeven
namespace Go.Proofs.YtabhbnhkobkakaaDoor
namespace Rows

/-- THE TIED CARD OF 'estreatlaw03.TreeRoots'. -/
def treeRootsCard : Claim7 := { stood := { row := treeRootsRow, standIns := [], harness := (true, "b75c6d91873f64bda9656c4e5567a44aaef6adadaae2519fb6a4187272d27960"), looks := false }, kinds := [], alts := [], laidByText := true, laidKinds := [.data, .data, .data, .data], laidTests := true, laidLooks := .later }
def TreeRootsCardSaid : Prop := Claim7.holds Tryd.pinned (.plain (OpenSpec.ofChange treeRootsSpec)) treeRootsCard

/-- THE TIED CARD OF 'estreatlaw03.TreeIncludes'. -/
def treeIncludesCard : Claim7 := { stood := { row := treeIncludesRow, standIns := [], harness := (true, "b75c6d91873f64bda9656c4e5567a44aaef6adadaae2519fb6a4187272d27960"), looks := false }, kinds := [], alts := [], laidByText := true, laidKinds := [.data, .data, .data, .data], laidTests := true, laidLooks := .later }
def TreeIncludesCardSaid : Prop := Claim7.holds Tryd.pinned (.plain (OpenSpec.ofChange treeIncludesSpec)) treeIncludesCard

/-- THE TIED CARD OF 'estreatlaw03.TreeGoes'. -/
def treeGoesCard : Claim7 := { stood := { row := treeGoesRow, standIns := [], harness := (true, "b75c6d91873f64bda9656c4e5567a44aaef6adadaae2519fb6a4187272d27960"), looks := false }, kinds := [], alts := [], laidByText := true, laidKinds := [.data, .data, .data, .data], laidTests := true, laidLooks := .later }
def TreeGoesCardSaid : Prop := Claim7.holds Tryd.pinned (.plain (OpenSpec.ofChange treeGoesSpec)) treeGoesCard

/-- THE TIED CARD OF 'estreatlaw03.TreeShort'. -/
def treeShortCard : Claim7 := { stood := { row := treeShortRow, standIns := [], harness := (true, "b75c6d91873f64bda9656c4e5567a44aaef6adadaae2519fb6a4187272d27960"), looks := false }, kinds := [], alts := [], laidByText := true, laidKinds := [.data, .data, .data], laidTests := true, laidLooks := .later }
def TreeShortCardSaid : Prop := Claim7.holds Tryd.pinned (.plain (OpenSpec.ofChange treeShortSpec)) treeShortCard

/-- THE TIED CARD OF 'estreatlaw03.TreeLast'. -/
def treeLastCard : Claim7 := { stood := { row := treeLastRow, standIns := [], harness := (true, "b75c6d91873f64bda9656c4e5567a44aaef6adadaae2519fb6a4187272d27960"), looks := false }, kinds := [], alts := [], laidByText := true, laidKinds := [.data, .data, .data], laidTests := true, laidLooks := .later }
def TreeLastCardSaid : Prop := Claim7.holds Tryd.pinned (.plain (OpenSpec.ofChange treeLastSpec)) treeLastCard

/-- THE TIED CARD OF 'estreatlaw03.TreeSplits'. -/
def treeSplitsCard : Claim7 := { stood := { row := treeSplitsRow, standIns := [], harness := (true, "b75c6d91873f64bda9656c4e5567a44aaef6adadaae2519fb6a4187272d27960"), looks := false }, kinds := [], alts := [], laidByText := true, laidKinds := [.data, .data, .data], laidTests := true, laidLooks := .later }
def TreeSplitsCardSaid : Prop := Claim7.holds Tryd.pinned (.plain (OpenSpec.ofChange treeSplitsSpec)) treeSplitsCard

/-- THE TIED CARD OF 'estreatlaw03.TreeHalves'. -/
def treeHalvesCard : Claim7 := { stood := { row := treeHalvesRow, standIns := [], harness := (true, "b75c6d91873f64bda9656c4e5567a44aaef6adadaae2519fb6a4187272d27960"), looks := false }, kinds := [], alts := [], laidByText := true, laidKinds := [.data, .data, .data], laidTests := true, laidLooks := .later }
def TreeHalvesCardSaid : Prop := Claim7.holds Tryd.pinned (.plain (OpenSpec.ofChange treeHalvesSpec)) treeHalvesCard

/-- THE SECOND FORM's CARD OF 'estreatlaw03.TreeRoots'. -/
def treeRootsUptoCard : Claim7 := { stood := { row := treeRootsUptoRow, standIns := [], harness := (true, "b75c6d91873f64bda9656c4e5567a44aaef6adadaae2519fb6a4187272d27960"), looks := false }, kinds := [], alts := [], laidByText := true, laidKinds := [.data, .data, .data, .data], laidTests := true, laidLooks := .later }
def TreeRootsUptoCardSaid : Prop := Claim7.holds Tryd.pinned (.plain (OpenSpec.upto treeRootsSpec)) treeRootsUptoCard

/-- THE SECOND FORM's CARD OF 'estreatlaw03.TreeIncludes'. -/
def treeIncludesUptoCard : Claim7 := { stood := { row := treeIncludesUptoRow, standIns := [], harness := (true, "b75c6d91873f64bda9656c4e5567a44aaef6adadaae2519fb6a4187272d27960"), looks := false }, kinds := [], alts := [], laidByText := true, laidKinds := [.data, .data, .data, .data], laidTests := true, laidLooks := .later }
def TreeIncludesUptoCardSaid : Prop := Claim7.holds Tryd.pinned (.plain (OpenSpec.upto treeIncludesSpec)) treeIncludesUptoCard

/-- THE SECOND FORM's CARD OF 'estreatlaw03.TreeGoes'. -/
def treeGoesUptoCard : Claim7 := { stood := { row := treeGoesUptoRow, standIns := [], harness := (true, "b75c6d91873f64bda9656c4e5567a44aaef6adadaae2519fb6a4187272d27960"), looks := false }, kinds := [], alts := [], laidByText := true, laidKinds := [.data, .data, .data, .data], laidTests := true, laidLooks := .later }
def TreeGoesUptoCardSaid : Prop := Claim7.holds Tryd.pinned (.plain (OpenSpec.upto treeGoesSpec)) treeGoesUptoCard

/-- THE SECOND FORM's CARD OF 'estreatlaw03.TreeShort'. -/
def treeShortUptoCard : Claim7 := { stood := { row := treeShortUptoRow, standIns := [], harness := (true, "b75c6d91873f64bda9656c4e5567a44aaef6adadaae2519fb6a4187272d27960"), looks := false }, kinds := [], alts := [], laidByText := true, laidKinds := [.data, .data, .data], laidTests := true, laidLooks := .later }
def TreeShortUptoCardSaid : Prop := Claim7.holds Tryd.pinned (.plain (OpenSpec.upto treeShortSpec)) treeShortUptoCard

/-- THE SECOND FORM's CARD OF 'estreatlaw03.TreeLast'. -/
def treeLastUptoCard : Claim7 := { stood := { row := treeLastUptoRow, standIns := [], harness := (true, "b75c6d91873f64bda9656c4e5567a44aaef6adadaae2519fb6a4187272d27960"), looks := false }, kinds := [], alts := [], laidByText := true, laidKinds := [.data, .data, .data], laidTests := true, laidLooks := .later }
def TreeLastUptoCardSaid : Prop := Claim7.holds Tryd.pinned (.plain (OpenSpec.upto treeLastSpec)) treeLastUptoCard

/-- THE SECOND FORM's CARD OF 'estreatlaw03.TreeSplits'. -/
def treeSplitsUptoCard : Claim7 := { stood := { row := treeSplitsUptoRow, standIns := [], harness := (true, "b75c6d91873f64bda9656c4e5567a44aaef6adadaae2519fb6a4187272d27960"), looks := false }, kinds := [], alts := [], laidByText := true, laidKinds := [.data, .data, .data], laidTests := true, laidLooks := .later }
def TreeSplitsUptoCardSaid : Prop := Claim7.holds Tryd.pinned (.plain (OpenSpec.upto treeSplitsSpec)) treeSplitsUptoCard

/-- THE SECOND FORM's CARD OF 'estreatlaw03.TreeHalves'. -/
def treeHalvesUptoCard : Claim7 := { stood := { row := treeHalvesUptoRow, standIns := [], harness := (true, "b75c6d91873f64bda9656c4e5567a44aaef6adadaae2519fb6a4187272d27960"), looks := false }, kinds := [], alts := [], laidByText := true, laidKinds := [.data, .data, .data], laidTests := true, laidLooks := .later }
def TreeHalvesUptoCardSaid : Prop := Claim7.holds Tryd.pinned (.plain (OpenSpec.upto treeHalvesSpec)) treeHalvesUptoCard
end Rows
end Go.Proofs.YtabhbnhkobkakaaDoor
