/-
  DERIVED. GIVEN WITH THE SEED: THE CARDS: each row of YtoheeojjdpdljaaDoorRows.lean that lists a variable, with what it lists TIED to the program's text (the seventh form; the later family's looks); each row that meets fmt, with fmt's text TOLD by the authors' own Lean function (tested against real Go, not proved from fmt's source: count such statements apart). THE CARD IS WHAT COUNTS. Prove the row's statement (the work); the ties are given (YtoheeojjdpdljaaDoorTie.lean); close each card by the builder's one call (the guide's Derived/Test/ToyasCard.lean, 'card_holds'). Laid BY PROGRAM, IN A SANDBOX (cutbox-door.mjs). By AI agents, Wed Nov 11 2026. No macro, syntax, notation, axiom, sorry.
-/
import Derived.Test.YtoheeojjdpdljaaDoorRows
import GoSem.ClaimSeven
namespace Go.Proofs.YtoheeojjdpdljaaDoor
namespace Rows

/-- THE TIED CARD OF 'estreatlaw08.EntryBytes'. -/
def entryBytesCard : Claim7 := { stood := { row := entryBytesRow, standIns := [], harness := (true, "deb164fcd4150e026f3615f56d4010e1f6f7a192805e2f764b80ed29cd41c327"), looks := false }, kinds := [], alts := [], laidByText := true, laidKinds := [.data], laidTests := true, laidLooks := .later }
def EntryBytesCardSaid : Prop := Claim7.holds Tryd.pinned (.plain (OpenSpec.ofChange entryBytesSpec)) entryBytesCard

/-- THE TIED CARD OF 'estreatlaw08.EntryItems'. -/
def entryItemsCard : Claim7 := { stood := { row := entryItemsRow, standIns := [], harness := (true, "deb164fcd4150e026f3615f56d4010e1f6f7a192805e2f764b80ed29cd41c327"), looks := false }, kinds := [], alts := [], laidByText := true, laidKinds := [.data, .data], laidTests := true, laidLooks := .later }
def EntryItemsCardSaid : Prop := Claim7.holds Tryd.pinned (.plain (OpenSpec.ofChange entryItemsSpec)) entryItemsCard

/-- THE TIED CARD OF 'estreatlaw08.EntryReads'. -/
def entryReadsCard : Claim7 := { stood := { row := entryReadsRow, standIns := [], harness := (true, "deb164fcd4150e026f3615f56d4010e1f6f7a192805e2f764b80ed29cd41c327"), looks := false }, kinds := [], alts := [], laidByText := true, laidKinds := [.data], laidTests := true, laidLooks := .later }
def EntryReadsCardSaid : Prop := Claim7.holds Tryd.pinned (.plain (OpenSpec.ofChange entryReadsSpec)) entryReadsCard

/-- THE TIED CARD OF 'estreatlaw08.EntryApart'. -/
def entryApartCard : Claim7 := { stood := { row := entryApartRow, standIns := [], harness := (true, "deb164fcd4150e026f3615f56d4010e1f6f7a192805e2f764b80ed29cd41c327"), looks := false }, kinds := [], alts := [], laidByText := true, laidKinds := [.data], laidTests := true, laidLooks := .later }
def EntryApartCardSaid : Prop := Claim7.holds Tryd.pinned (.plain (OpenSpec.ofChange entryApartSpec)) entryApartCard

/-- THE TIED CARD OF 'estreatlaw08.EntryKinds'. -/
def entryKindsCard : Claim7 := { stood := { row := entryKindsRow, standIns := [], harness := (true, "deb164fcd4150e026f3615f56d4010e1f6f7a192805e2f764b80ed29cd41c327"), looks := false }, kinds := [], alts := [], laidByText := true, laidKinds := [.data], laidTests := true, laidLooks := .later }
def EntryKindsCardSaid : Prop := Claim7.holds Tryd.pinned (.plain (OpenSpec.ofChange entryKindsSpec)) entryKindsCard

/-- THE SECOND FORM's CARD OF 'estreatlaw08.EntryBytes'. -/
def entryBytesUptoCard : Claim7 := { stood := { row := entryBytesUptoRow, standIns := [], harness := (true, "deb164fcd4150e026f3615f56d4010e1f6f7a192805e2f764b80ed29cd41c327"), looks := false }, kinds := [], alts := [], laidByText := true, laidKinds := [.data], laidTests := true, laidLooks := .later }
def EntryBytesUptoCardSaid : Prop := Claim7.holds Tryd.pinned (.plain (OpenSpec.upto entryBytesSpec)) entryBytesUptoCard

/-- THE SECOND FORM's CARD OF 'estreatlaw08.EntryItems'. -/
def entryItemsUptoCard : Claim7 := { stood := { row := entryItemsUptoRow, standIns := [], harness := (true, "deb164fcd4150e026f3615f56d4010e1f6f7a192805e2f764b80ed29cd41c327"), looks := false }, kinds := [], alts := [], laidByText := true, laidKinds := [.data, .data], laidTests := true, laidLooks := .later }
def EntryItemsUptoCardSaid : Prop := Claim7.holds Tryd.pinned (.plain (OpenSpec.upto entryItemsSpec)) entryItemsUptoCard

/-- THE SECOND FORM's CARD OF 'estreatlaw08.EntryReads'. -/
def entryReadsUptoCard : Claim7 := { stood := { row := entryReadsUptoRow, standIns := [], harness := (true, "deb164fcd4150e026f3615f56d4010e1f6f7a192805e2f764b80ed29cd41c327"), looks := false }, kinds := [], alts := [], laidByText := true, laidKinds := [.data], laidTests := true, laidLooks := .later }
def EntryReadsUptoCardSaid : Prop := Claim7.holds Tryd.pinned (.plain (OpenSpec.upto entryReadsSpec)) entryReadsUptoCard

/-- THE SECOND FORM's CARD OF 'estreatlaw08.EntryApart'. -/
def entryApartUptoCard : Claim7 := { stood := { row := entryApartUptoRow, standIns := [], harness := (true, "deb164fcd4150e026f3615f56d4010e1f6f7a192805e2f764b80ed29cd41c327"), looks := false }, kinds := [], alts := [], laidByText := true, laidKinds := [.data], laidTests := true, laidLooks := .later }
def EntryApartUptoCardSaid : Prop := Claim7.holds Tryd.pinned (.plain (OpenSpec.upto entryApartSpec)) entryApartUptoCard

/-- THE SECOND FORM's CARD OF 'estreatlaw08.EntryKinds'. -/
def entryKindsUptoCard : Claim7 := { stood := { row := entryKindsUptoRow, standIns := [], harness := (true, "deb164fcd4150e026f3615f56d4010e1f6f7a192805e2f764b80ed29cd41c327"), looks := false }, kinds := [], alts := [], laidByText := true, laidKinds := [.data], laidTests := true, laidLooks := .later }
def EntryKindsUptoCardSaid : Prop := Claim7.holds Tryd.pinned (.plain (OpenSpec.upto entryKindsSpec)) entryKindsUptoCard
end Rows
end Go.Proofs.YtoheeojjdpdljaaDoor
