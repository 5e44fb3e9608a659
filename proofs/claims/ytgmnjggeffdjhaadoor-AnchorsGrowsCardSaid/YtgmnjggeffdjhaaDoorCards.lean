/-
  DERIVED. GIVEN WITH THE SEED: THE CARDS: each row of YtgmnjggeffdjhaaDoorRows.lean that lists a variable, with what it lists TIED to the program's text (the seventh form; the later family's looks); each row that meets fmt, with fmt's text TOLD by the authors' own Lean function (tested against real Go, not proved from fmt's source: count such statements apart). THE CARD IS WHAT COUNTS. Prove the row's statement (the work); the ties are given (YtgmnjggeffdjhaaDoorTie.lean); close each card by the builder's one call (the guide's Derived/Test/ToyasCard.lean, 'card_holds'). Laid BY PROGRAM, IN A SANDBOX (cutbox-door.mjs). By AI agents, Wed Nov 11 2026. No macro, syntax, notation, axiom, sorry.
-/
import Derived.Test.YtgmnjggeffdjhaaDoorRows
import GoSem.ClaimSeven
namespace Go.Proofs.YtgmnjggeffdjhaaDoor
namespace Rows

/-- THE TIED CARD OF 'estreatlaw13.AnchorsFinds'. -/
def anchorsFindsCard : Claim7 := { stood := { row := anchorsFindsRow, standIns := [], harness := (true, "0430b2dba3adda1f0d458d7405236ae42c58fa7ca8dd3d017c0902769a5bc61d"), looks := false }, kinds := [], alts := [], laidByText := true, laidKinds := [.data], laidTests := true, laidLooks := .later }
def AnchorsFindsCardSaid : Prop := Claim7.holds Tryd.pinned (.plain (OpenSpec.ofChange anchorsFindsSpec)) anchorsFindsCard

/-- THE TIED CARD OF 'estreatlaw13.AnchorsAdmits'. -/
def anchorsAdmitsCard : Claim7 := { stood := { row := anchorsAdmitsRow, standIns := [], harness := (true, "0430b2dba3adda1f0d458d7405236ae42c58fa7ca8dd3d017c0902769a5bc61d"), looks := false }, kinds := [], alts := [], laidByText := true, laidKinds := [.data, .data], laidTests := true, laidLooks := .later }
def AnchorsAdmitsCardSaid : Prop := Claim7.holds Tryd.pinned (.plain (OpenSpec.ofChange anchorsAdmitsSpec)) anchorsAdmitsCard

/-- THE TIED CARD OF 'estreatlaw13.AnchorsLast'. -/
def anchorsLastCard : Claim7 := { stood := { row := anchorsLastRow, standIns := [], harness := (true, "0430b2dba3adda1f0d458d7405236ae42c58fa7ca8dd3d017c0902769a5bc61d"), looks := false }, kinds := [], alts := [], laidByText := true, laidKinds := [.data], laidTests := true, laidLooks := .later }
def AnchorsLastCardSaid : Prop := Claim7.holds Tryd.pinned (.plain (OpenSpec.ofChange anchorsLastSpec)) anchorsLastCard

/-- THE TIED CARD OF 'estreatlaw13.AnchorsBoth'. -/
def anchorsBothCard : Claim7 := { stood := { row := anchorsBothRow, standIns := [], harness := (true, "0430b2dba3adda1f0d458d7405236ae42c58fa7ca8dd3d017c0902769a5bc61d"), looks := false }, kinds := [], alts := [], laidByText := true, laidKinds := [.data], laidTests := true, laidLooks := .later }
def AnchorsBothCardSaid : Prop := Claim7.holds Tryd.pinned (.plain (OpenSpec.ofChange anchorsBothSpec)) anchorsBothCard

/-- THE TIED CARD OF 'estreatlaw13.AnchorsNext'. -/
def anchorsNextCard : Claim7 := { stood := { row := anchorsNextRow, standIns := [], harness := (true, "0430b2dba3adda1f0d458d7405236ae42c58fa7ca8dd3d017c0902769a5bc61d"), looks := false }, kinds := [], alts := [], laidByText := true, laidKinds := [.data], laidTests := true, laidLooks := .later }
def AnchorsNextCardSaid : Prop := Claim7.holds Tryd.pinned (.plain (OpenSpec.ofChange anchorsNextSpec)) anchorsNextCard

/-- THE TIED CARD OF 'estreatlaw13.AnchorsGrows'. -/
def anchorsGrowsCard : Claim7 := { stood := { row := anchorsGrowsRow, standIns := [], harness := (true, "0430b2dba3adda1f0d458d7405236ae42c58fa7ca8dd3d017c0902769a5bc61d"), looks := false }, kinds := [], alts := [], laidByText := true, laidKinds := [.data, .data, .data], laidTests := true, laidLooks := .later }
def AnchorsGrowsCardSaid : Prop := Claim7.holds Tryd.pinned (.plain (OpenSpec.ofChange anchorsGrowsSpec)) anchorsGrowsCard

/-- THE SECOND FORM's CARD OF 'estreatlaw13.AnchorsFinds'. -/
def anchorsFindsUptoCard : Claim7 := { stood := { row := anchorsFindsUptoRow, standIns := [], harness := (true, "0430b2dba3adda1f0d458d7405236ae42c58fa7ca8dd3d017c0902769a5bc61d"), looks := false }, kinds := [], alts := [], laidByText := true, laidKinds := [.data], laidTests := true, laidLooks := .later }
def AnchorsFindsUptoCardSaid : Prop := Claim7.holds Tryd.pinned (.plain (OpenSpec.upto anchorsFindsSpec)) anchorsFindsUptoCard

/-- THE SECOND FORM's CARD OF 'estreatlaw13.AnchorsAdmits'. -/
def anchorsAdmitsUptoCard : Claim7 := { stood := { row := anchorsAdmitsUptoRow, standIns := [], harness := (true, "0430b2dba3adda1f0d458d7405236ae42c58fa7ca8dd3d017c0902769a5bc61d"), looks := false }, kinds := [], alts := [], laidByText := true, laidKinds := [.data, .data], laidTests := true, laidLooks := .later }
def AnchorsAdmitsUptoCardSaid : Prop := Claim7.holds Tryd.pinned (.plain (OpenSpec.upto anchorsAdmitsSpec)) anchorsAdmitsUptoCard

/-- THE SECOND FORM's CARD OF 'estreatlaw13.AnchorsLast'. -/
def anchorsLastUptoCard : Claim7 := { stood := { row := anchorsLastUptoRow, standIns := [], harness := (true, "0430b2dba3adda1f0d458d7405236ae42c58fa7ca8dd3d017c0902769a5bc61d"), looks := false }, kinds := [], alts := [], laidByText := true, laidKinds := [.data], laidTests := true, laidLooks := .later }
def AnchorsLastUptoCardSaid : Prop := Claim7.holds Tryd.pinned (.plain (OpenSpec.upto anchorsLastSpec)) anchorsLastUptoCard

/-- THE SECOND FORM's CARD OF 'estreatlaw13.AnchorsBoth'. -/
def anchorsBothUptoCard : Claim7 := { stood := { row := anchorsBothUptoRow, standIns := [], harness := (true, "0430b2dba3adda1f0d458d7405236ae42c58fa7ca8dd3d017c0902769a5bc61d"), looks := false }, kinds := [], alts := [], laidByText := true, laidKinds := [.data], laidTests := true, laidLooks := .later }
def AnchorsBothUptoCardSaid : Prop := Claim7.holds Tryd.pinned (.plain (OpenSpec.upto anchorsBothSpec)) anchorsBothUptoCard

/-- THE SECOND FORM's CARD OF 'estreatlaw13.AnchorsNext'. -/
def anchorsNextUptoCard : Claim7 := { stood := { row := anchorsNextUptoRow, standIns := [], harness := (true, "0430b2dba3adda1f0d458d7405236ae42c58fa7ca8dd3d017c0902769a5bc61d"), looks := false }, kinds := [], alts := [], laidByText := true, laidKinds := [.data], laidTests := true, laidLooks := .later }
def AnchorsNextUptoCardSaid : Prop := Claim7.holds Tryd.pinned (.plain (OpenSpec.upto anchorsNextSpec)) anchorsNextUptoCard

/-- THE SECOND FORM's CARD OF 'estreatlaw13.AnchorsGrows'. -/
def anchorsGrowsUptoCard : Claim7 := { stood := { row := anchorsGrowsUptoRow, standIns := [], harness := (true, "0430b2dba3adda1f0d458d7405236ae42c58fa7ca8dd3d017c0902769a5bc61d"), looks := false }, kinds := [], alts := [], laidByText := true, laidKinds := [.data, .data, .data], laidTests := true, laidLooks := .later }
def AnchorsGrowsUptoCardSaid : Prop := Claim7.holds Tryd.pinned (.plain (OpenSpec.upto anchorsGrowsSpec)) anchorsGrowsUptoCard
end Rows
end Go.Proofs.YtgmnjggeffdjhaaDoor
