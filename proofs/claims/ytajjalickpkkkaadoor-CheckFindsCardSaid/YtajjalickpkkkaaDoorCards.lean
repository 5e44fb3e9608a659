/-
  DERIVED. GIVEN WITH THE SEED: THE CARDS: each row of YtajjalickpkkkaaDoorRows.lean that lists a variable, with what it lists TIED to the program's text (the seventh form; the later family's looks); each row that meets fmt, with fmt's text TOLD by the authors' own Lean function (tested against real Go, not proved from fmt's source: count such statements apart). THE CARD IS WHAT COUNTS. Prove the row's statement (the work); the ties are given (YtajjalickpkkkaaDoorTie.lean); close each card by the builder's one call (the guide's Derived/Test/ToyasCard.lean, 'card_holds'). Laid BY PROGRAM, IN A SANDBOX (cutbox-door.mjs). By AI agents, Wed Nov 11 2026. No macro, syntax, notation, axiom, sorry.
-/
import Derived.Test.YtajjalickpkkkaaDoorRows
import GoSem.ClaimSeven
namespace Go.Proofs.YtajjalickpkkkaaDoor
namespace Rows

/-- THE TIED CARD OF 'estreatlaw05.CheckIncludes'. -/
def checkIncludesCard : Claim7 := { stood := { row := checkIncludesRow, standIns := [], harness := (true, "7a5c4d4c462cc2306c63c0891a62a9e1d3da770fea3a6f2ba723c4e45548624f"), looks := false }, kinds := [], alts := [], laidByText := true, laidKinds := [.data, .data, .data, .data], laidTests := true, laidLooks := .later }
def CheckIncludesCardSaid : Prop := Claim7.holds Tryd.pinned (.plain (OpenSpec.ofChange checkIncludesSpec)) checkIncludesCard

/-- THE TIED CARD OF 'estreatlaw05.CheckGoes'. -/
def checkGoesCard : Claim7 := { stood := { row := checkGoesRow, standIns := [], harness := (true, "7a5c4d4c462cc2306c63c0891a62a9e1d3da770fea3a6f2ba723c4e45548624f"), looks := false }, kinds := [], alts := [], laidByText := true, laidKinds := [.data, .data, .data, .data], laidTests := true, laidLooks := .later }
def CheckGoesCardSaid : Prop := Claim7.holds Tryd.pinned (.plain (OpenSpec.ofChange checkGoesSpec)) checkGoesCard

/-- THE TIED CARD OF 'estreatlaw05.CheckClashes'. -/
def checkClashesCard : Claim7 := { stood := { row := checkClashesRow, standIns := [], harness := (true, "7a5c4d4c462cc2306c63c0891a62a9e1d3da770fea3a6f2ba723c4e45548624f"), looks := false }, kinds := [], alts := [], laidByText := true, laidKinds := [.data, .data, .data, .data], laidTests := true, laidLooks := .later }
def CheckClashesCardSaid : Prop := Claim7.holds Tryd.pinned (.plain (OpenSpec.ofChange checkClashesSpec)) checkClashesCard

/-- THE TIED CARD OF 'estreatlaw05.CheckBinds'. -/
def checkBindsCard : Claim7 := { stood := { row := checkBindsRow, standIns := [], harness := (true, "7a5c4d4c462cc2306c63c0891a62a9e1d3da770fea3a6f2ba723c4e45548624f"), looks := false }, kinds := [], alts := [], laidByText := true, laidKinds := [.data, .data, .data], laidTests := true, laidLooks := .later }
def CheckBindsCardSaid : Prop := Claim7.holds Tryd.pinned (.plain (OpenSpec.ofChange checkBindsSpec)) checkBindsCard

/-- THE TIED CARD OF 'estreatlaw05.CheckAlone'. -/
def checkAloneCard : Claim7 := { stood := { row := checkAloneRow, standIns := [], harness := (true, "7a5c4d4c462cc2306c63c0891a62a9e1d3da770fea3a6f2ba723c4e45548624f"), looks := false }, kinds := [], alts := [], laidByText := true, laidKinds := [.data, .data, .data], laidTests := true, laidLooks := .later }
def CheckAloneCardSaid : Prop := Claim7.holds Tryd.pinned (.plain (OpenSpec.ofChange checkAloneSpec)) checkAloneCard

/-- THE TIED CARD OF 'estreatlaw05.CheckTwice'. -/
def checkTwiceCard : Claim7 := { stood := { row := checkTwiceRow, standIns := [], harness := (true, "7a5c4d4c462cc2306c63c0891a62a9e1d3da770fea3a6f2ba723c4e45548624f"), looks := false }, kinds := [], alts := [], laidByText := true, laidKinds := [.data, .data, .data], laidTests := true, laidLooks := .later }
def CheckTwiceCardSaid : Prop := Claim7.holds Tryd.pinned (.plain (OpenSpec.ofChange checkTwiceSpec)) checkTwiceCard

/-- THE TIED CARD OF 'estreatlaw05.CheckFinds'. -/
def checkFindsCard : Claim7 := { stood := { row := checkFindsRow, standIns := [], harness := (true, "7a5c4d4c462cc2306c63c0891a62a9e1d3da770fea3a6f2ba723c4e45548624f"), looks := false }, kinds := [], alts := [], laidByText := true, laidKinds := [.data, .data, .data], laidTests := true, laidLooks := .later }
def CheckFindsCardSaid : Prop := Claim7.holds Tryd.pinned (.plain (OpenSpec.ofChange checkFindsSpec)) checkFindsCard

/-- THE SECOND FORM's CARD OF 'estreatlaw05.CheckIncludes'. -/
def checkIncludesUptoCard : Claim7 := { stood := { row := checkIncludesUptoRow, standIns := [], harness := (true, "7a5c4d4c462cc2306c63c0891a62a9e1d3da770fea3a6f2ba723c4e45548624f"), looks := false }, kinds := [], alts := [], laidByText := true, laidKinds := [.data, .data, .data, .data], laidTests := true, laidLooks := .later }
def CheckIncludesUptoCardSaid : Prop := Claim7.holds Tryd.pinned (.plain (OpenSpec.upto checkIncludesSpec)) checkIncludesUptoCard

/-- THE SECOND FORM's CARD OF 'estreatlaw05.CheckGoes'. -/
def checkGoesUptoCard : Claim7 := { stood := { row := checkGoesUptoRow, standIns := [], harness := (true, "7a5c4d4c462cc2306c63c0891a62a9e1d3da770fea3a6f2ba723c4e45548624f"), looks := false }, kinds := [], alts := [], laidByText := true, laidKinds := [.data, .data, .data, .data], laidTests := true, laidLooks := .later }
def CheckGoesUptoCardSaid : Prop := Claim7.holds Tryd.pinned (.plain (OpenSpec.upto checkGoesSpec)) checkGoesUptoCard

/-- THE SECOND FORM's CARD OF 'estreatlaw05.CheckClashes'. -/
def checkClashesUptoCard : Claim7 := { stood := { row := checkClashesUptoRow, standIns := [], harness := (true, "7a5c4d4c462cc2306c63c0891a62a9e1d3da770fea3a6f2ba723c4e45548624f"), looks := false }, kinds := [], alts := [], laidByText := true, laidKinds := [.data, .data, .data, .data], laidTests := true, laidLooks := .later }
def CheckClashesUptoCardSaid : Prop := Claim7.holds Tryd.pinned (.plain (OpenSpec.upto checkClashesSpec)) checkClashesUptoCard

/-- THE SECOND FORM's CARD OF 'estreatlaw05.CheckBinds'. -/
def checkBindsUptoCard : Claim7 := { stood := { row := checkBindsUptoRow, standIns := [], harness := (true, "7a5c4d4c462cc2306c63c0891a62a9e1d3da770fea3a6f2ba723c4e45548624f"), looks := false }, kinds := [], alts := [], laidByText := true, laidKinds := [.data, .data, .data], laidTests := true, laidLooks := .later }
def CheckBindsUptoCardSaid : Prop := Claim7.holds Tryd.pinned (.plain (OpenSpec.upto checkBindsSpec)) checkBindsUptoCard

/-- THE SECOND FORM's CARD OF 'estreatlaw05.CheckAlone'. -/
def checkAloneUptoCard : Claim7 := { stood := { row := checkAloneUptoRow, standIns := [], harness := (true, "7a5c4d4c462cc2306c63c0891a62a9e1d3da770fea3a6f2ba723c4e45548624f"), looks := false }, kinds := [], alts := [], laidByText := true, laidKinds := [.data, .data, .data], laidTests := true, laidLooks := .later }
def CheckAloneUptoCardSaid : Prop := Claim7.holds Tryd.pinned (.plain (OpenSpec.upto checkAloneSpec)) checkAloneUptoCard

/-- THE SECOND FORM's CARD OF 'estreatlaw05.CheckTwice'. -/
def checkTwiceUptoCard : Claim7 := { stood := { row := checkTwiceUptoRow, standIns := [], harness := (true, "7a5c4d4c462cc2306c63c0891a62a9e1d3da770fea3a6f2ba723c4e45548624f"), looks := false }, kinds := [], alts := [], laidByText := true, laidKinds := [.data, .data, .data], laidTests := true, laidLooks := .later }
def CheckTwiceUptoCardSaid : Prop := Claim7.holds Tryd.pinned (.plain (OpenSpec.upto checkTwiceSpec)) checkTwiceUptoCard

/-- THE SECOND FORM's CARD OF 'estreatlaw05.CheckFinds'. -/
def checkFindsUptoCard : Claim7 := { stood := { row := checkFindsUptoRow, standIns := [], harness := (true, "7a5c4d4c462cc2306c63c0891a62a9e1d3da770fea3a6f2ba723c4e45548624f"), looks := false }, kinds := [], alts := [], laidByText := true, laidKinds := [.data, .data, .data], laidTests := true, laidLooks := .later }
def CheckFindsUptoCardSaid : Prop := Claim7.holds Tryd.pinned (.plain (OpenSpec.upto checkFindsSpec)) checkFindsUptoCard
end Rows
end Go.Proofs.YtajjalickpkkkaaDoor
