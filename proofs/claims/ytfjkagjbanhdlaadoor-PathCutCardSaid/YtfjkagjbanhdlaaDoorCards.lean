/-
  DERIVED. GIVEN WITH THE SEED: THE CARDS: each row of YtfjkagjbanhdlaaDoorRows.lean that lists a variable, with what it lists TIED to the program's text (the seventh form; the later family's looks); each row that meets fmt, with fmt's text TOLD by the authors' own Lean function (tested against real Go, not proved from fmt's source: count such statements apart). THE CARD IS WHAT COUNTS. Prove the row's statement (the work); the ties are given (YtfjkagjbanhdlaaDoorTie.lean); close each card by the builder's one call (the guide's Derived/Test/ToyasCard.lean, 'card_holds'). Laid BY PROGRAM, IN A SANDBOX (cutbox-door.mjs). By AI agents, Wed Nov 11 2026. No macro, syntax, notation, axiom, sorry.
-/
import Derived.Test.YtfjkagjbanhdlaaDoorRows
import GoSem.ClaimSeven
namespace Go.Proofs.YtfjkagjbanhdlaaDoor
namespace Rows

/-- THE TIED CARD OF 'estreatlaw14.PathFinds'. -/
def pathFindsCard : Claim7 := { stood := { row := pathFindsRow, standIns := [], harness := (true, "862ff8e685f9f966162aa879629f3cacd6343cea3adde5194f16c6dec23f81a9"), looks := false }, kinds := [], alts := [], laidByText := true, laidKinds := [.data, .data, .data], laidTests := true, laidLooks := .later }
def PathFindsCardSaid : Prop := Claim7.holds Tryd.pinned (.plain (OpenSpec.ofChange pathFindsSpec)) pathFindsCard

/-- THE TIED CARD OF 'estreatlaw14.PathCrosses'. -/
def pathCrossesCard : Claim7 := { stood := { row := pathCrossesRow, standIns := [], harness := (true, "862ff8e685f9f966162aa879629f3cacd6343cea3adde5194f16c6dec23f81a9"), looks := false }, kinds := [], alts := [], laidByText := true, laidKinds := [.data, .data, .data], laidTests := true, laidLooks := .later }
def PathCrossesCardSaid : Prop := Claim7.holds Tryd.pinned (.plain (OpenSpec.ofChange pathCrossesSpec)) pathCrossesCard

/-- THE TIED CARD OF 'estreatlaw14.PathCut'. -/
def pathCutCard : Claim7 := { stood := { row := pathCutRow, standIns := [], harness := (true, "862ff8e685f9f966162aa879629f3cacd6343cea3adde5194f16c6dec23f81a9"), looks := false }, kinds := [], alts := [], laidByText := true, laidKinds := [.data, .data, .data], laidTests := true, laidLooks := .later }
def PathCutCardSaid : Prop := Claim7.holds Tryd.pinned (.plain (OpenSpec.ofChange pathCutSpec)) pathCutCard

/-- THE TIED CARD OF 'estreatlaw14.PathBinds'. -/
def pathBindsCard : Claim7 := { stood := { row := pathBindsRow, standIns := [], harness := (true, "862ff8e685f9f966162aa879629f3cacd6343cea3adde5194f16c6dec23f81a9"), looks := false }, kinds := [], alts := [], laidByText := true, laidKinds := [.data, .data, .data], laidTests := true, laidLooks := .later }
def PathBindsCardSaid : Prop := Claim7.holds Tryd.pinned (.plain (OpenSpec.ofChange pathBindsSpec)) pathBindsCard

/-- THE SECOND FORM's CARD OF 'estreatlaw14.PathFinds'. -/
def pathFindsUptoCard : Claim7 := { stood := { row := pathFindsUptoRow, standIns := [], harness := (true, "862ff8e685f9f966162aa879629f3cacd6343cea3adde5194f16c6dec23f81a9"), looks := false }, kinds := [], alts := [], laidByText := true, laidKinds := [.data, .data, .data], laidTests := true, laidLooks := .later }
def PathFindsUptoCardSaid : Prop := Claim7.holds Tryd.pinned (.plain (OpenSpec.upto pathFindsSpec)) pathFindsUptoCard

/-- THE SECOND FORM's CARD OF 'estreatlaw14.PathCrosses'. -/
def pathCrossesUptoCard : Claim7 := { stood := { row := pathCrossesUptoRow, standIns := [], harness := (true, "862ff8e685f9f966162aa879629f3cacd6343cea3adde5194f16c6dec23f81a9"), looks := false }, kinds := [], alts := [], laidByText := true, laidKinds := [.data, .data, .data], laidTests := true, laidLooks := .later }
def PathCrossesUptoCardSaid : Prop := Claim7.holds Tryd.pinned (.plain (OpenSpec.upto pathCrossesSpec)) pathCrossesUptoCard

/-- THE SECOND FORM's CARD OF 'estreatlaw14.PathCut'. -/
def pathCutUptoCard : Claim7 := { stood := { row := pathCutUptoRow, standIns := [], harness := (true, "862ff8e685f9f966162aa879629f3cacd6343cea3adde5194f16c6dec23f81a9"), looks := false }, kinds := [], alts := [], laidByText := true, laidKinds := [.data, .data, .data], laidTests := true, laidLooks := .later }
def PathCutUptoCardSaid : Prop := Claim7.holds Tryd.pinned (.plain (OpenSpec.upto pathCutSpec)) pathCutUptoCard

/-- THE SECOND FORM's CARD OF 'estreatlaw14.PathBinds'. -/
def pathBindsUptoCard : Claim7 := { stood := { row := pathBindsUptoRow, standIns := [], harness := (true, "862ff8e685f9f966162aa879629f3cacd6343cea3adde5194f16c6dec23f81a9"), looks := false }, kinds := [], alts := [], laidByText := true, laidKinds := [.data, .data, .data], laidTests := true, laidLooks := .later }
def PathBindsUptoCardSaid : Prop := Claim7.holds Tryd.pinned (.plain (OpenSpec.upto pathBindsSpec)) pathBindsUptoCard
end Rows
end Go.Proofs.YtfjkagjbanhdlaaDoor
