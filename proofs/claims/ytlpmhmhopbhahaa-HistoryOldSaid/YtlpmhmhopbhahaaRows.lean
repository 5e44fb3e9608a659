/-
  No cell of these rows narrows 'for every input' (looked for: loops, veiled, ifaces, maps, wideKeys, modest, calm, conditions, laid).
  DERIVED. THE GIVEN ROWS OF THIS SEAT. 2 by the template 'for every input the law returns true; each argument reads behind the call as it read before'; 0 by the template 'total and deterministic' (their statements: YtlpmhmhopbhahaaTotals.lean).
  GIVEN WITH THE SEED: the statements are not yours to turn. If you find one false, say at which input.
  Laid BY PROGRAM, IN A SANDBOX (cutbox-rows.mjs): the forced cells as the released guide's own fill.sh prints them over the translation b1b0f30ce14e79ca… (all of the seat's roots in one cut). By AI agents, Wed Nov 11 2026. No macro, syntax, notation, axiom, sorry.
-/
import Derived.Test.YtlpmhmhopbhahaaChecked
import GoSem.Claim
import GoSem.ClaimJoined
import GoSem.ClaimMapViews
import Derived.JoinedTies
import Derived.KernelRfl
namespace Go.Proofs.Ytlpmhmhopbhahaa
/- THE CELL 'sum', in the pinned program and in every row, IS THE sha256 OF THE DUMP (.gsa) THAT YtlpmhmhopbhahaaProg.lean LOADS. Nothing in Lean hashes anything: it is a label: what it is worth is what the hold of that sum in a sandbox is worth. -/
noncomputable def Try.pinned : Pinned := { name := "ytlpmhmhopbhahaa", sum := "b1b0f30ce14e79ca53a75ea2ab055e81a98b91253468ac73bd25eac3644a0ece", checked := Try.checked }
namespace Rows
def none {H : Type} : Left H := { results := [], args := [] }

/-- 'estreatlaw11.HistoryMay': WHATEVER THE INPUT: true; the input reads as it did. -/
def historyMaySpec : ChangeSpec := { name := "historyMay", fn := fun _ => fun
  | [d1, d2, d3, d4] => { results := [.lit (.bool true)], args := [d1, d2, d3, d4] }
  | _ => none }
def historyMayRow : OpenClaim := { program := "ytlpmhmhopbhahaa", sum := "b1b0f30ce14e79ca53a75ea2ab055e81a98b91253468ac73bd25eac3644a0ece", func := "estreat/estreatlaw11.HistoryMay", spec := "historyMay", unfollowed := true, recurses := true, apart := false }
def HistoryMaySaid : Prop := historyMayRow.holds Try.pinned (OpenSpec.ofChange historyMaySpec)

/-- ITS FALSE NEIGHBOUR: 'it returns false'. Refute it at one input. -/
def historyMayWrong : ChangeSpec := { name := "historyMay", fn := fun _ => fun
  | [d1, d2, d3, d4] => { results := [.lit (.bool false)], args := [d1, d2, d3, d4] }
  | _ => none }
def HistoryMayWrongFalsely : Prop := historyMayRow.holds Try.pinned (OpenSpec.ofChange historyMayWrong)

/-- 'estreatlaw11.HistoryOld': WHATEVER THE INPUT: true; the input reads as it did. -/
def historyOldSpec : ChangeSpec := { name := "historyOld", fn := fun _ => fun
  | [d] => { results := [.lit (.bool true)], args := [d] }
  | _ => none }
def historyOldRow : OpenClaim := { program := "ytlpmhmhopbhahaa", sum := "b1b0f30ce14e79ca53a75ea2ab055e81a98b91253468ac73bd25eac3644a0ece", func := "estreat/estreatlaw11.HistoryOld", spec := "historyOld", unfollowed := true, recurses := true, apart := false }
def HistoryOldSaid : Prop := historyOldRow.holds Try.pinned (OpenSpec.ofChange historyOldSpec)

/-- ITS FALSE NEIGHBOUR: 'it returns false'. Refute it at one input. -/
def historyOldWrong : ChangeSpec := { name := "historyOld", fn := fun _ => fun
  | [d] => { results := [.lit (.bool false)], args := [d] }
  | _ => none }
def HistoryOldWrongFalsely : Prop := historyOldRow.holds Try.pinned (OpenSpec.ofChange historyOldWrong)

/- THE SECOND FORM. 'bulk': how many values and letters a reading holds, each counted each time it is reached (what is shared counts as often as it is met; a slice's spare places count too). A statement '..UptoSaid' is the law's where the arguments, and the package variables that the reading takes, are together of bulk at most 1048576: NARROWER than '..Said'. Prove '..Said' where nothing that the law and all that it calls make is longer than what came in: it says more and counts as full. Else prove '..UptoSaid'. A law counts once. -/
mutual
def uptoBulk {H : Type} : DataW H → Nat
  | .lit (.string bytes) => bytes.length + 1
  | .lit _ => 1
  | .nil => 1
  | .ptr d => uptoBulk d + 1
  | .slice elems spare => uptoBulkAll elems + uptoBulkAll spare + 1
  | .agg parts => uptoBulkAll parts + 1
  | .iface _ d => uptoBulk d + 1
  | .map entries => uptoBulkEntries entries + 1
  | .held _ => 1
def uptoBulkAll {H : Type} : List (DataW H) → Nat
  | [] => 0
  | d :: r => uptoBulk d + uptoBulkAll r
def uptoBulkEntries {H : Type} : List (Lit × DataW H) → Nat
  | [] => 0
  | x :: r => uptoBulkEntry x + uptoBulkEntries r
def uptoBulkEntry {H : Type} : Lit × DataW H → Nat
  | (.string bytes, d) => bytes.length + uptoBulk d + 1
  | (_, d) => uptoBulk d + 1
 end
def uptoSmall : (H : Type) → List (DataW H) → Bool := fun _ ds => decide (uptoBulkAll ds ≤ 1048576)
def OpenSpec.upto (s : _root_.Go.ChangeSpec) : _root_.Go.OpenSpec := { _root_.Go.OpenSpec.ofChange s with cond := some uptoSmall }

/-- 'estreatlaw11.HistoryMay', WHERE WHAT IT READS IS OF BULK AT MOST 1048576: true; the input reads as it did. -/
def historyMayUptoRow : OpenClaim := { program := "ytlpmhmhopbhahaa", sum := "b1b0f30ce14e79ca53a75ea2ab055e81a98b91253468ac73bd25eac3644a0ece", func := "estreat/estreatlaw11.HistoryMay", spec := "historyMay", unfollowed := true, recurses := true, apart := false, narrowed := true }
def HistoryMayUptoSaid : Prop := historyMayUptoRow.holds Try.pinned (OpenSpec.upto historyMaySpec)

/-- 'estreatlaw11.HistoryOld', WHERE WHAT IT READS IS OF BULK AT MOST 1048576: true; the input reads as it did. -/
def historyOldUptoRow : OpenClaim := { program := "ytlpmhmhopbhahaa", sum := "b1b0f30ce14e79ca53a75ea2ab055e81a98b91253468ac73bd25eac3644a0ece", func := "estreat/estreatlaw11.HistoryOld", spec := "historyOld", unfollowed := true, recurses := true, apart := false, narrowed := true }
def HistoryOldUptoSaid : Prop := historyOldUptoRow.holds Try.pinned (OpenSpec.upto historyOldSpec)

end Rows
end Go.Proofs.Ytlpmhmhopbhahaa
