/- Walks and plain laws: what each theorem says, within the bounds that it names. -/
import Derived.Test.YthfklplpfbmkgaaDoorTabs
namespace Go.Proofs.YthfklplpfbmkgaaDoor
open Go.ChangeShapes Go.WideShapes Go.ChangeAt Go.RowKit
set_option linter.unusedVariables false
set_option linter.unusedSimpArgs false
noncomputable def G1 : Flat.Glob := fun g => if g = 0 then some (Flat.rowE Flat.w32 64 kk) else none
theorem h1G : G1 0 = some (Flat.rowE Flat.w32 64 kk) := rfl
theorem hrel_of_laid1 {W : World} {l : List (String × DataW Unit)} (hp : (l.all fun x => x.2.handleName?.isNone) = true) (h : laidMetH Tryd.prog l W)
    (h0 : ("estreat/sha.table", Rows.laid_estreat_sha_table) ∈ l) : Flat.HRel G1 (fun _ => none) [] W := by
  refine Flat.HRel.plain fun g cs hg => ?_
  unfold G1 at hg
  split at hg
  · rename_i e
    subst e
    injection hg with hg
    subst hg
    have r := Flat.laid_reads h hp h0
    rw [show (Rows.laid_estreat_sha_table : DataW Unit) = Lib.tabData .u32 kz from by kernel_rfl] at r
    exact r.tab (g := 0) (t := 116) (e := 92) (c := 64) (by kernel_rfl) (by kernel_rfl) (by kernel_rfl) (by kernel_rfl) (by kernel_rfl) (by kernel_rfl) (by decide +kernel) (by kernel_rfl)
  · cases hg
end Go.Proofs.YthfklplpfbmkgaaDoor
