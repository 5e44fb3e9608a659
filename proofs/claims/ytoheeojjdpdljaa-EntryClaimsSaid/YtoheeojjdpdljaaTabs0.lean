/- No package table: the empty list of tables. -/
import Derived.Test.YtoheeojjdpdljaaTree
set_option linter.unusedVariables false
set_option linter.unusedSimpArgs false
namespace Go.Proofs.Ytoheeojjdpdljaa
open Go.RowKit
theorem own : ownKnob Try.prog.godebug = none := by kernel_rfl
noncomputable def G1 : Flat.Glob := fun _ => none
theorem hrel0 {W : World} : Flat.HRel G1 (fun _ => none) [] W := Flat.HRel.plain fun g cs hg => by cases hg
end Go.Proofs.Ytoheeojjdpdljaa
