/- The tables that the laws read. -/
import Derived.Test.YthfklplpfbmkgaaDoorTree
namespace Go.Proofs.YthfklplpfbmkgaaDoor
open Go.ChangeShapes Go.WideShapes Go.ChangeAt Go.RowKit
set_option linter.unusedVariables false
set_option linter.unusedSimpArgs false
def ints (l : List (DataW Unit)) : List Int := l.map fun | .lit (.int _ z) => z | _ => 0
def parts : DataW Unit → List (DataW Unit) | .agg l => l | _ => []
noncomputable def kz : List Int := ints (parts Rows.laid_estreat_sha_table)
noncomputable def kk : Nat → BitVec 32 := Flat.tabW 32 kz
noncomputable def G0 : Flat.Glob := fun g => if g = 0 then some (Flat.rowE Flat.w32 64 kk) else if g = 1 then some (Flat.rowE Flat.w32 64 kk) else none
theorem hG : G0 0 = some (Flat.rowE Flat.w32 64 kk) := rfl
theorem own : ownKnob Tryd.prog.godebug = none := by kernel_rfl
end Go.Proofs.YthfklplpfbmkgaaDoor
