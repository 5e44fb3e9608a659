/- Walks and plain laws: what each theorem says, within the bounds that it names. -/
import Derived.Test.YtgmnjggeffdjhaaDoorK2
set_option linter.unusedVariables false
set_option linter.unusedSimpArgs false
set_option maxRecDepth 20000
namespace Go.Flat
open Go.Proofs
variable {G : Glob}
def st1 (x : D) (r : Bool) : Blk := { cells := rowE w8 32 x ++ [.bool r], sz := 33, wr := true, fix := true, mv := false, pur := true }
structure WayS where
  size : Nat
  index : Nat
  m : Nat
  acc : List Stp
end Go.Flat
