/- Walks and plain laws: what each theorem says, within the bounds that it names. -/
import Derived.Test.YtoheeojjdpdljaaH17
set_option linter.unusedVariables false
set_option linter.unusedSimpArgs false
set_option maxRecDepth 20000
set_option maxRecDepth 20000
namespace Go.Flat
open Go.Proofs
variable {G : Glob}
def cpD (s : ByteArray) : D := fun i => if i < s.size then (bl s).getD i 0 else 0
def digD (ok : Bool) (s : ByteArray) : D := if ok = true then cpD s else dz
end Go.Flat
