/- Walks and plain laws: what each theorem says, within the bounds that it names. -/
import Derived.Test.YtoheeojjdpdljaaH15
set_option linter.unusedVariables false
set_option linter.unusedSimpArgs false
set_option maxRecDepth 20000
set_option maxRecDepth 20000
namespace Go.Flat
open Go.Proofs
variable {G : Glob}
def ofL : List Field → Nat → Bool → List ByteArray → Bool × List ByteArray
  | [], _, ok, acc => (ok, acc)
  | f :: fs, i, ok, acc => ofL fs (i + 1) (ok && decide (f.tag = (i : Int) + 1)) (acc ++ [f.data])
def ofF (l : Bs) : Bool × List ByteArray := ofL (readF l).1 0 (decide ((readF l).2 = 0)) []
end Go.Flat
