/- Walks and plain laws: what each theorem says, within the bounds that it names. -/
import Derived.Test.YtnifcpffloojcaaDoorR1
set_option linter.unusedVariables false
set_option linter.unusedSimpArgs false
set_option maxRecDepth 20000
namespace Go.Flat
open Go.Proofs
variable {G : Glob}
theorem fi_full {kk : Nat → BitVec 32} {l : List Item} {q : Nat} (h : rightL l) (hq : q ≤ l.length) : firL kk l (q : Nat) = (acL kk l q, 0) := by
  unfold firL
  rw [if_pos h, if_pos ⟨by omega, by omega⟩]; rfl
end Go.Flat
