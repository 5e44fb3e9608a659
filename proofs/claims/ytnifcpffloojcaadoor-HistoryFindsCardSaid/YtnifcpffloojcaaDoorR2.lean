/- Walks and plain laws: what each theorem says, within the bounds that it names. -/
import Derived.Test.YtnifcpffloojcaaDoorR1
set_option linter.unusedVariables false
set_option linter.unusedSimpArgs false
set_option maxRecDepth 20000
namespace Go.Flat
open Go.Proofs
variable {G : Glob}
theorem incH_len (kk : Nat → BitVec 32) (l : List Item) (k i : Int) : (incH kk l k i).1.length ≤ 1000 := by
  unfold incH
  split
  · split
    · have := inclP_short kk 11 (firL kk l k).1 i.toNat (Nat.le_trans (firL_len kk l k) (by decide))
      show (inclP kk (firL kk l k).1 i.toNat).length ≤ 1000
      omega
    · exact Nat.zero_le _
  · exact Nat.zero_le _
theorem conH_len (kk : Nat → BitVec 32) (l : List Item) (i k : Int) : (conH kk l i k).1.length ≤ 1000 := by
  unfold conH
  split
  · split
    · split
      · exact Nat.zero_le _
      · have := consP_short kk 11 (firL kk l k).1 i.toNat (by omega) (Nat.le_trans (firL_len kk l k) (by decide))
        show (consP kk (firL kk l k).1 i.toNat).length ≤ 1000
        omega
    · exact Nat.zero_le _
  · exact Nat.zero_le _
end Go.Flat
