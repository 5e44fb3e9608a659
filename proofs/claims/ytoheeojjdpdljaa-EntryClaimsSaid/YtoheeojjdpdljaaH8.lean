/- Walks and plain laws: what each theorem says, within the bounds that it names. -/
import Derived.Test.YtoheeojjdpdljaaH7
set_option linter.unusedVariables false
set_option linter.unusedSimpArgs false
set_option maxRecDepth 20000
set_option maxRecDepth 20000
namespace Go.Flat
open Go.Proofs
variable {G : Glob}
def signedL (s : Signed) : List ByteArray := [strOf (bytesR (headL s.head)), (numS s.node).1, strOf (dgL s.tag)]
def mayS (s : Signed) : Prop := rightH s.head ∧ 1 ≤ s.node ∧ s.node ≤ 3
instance (s : Signed) : Decidable (mayS s) := inferInstanceAs (Decidable (_ ∧ _))
def tagT (kk : Nat → BitVec 32) (master : D) (h : Head) (node : Int) : D := macT kk (macT kk master (strOf [75#8, BitVec.ofInt 8 h.region, BitVec.ofInt 8 node])) (markT ++ strOf (bytesR (headL h)))
def zeroS : Signed := ⟨⟨0, 0, 0, dz, 0⟩, 0, dz⟩
def signR (kk : Nat → BitVec 32) (master : D) (h : Head) (node : Int) : Signed × Int := if rightH h ∧ 1 ≤ node ∧ node ≤ 3 then (⟨h, node, tagT kk master h node⟩, 0) else (zeroS, 70)
def verifyR (kk : Nat → BitVec 32) (master : D) (s : Signed) : Int := if mayS s then (if sameB 32 (tagT kk master s.head s.node) s.tag = true then 0 else 72) else 70
end Go.Flat
