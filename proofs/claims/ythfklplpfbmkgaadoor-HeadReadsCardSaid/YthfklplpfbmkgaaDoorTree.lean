/- Proofs of inclusion in plain words, the tables, and the opening of rows of digests. -/
import Derived.Test.YthfklplpfbmkgaaDoorSha
import Derived.Test.YthfklplpfbmkgaaDoorFlatD
import Derived.Test.YthfklplpfbmkgaaDoorTie
import Derived.Test.YthfklplpfbmkgaaDoorCards
import Derived.ProofKit
import Derived.OpenShut
import Derived.LaidMore
import Derived.Lay
import Derived.SevenTiedAt
section
set_option linter.unusedVariables false
set_option linter.unusedSimpArgs false
set_option maxRecDepth 20000
namespace Go.Flat
open Go.Proofs
variable {G : Glob}

def inclP (kk : Nat → BitVec 32) (l : List D) (i : Nat) : List D := (inclN kk l.length l i []).reverse
def splitN (n : Nat) : Nat := (splitF n).toNat

end Go.Flat
end
section
set_option linter.unusedVariables false
set_option maxRecDepth 20000
namespace Go.Flat
open Go.Proofs
section
variable {H : Type} {enc : TypeId × Value → H} {P : Program} {W : World} {G : Glob} {m : MapM} {σ : List Blk}
def dsOf (n : Nat) (f : Nat → BitVec 8) : List D := (List.range n).map fun i j => f (i * 32 + j)
end
end Go.Flat
end
