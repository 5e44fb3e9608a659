/- Walks and plain laws: what each theorem says, within the bounds that it names. -/
import Derived.Test.YtnifcpffloojcaaDoorH4
set_option linter.unusedVariables false
set_option linter.unusedSimpArgs false
set_option maxRecDepth 20000
set_option maxRecDepth 20000
namespace Go.Flat
open Go.Proofs
variable {G : Glob}
def padK (key : D) : D := fun i => if i < 32 then key i else 0
def xorTo (c : D) (x : BitVec 8) (j : Nat) : D := fun i => if i < j then c i ^^^ x else c i
def blockT (key : D) (x : BitVec 8) : ByteArray := strOf (rowL 64 (xorTo (padK key) x 64))
def macT (kk : Nat → BitVec 32) (key : D) (s : ByteArray) : D := shaOf kk (msgOf [blockT key 92#8, strOf (dgL (shaOf kk (msgOf [blockT key 54#8, s])))])
def allF (a b : D) : Nat → BitVec 8
  | 0 => 0
  | j + 1 => allF a b j ||| (a j ^^^ b j)
def keyT (kk : Nat → BitVec 32) (master : D) (region node : Int) : D × Int := if (1 ≤ region ∧ region ≤ 5) ∧ (1 ≤ node ∧ node ≤ 3) then (macT kk master (strOf [75#8, BitVec.ofInt 8 region, BitVec.ofInt 8 node]), 0) else (dz, 50)
def holdsE (kk : Nat → BitVec 32) (master : D) (region node : Int) (s : ByteArray) (t : D) : Int :=
  if (((keyT kk master region node).2)) ≠ 0 then (((keyT kk master region node).2)) else
  if sameB 32 (macT kk ((keyT kk master region node).1) s) t = true then 0 else
  72
end Go.Flat
