/- Walks and plain laws: what each theorem says, within the bounds that it names. -/
import Derived.Test.YtgmnjggeffdjhaaDoorXD
set_option linter.unusedVariables false
set_option linter.unusedSimpArgs false
set_option maxRecDepth 20000
namespace Go.Flat

abbrev Stp := D × Bool
def wayF (size index : Nat) (ds : List D) : Option (List Stp) :=
  if h : size ≤ 1 then (if ds.length = 0 then some [] else none)
  else if ds.length = 0 then none
  else if index < splitN size then (wayF (splitN size) index (ds.take (ds.length - 1))).map fun l => (ds.getD (ds.length - 1) d0, false) :: l
  else (wayF (size - splitN size) (index - splitN size) (ds.take (ds.length - 1))).map fun l => (ds.getD (ds.length - 1) d0, true) :: l
termination_by size
decreasing_by
  · exact (splitN_pos (n := size) (by omega)).2
  · have := splitN_pos (n := size) (by omega); omega
def knA (kk : Nat → BitVec 32) (leaf : D) : List Stp → List D
  | [] => [leaf]
  | (b, r) :: t => (if r then knotF kk b ((knA kk leaf t).getD 0 d0) else knotF kk ((knA kk leaf t).getD 0 d0) b) :: knA kk leaf t
def tx (a b : D) : ByteArray := one1 ++ strOf (dgL a) ++ strOf (dgL b)
def knT (kk : Nat → BitVec 32) (leaf : D) : List Stp → List ByteArray
  | [] => []
  | (b, r) :: t => (if r then tx b ((knA kk leaf t).getD 0 d0) else tx ((knA kk leaf t).getD 0 d0) b) :: knT kk leaf t

def stpC (l : List Stp) : List Value := (l.map fun p => rowE w8 32 p.1 ++ [Value.bool p.2]).flatten
def stpB (l : List Stp) : Blk := { cells := stpC l, sz := 33, wr := true, fix := false, mv := true, pur := true }
def stpR (l : List Stp) : Blk := { cells := stpC l, sz := 33, wr := false, fix := false, mv := true, pur := true }
end Go.Flat
