/- Walks and plain laws: what each theorem says, within the bounds that it names. -/
import Derived.Test.YtoheeojjdpdljaaH3
set_option linter.unusedVariables false
set_option linter.unusedSimpArgs false
set_option maxRecDepth 20000
set_option maxRecDepth 20000
namespace Go.Flat
open Go.Proofs
variable {G : Glob}
structure Head where
  region : Int
  epoch : Int
  size : Int
  root : D
  tick : Int
structure Signed where
  head : Head
  node : Int
  tag : D
def headC (h : Head) : List Value := [.int .i64 h.region, .int .i64 h.epoch, .int .i64 h.size] ++ rowE w8 32 h.root ++ [.int .i64 h.tick]
def headV (h : Head) : Value := .agg (headC h).toArray
def signedC (s : Signed) : List Value := headC s.head ++ [.int .i64 s.node] ++ rowE w8 32 s.tag
def signedV (s : Signed) : Value := .agg (signedC s).toArray
def rowF : Nat → List ByteArray → List Field
  | _, [] => []
  | k, x :: l => ⟨(k : Int) + 1, x⟩ :: rowF (k + 1) l
def bytesR (ls : List ByteArray) : Bs := (layF (rowF 0 ls) 0 []).1
def withinB (n low high : Int) : Bool :=
  if low ≤ n then (if n ≤ high then true else
  false) else
  false
theorem withinB_t {n low high : Int} (h1 : low ≤ n) (h2 : n ≤ high) : withinB n low high = true := by unfold withinB; rw [if_pos h1, if_pos h2]
theorem withinB_f {n low high : Int} (h : n < low ∨ high < n) : withinB n low high = false := by
  unfold withinB
  by_cases h1 : low ≤ n
  · rw [if_pos h1, if_neg (by omega)]
  · rw [if_neg h1]
def checkE (h : Head) : Int :=
  if 1 ≤ h.region then (if h.region ≤ 5 then (if 1 ≤ h.epoch then (if h.epoch ≤ 900000000 then (if 0 ≤ h.size then (if h.size ≤ 100000 then (if 0 ≤ h.tick then (if h.tick ≤ 900000000 then 0 else
  70) else
  70) else
  70) else
  70) else
  70) else
  70) else
  70) else
  70
def rightH (h : Head) : Prop := (1 ≤ h.region ∧ h.region ≤ 5) ∧ (1 ≤ h.epoch ∧ h.epoch ≤ 900000000) ∧ (0 ≤ h.size ∧ h.size ≤ 100000) ∧ (0 ≤ h.tick ∧ h.tick ≤ 900000000)
instance (h : Head) : Decidable (rightH h) := inferInstanceAs (Decidable (_ ∧ _))
def headL (h : Head) : List ByteArray := [(numS h.region).1, (numS h.epoch).1, (numS h.size).1, strOf (dgL h.root), (numS h.tick).1]
def putH (h : Head) : Bs × Int := if checkE h = 0 then (bytesR (headL h), 0) else ([], checkE h)
end Go.Flat
