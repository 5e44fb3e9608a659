/- Walks and plain laws: what each theorem says, within the bounds that it names. -/
import Derived.Test.YtoheeojjdpdljaaH5
set_option linter.unusedVariables false
set_option linter.unusedSimpArgs false
set_option maxRecDepth 20000
set_option maxRecDepth 20000
namespace Go.Flat
open Go.Proofs
variable {G : Glob}
def markT : ByteArray := ⟨#[104, 101, 97, 100, 32]⟩
def sumF : List Field → Nat
  | [] => 0
  | f :: l => f.data.size + 4 + sumF l
theorem layF_len : ∀ (fs : List Field) (last : Int) (acc : Bs), (layF fs last acc).1.length ≤ acc.length + sumF fs
  | [], _, acc => by simp [layF, sumF]
  | f :: fs, last, acc => by
    rw [layF]
    split
    · have := layF_len fs f.tag (acc ++ fldB f)
      rw [List.length_append, fldB_len] at this
      simp only [sumF]; omega
    · simp
theorem numF_len : ∀ (f n a : Nat) (b : D), (numF f n a b).length ≤ 8
  | 0, n, a, b => by rw [numF, List.length_drop, rowL_len]; omega
  | f + 1, n, a, b => by
    rw [numF]
    split
    · rw [List.length_drop, rowL_len]; omega
    · exact numF_len f _ _ _
theorem numS_size (n : Int) : (numS n).1.size ≤ 8 := by
  unfold numS
  split
  · rw [strOf_size]; exact numF_len _ _ _ _
  · show 0 ≤ 8; omega
def putSF (s : Signed) : Bs × Int := if checkE s.head = 0 ∧ 1 ≤ s.node ∧ s.node ≤ 3 then (bytesR [strOf (putH s.head).1, (numS s.node).1, strOf (dgL s.tag)], 0) else ([], 70)
def signF (kk : Nat → BitVec 32) (master : D) (h : Head) (node : Int) : Signed × Int :=
  if (((putH h).2)) ≠ 0 then ((⟨(⟨0, 0, 0, dz, 0⟩ : Head), 0, dz⟩ : Signed), (((putH h).2))) else
  if (((keyT kk master h.region node).2)) ≠ 0 then ((⟨(⟨0, 0, 0, dz, 0⟩ : Head), 0, dz⟩ : Signed), 70) else
  ((⟨h, node, (macT kk ((keyT kk master h.region node).1) (markT ++ (strOf ((putH h).1))))⟩ : Signed), 0)
def verifyE (kk : Nat → BitVec 32) (master : D) (s : Signed) : Int :=
  if (((putH s.head).2)) ≠ 0 then 70 else
  if 1 ≤ s.node then (if s.node ≤ 3 then ((holdsE kk master s.head.region s.node (markT ++ (strOf ((putH s.head).1))) s.tag)) else
  70) else
  70
end Go.Flat
