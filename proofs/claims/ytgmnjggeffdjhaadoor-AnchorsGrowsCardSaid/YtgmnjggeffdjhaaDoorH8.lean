/- Walks and plain laws: what each theorem says, within the bounds that it names. -/
import Derived.Test.YtgmnjggeffdjhaaDoorH7
set_option linter.unusedVariables false
set_option linter.unusedSimpArgs false
set_option maxRecDepth 20000
set_option maxRecDepth 20000
namespace Go.Flat
open Go.Proofs
variable {G : Glob}
theorem putH_one {h : Head} (hr : rightH h) : putH h = (bytesR (headL h), 0) := by
  unfold putH
  rw [if_pos (by rw [checkE_eq, if_pos hr])]
theorem bytesH_len (h : Head) : (bytesR (headL h)).length ≤ 100 := by
  have := layF_len (rowF 0 (headL h)) 0 []
  simp only [headL, rowF, sumF, strOf_size, dgL_len, List.length_nil] at this
  have h1 := numS_size h.region
  have h2 := numS_size h.epoch
  have h3 := numS_size h.size
  have h4 := numS_size h.tick
  show (layF (rowF 0 (headL h)) 0 []).1.length ≤ 100
  simp only [headL, rowF]
  omega
def signedL (s : Signed) : List ByteArray := [strOf (bytesR (headL s.head)), (numS s.node).1, strOf (dgL s.tag)]
def mayS (s : Signed) : Prop := rightH s.head ∧ 1 ≤ s.node ∧ s.node ≤ 3
instance (s : Signed) : Decidable (mayS s) := inferInstanceAs (Decidable (_ ∧ _))
theorem putSF_pos {s : Signed} (h : mayS s) : putSF s = (bytesR (signedL s), 0) := by
  unfold putSF
  rw [if_pos ⟨by rw [checkE_eq, if_pos h.1], h.2⟩, putH_one h.1]
  try rfl
theorem putSF_neg {s : Signed} (h : ¬ mayS s) : putSF s = ([], 70) := by
  unfold putSF
  rw [if_neg]
  rintro ⟨h1, h2⟩
  refine h ⟨?_, h2⟩
  rw [checkE_eq] at h1
  split at h1
  · assumption
  · omega
def tagT (kk : Nat → BitVec 32) (master : D) (h : Head) (node : Int) : D := macT kk (macT kk master (strOf [75#8, BitVec.ofInt 8 h.region, BitVec.ofInt 8 node])) (markT ++ strOf (bytesR (headL h)))
def zeroS : Signed := ⟨⟨0, 0, 0, dz, 0⟩, 0, dz⟩
def signR (kk : Nat → BitVec 32) (master : D) (h : Head) (node : Int) : Signed × Int := if rightH h ∧ 1 ≤ node ∧ node ≤ 3 then (⟨h, node, tagT kk master h node⟩, 0) else (zeroS, 70)
def verifyR (kk : Nat → BitVec 32) (master : D) (s : Signed) : Int := if mayS s then (if sameB 32 (tagT kk master s.head s.node) s.tag = true then 0 else 72) else 70
end Go.Flat
