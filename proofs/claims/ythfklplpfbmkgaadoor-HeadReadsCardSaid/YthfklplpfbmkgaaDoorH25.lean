/- Walks and plain laws: what each theorem says, within the bounds that it names. -/
import Derived.Test.YthfklplpfbmkgaaDoorH24
set_option linter.unusedVariables false
set_option linter.unusedSimpArgs false
set_option maxRecDepth 20000
namespace Go.Flat
open Go.Proofs
theorem getS_three {l : Bs} {a b c : ByteArray} {x1 : Int} {h : Head} (ho : ofF l = (true, [a, b, c])) (h0 : getH (bl a) = (h, 0)) (h1 : valS b = (x1, 0)) (h3 : c.size = 32) (hn : 1 ≤ x1 ∧ x1 ≤ 3) : getS l = (⟨h, x1, cpD c⟩, 0) := by
  have p0 : pK 3 0 = 0 := rfl
  have p1 : pK 3 1 = 1 := rfl
  have p2 : pK 3 2 = 2 := rfl
  have p3 : remP 3 (pK 3 3) = 0 := rfl
  have q0 : [a, b, c].getD 0 ⟨#[]⟩ = a := rfl
  have q1 : [a, b, c].getD 1 ⟨#[]⟩ = b := rfl
  have q2 : [a, b, c].getD 2 ⟨#[]⟩ = c := rfl
  have hl : [a, b, c].length = 3 := rfl
  have hd : digD true c = cpD c := rfl
  unfold getS
  rw [ho]
  dsimp only
  rw [hl, p0, p1, p2, p3, q0, q1, q2, h0, h1, h3]
  simp [hd, hn.1, hn.2]
end Go.Flat
