/- Walks and plain laws: what each theorem says, within the bounds that it names. -/
import Derived.Test.YthfklplpfbmkgaaDoorH23
import Derived.Test.YthfklplpfbmkgaaDoorH9
set_option linter.unusedVariables false
set_option linter.unusedSimpArgs false
set_option maxRecDepth 20000
namespace Go.Flat
open Go.Proofs
theorem getH_five {l : Bs} {a b c d e : ByteArray} {x0 x1 x2 x4 : Int} (ho : ofF l = (true, [a, b, c, d, e])) (h0 : valS a = (x0, 0)) (h1 : valS b = (x1, 0)) (h2 : valS c = (x2, 0)) (h3 : d.size = 32) (h4 : valS e = (x4, 0)) (hr : rightH ⟨x0, x1, x2, cpD d, x4⟩) : getH l = (⟨x0, x1, x2, cpD d, x4⟩, 0) := by
  have p0 : pK 5 0 = 0 := rfl
  have p1 : pK 5 1 = 1 := rfl
  have p2 : pK 5 2 = 2 := rfl
  have p3 : pK 5 3 = 3 := rfl
  have p4 : pK 5 4 = 4 := rfl
  have p5 : remP 5 (pK 5 5) = 0 := rfl
  have q0 : [a, b, c, d, e].getD 0 ⟨#[]⟩ = a := rfl
  have q1 : [a, b, c, d, e].getD 1 ⟨#[]⟩ = b := rfl
  have q2 : [a, b, c, d, e].getD 2 ⟨#[]⟩ = c := rfl
  have q3 : [a, b, c, d, e].getD 3 ⟨#[]⟩ = d := rfl
  have q4 : [a, b, c, d, e].getD 4 ⟨#[]⟩ = e := rfl
  have hl : [a, b, c, d, e].length = 5 := rfl
  have hc : checkE ⟨x0, x1, x2, cpD d, x4⟩ = 0 := by rw [checkE_eq, if_pos hr]
  have hd : digD true d = cpD d := rfl
  unfold getH
  rw [ho]
  dsimp only
  rw [hl, p0, p1, p2, p3, p4, p5, q0, q1, q2, q3, q4, h0, h1, h2, h3, h4]
  simp [hd, hc]
end Go.Flat
