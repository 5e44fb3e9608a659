/- Walks and plain laws: what each theorem says, within the bounds that it names. -/
import Derived.Test.YthfklplpfbmkgaaDoorH20
set_option linter.unusedVariables false
set_option linter.unusedSimpArgs false
set_option maxRecDepth 20000
namespace Go.Flat
open Go.Proofs

theorem ofInt8 (z : Int) (h0 : 0 ≤ z) : (BitVec.ofInt 8 z).toNat = z.toNat % 256 := by
  obtain ⟨n, rfl⟩ : ∃ n : Nat, z = n := ⟨z.toNat, by omega⟩
  rw [BitVec.ofInt_natCast, BitVec.toNat_ofNat]; rfl
end Go.Flat
