/- Walks and plain laws: what each theorem says, within the bounds that it names. -/
import Derived.Test.YtgmnjggeffdjhaaDoorH6
set_option linter.unusedVariables false
set_option linter.unusedSimpArgs false
set_option maxRecDepth 20000
set_option maxRecDepth 20000
namespace Go.Flat
open Go.Proofs
variable {G : Glob}
def beL : Nat → Nat → Bs → Bs
  | 0, _, l => l
  | f + 1, n, l => if n = 0 then l else beL f (n / 256) (BitVec.ofInt 8 (n : Int) :: l)
def rowX : Nat → List ByteArray → Bs
  | _, [] => []
  | k, x :: l => fldB ⟨(k : Int) + 1, x⟩ ++ rowX (k + 1) l
theorem mayE_zero {f : Field} {last : Int} (h1 : last < f.tag) (h2 : f.tag ≤ 255) (h3 : f.data.size ≤ 65536) : mayE f last = 0 := by
  unfold mayE
  rw [if_neg (by omega), if_neg (by omega), if_neg (by omega)]
theorem layF_rowX : ∀ (ls : List ByteArray) (k : Nat) (acc : Bs), k + ls.length ≤ 255 → (∀ x, x ∈ ls → x.size ≤ 65536) → layF (rowF k ls) (k : Nat) acc = (acc ++ rowX k ls, 0)
  | [], k, acc, _, _ => by simp [layF, rowF, rowX]
  | x :: l, k, acc, h, hs => by
    simp only [List.length_cons] at h
    rw [rowF, layF, if_pos (mayE_zero (by dsimp only; omega) (by dsimp only; omega) (hs x (by simp))), rowX]
    have := layF_rowX l (k + 1) (acc ++ fldB ⟨(k : Int) + 1, x⟩) (by omega) (fun y hy => hs y (by simp [hy]))
    rw [show (((k + 1 : Nat)) : Int) = (k : Int) + 1 by omega] at this
    rw [this, List.append_assoc]
end Go.Flat
