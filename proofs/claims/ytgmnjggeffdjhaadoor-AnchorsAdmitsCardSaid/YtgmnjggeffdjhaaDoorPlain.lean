/- Roots by halves, proofs of consistency, and how long proofs are. -/
import Derived.Test.YtgmnjggeffdjhaaDoorTree
section
set_option linter.unusedVariables false
set_option linter.unusedSimpArgs false
set_option maxRecDepth 20000
namespace Go.Flat
/-! ### Plain: the root by peaks is the root by halves -/
theorem splitN_pos {n : Nat} (h : 2 ≤ n) : 1 ≤ splitN n ∧ splitN n < n := by
  obtain ⟨s1, s2, _⟩ := splitF_pos (n := n) h
  exact ⟨s1, s2⟩
theorem splitN_eq {n : Nat} (h : 2 ≤ n) : splitN n = 2 ^ (n - 1).log2 := by
  unfold splitN splitF bitLen
  rw [if_neg (by omega)]
  have hb : ((n : Int) - 1).toNat = n - 1 := by omega
  rw [hb, if_neg (by omega)]
  have : ((2 : Int) ^ ((n - 1).log2 + 1 - 1)) = ((2 ^ (n - 1).log2 : Nat) : Int) := by simp
  rw [this]; rfl
theorem splitN_of {n j : Nat} (h1 : 2 ^ j < n) (h2 : n ≤ 2 * 2 ^ j) : splitN n = 2 ^ j := by
  have h3 : 0 < 2 ^ j := Nat.pow_pos (by decide)
  rw [splitN_eq (by omega)]
  congr 1
  rw [Nat.log2_eq_iff (by omega)]
  rw [Nat.pow_succ]; omega
def rootR (kk : Nat → BitVec 32) (ds : List D) : D :=
  if h : ds.length ≤ 1 then (if ds.length = 0 then shaOf kk [] else ds.getD 0 d0)
  else knotF kk (rootR kk (ds.take (splitN ds.length))) (rootR kk (ds.drop (splitN ds.length)))
termination_by ds.length
decreasing_by
  · have := splitN_pos (n := ds.length) (by omega)
    simp; omega
  · have := splitN_pos (n := ds.length) (by omega)
    simp; omega
def pk (kk : Nat → BitVec 32) (ds : List D) : List D :=
  if h : ds.length = 0 then [] else rootR kk (ds.take (big ds.length)) :: pk kk (ds.drop (big ds.length))
termination_by ds.length
decreasing_by
  have := big_le (n := ds.length) (by omega)
  simp; omega
end Go.Flat
end
section
set_option linter.unusedVariables false
set_option maxRecDepth 20000
namespace Go.Flat
open Go.Proofs
variable {G : Glob}
/-! ### Plain: proofs of consistency, and how long the proofs are -/
/-- A size's proof of consistency. -/
def consP (kk : Nat → BitVec 32) (l : List D) (m : Nat) : List D := (consN kk l.length l m true []).reverse
end Go.Flat
end
