/- Roots by halves, proofs of consistency, and how long proofs are. -/
import Derived.Test.YthfklplpfbmkgaaDoorTree
section
set_option linter.unusedVariables false
set_option linter.unusedSimpArgs false
set_option maxRecDepth 20000
namespace Go.Flat

theorem splitN_pos {n : Nat} (h : 2 ≤ n) : 1 ≤ splitN n ∧ splitN n < n := by
  obtain ⟨s1, s2, _⟩ := splitF_pos (n := n) h
  exact ⟨s1, s2⟩
def rootR (kk : Nat → BitVec 32) (ds : List D) : D :=
  if h : ds.length ≤ 1 then (if ds.length = 0 then shaOf kk [] else ds.getD 0 d0)
  else knotF kk (rootR kk (ds.take (splitN ds.length))) (rootR kk (ds.drop (splitN ds.length)))
termination_by ds.length
decreasing_by
  · have := splitN_pos (n := ds.length) (by omega)
    simp; omega
  · have := splitN_pos (n := ds.length) (by omega)
    simp; omega
def pk (kk : Nat → BitVec 32) (ds : List D) : List D :=
  if h : ds.length = 0 then [] else rootR kk (ds.take (big ds.length)) :: pk kk (ds.drop (big ds.length))
termination_by ds.length
decreasing_by
  have := big_le (n := ds.length) (by omega)
  simp; omega
end Go.Flat
end
section
set_option linter.unusedVariables false
set_option maxRecDepth 20000
namespace Go.Flat
open Go.Proofs
variable {G : Glob}

def consP (kk : Nat → BitVec 32) (l : List D) (m : Nat) : List D := (consN kk l.length l m true []).reverse
end Go.Flat
end
