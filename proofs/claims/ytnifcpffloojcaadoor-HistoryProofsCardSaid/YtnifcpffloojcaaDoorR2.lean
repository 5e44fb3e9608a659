/- Walks and plain laws: what each theorem says, within the bounds that it names. -/
import Derived.Test.YtnifcpffloojcaaDoorR1
set_option linter.unusedVariables false
set_option linter.unusedSimpArgs false
set_option maxRecDepth 20000
namespace Go.Flat
open Go.Proofs
variable {G : Glob}
theorem fi_full {kk : Nat → BitVec 32} {l : List Item} {q : Nat} (h : rightL l) (hq : q ≤ l.length) : firL kk l (q : Nat) = (acL kk l q, 0) := by
  unfold firL
  rw [if_pos h, if_pos ⟨by omega, by omega⟩]; rfl
theorem incH_len (kk : Nat → BitVec 32) (l : List Item) (k i : Int) : (incH kk l k i).1.length ≤ 1000 := by
  unfold incH
  split
  · split
    · have := inclP_short kk 11 (firL kk l k).1 i.toNat (Nat.le_trans (firL_len kk l k) (by decide))
      show (inclP kk (firL kk l k).1 i.toNat).length ≤ 1000
      omega
    · exact Nat.zero_le _
  · exact Nat.zero_le _
theorem conH_len (kk : Nat → BitVec 32) (l : List Item) (i k : Int) : (conH kk l i k).1.length ≤ 1000 := by
  unfold conH
  split
  · split
    · split
      · exact Nat.zero_le _
      · have := consP_short kk 11 (firL kk l k).1 i.toNat (by omega) (Nat.le_trans (firL_len kk l k) (by decide))
        show (consP kk (firL kk l k).1 i.toNat).length ≤ 1000
        omega
    · exact Nat.zero_le _
  · exact Nat.zero_le _
theorem Digests_eq (ds : List D) (n c c' : Nat) (hn : ds.length = n) (hb : n ≤ 1000000) : CallL Tryd.prog G 21 [slv 0 0 n c, slv 1 0 n c'] [dsR ds, dsR ds] (.bool true) [dsR ds, dsR ds] := by
  subst hn
  have h := Digests_ok (G := G) ds ds c c' hb hb
  rw [sameDs_refl] at h; exact h
end Go.Flat
