/- Walks and plain laws: what each theorem says, within the bounds that it names. -/
import Derived.Test.YtnifcpffloojcaaDoorR1
set_option linter.unusedVariables false
set_option linter.unusedSimpArgs false
set_option maxRecDepth 20000
namespace Go.Flat
open Go.Proofs
variable {G : Glob}
theorem acL_congr (kk : Nat → BitVec 32) (l m : List Item) : ∀ k, (∀ j, j < k → l.getD j default = m.getD j default) → acL kk l k = acL kk m k
  | 0, _ => rfl
  | k + 1, h => by rw [acL, acL, acL_congr kk l m k fun j hj => h j (by omega), h k (by omega)]
theorem getD_take (l : List Item) (q j : Nat) (h : j < q) : (l.take q).getD j default = l.getD j default := by
  rw [List.getD_eq_getElem?_getD, List.getElem?_take, if_pos h, ← List.getD_eq_getElem?_getD]
theorem goodF_take : ∀ (l : List Item) (ep : Int) (q : Nat), goodF ep l = true → goodF ep (l.take q) = true
  | [], ep, q, h => by simpa using h
  | x :: l, ep, 0, h => rfl
  | x :: l, ep, q + 1, h => by
    rw [goodF, Bool.and_eq_true] at h
    show (decide (rightI x) && decide (ep ≤ x.epoch) && goodF x.epoch (l.take q)) = true
    rw [h.1, goodF_take l x.epoch q h.2]; rfl
theorem rightL_take {l : List Item} (h : rightL l) (q : Nat) : rightL (l.take q) := ⟨by rw [List.length_take]; have := h.1; omega, goodF_take l 0 q h.2⟩
theorem fi_full {kk : Nat → BitVec 32} {l : List Item} {q : Nat} (h : rightL l) (hq : q ≤ l.length) : firL kk l (q : Nat) = (acL kk l q, 0) := by
  unfold firL
  rw [if_pos h, if_pos ⟨by omega, by omega⟩]; rfl
theorem fi_take {kk : Nat → BitVec 32} {l : List Item} {q : Nat} (h : rightL l) (hq : q ≤ l.length) : firL kk (l.take q) (q : Nat) = firL kk l (q : Nat) := by
  rw [fi_full h hq, fi_full (rightL_take h q) (by rw [List.length_take]; omega), acL_congr kk (l.take q) l q fun j hj => getD_take l q j hj]
theorem rt_full {kk : Nat → BitVec 32} {l : List Item} {q : Nat} (h : rightL l) (hq : q ≤ l.length) : rootH kk l (q : Nat) = ((rootH kk l (q : Nat)).1, 0) := by
  unfold rootH
  rw [fi_full h hq, if_pos rfl]
theorem rt_take {kk : Nat → BitVec 32} {l : List Item} {q : Nat} (h : rightL l) (hq : q ≤ l.length) : rootH kk (l.take q) (q : Nat) = ((rootH kk l (q : Nat)).1, 0) := by
  rw [← rt_full h hq]
  unfold rootH
  rw [fi_take h hq]
theorem in_take {kk : Nat → BitVec 32} {l : List Item} {q : Nat} {i : Int} (h : rightL l) (hq : q ≤ l.length) : incH kk (l.take q) (q : Nat) i = ((incH kk l (q : Nat) i).1, (incH kk l (q : Nat) i).2) := by
  show _ = incH kk l (q : Nat) i
  unfold incH
  rw [fi_take h hq]
theorem co_take {kk : Nat → BitVec 32} {l : List Item} {q : Nat} {i : Int} (h : rightL l) (hq : q ≤ l.length) : conH kk (l.take q) i (q : Nat) = ((conH kk l i (q : Nat)).1, (conH kk l i (q : Nat)).2) := by
  show _ = conH kk l i (q : Nat)
  unfold conH
  rw [fi_take h hq]
theorem incH_len (kk : Nat → BitVec 32) (l : List Item) (k i : Int) : (incH kk l k i).1.length ≤ 1000 := by
  unfold incH
  split
  · split
    · have := inclP_short kk 11 (firL kk l k).1 i.toNat (Nat.le_trans (firL_len kk l k) (by decide))
      show (inclP kk (firL kk l k).1 i.toNat).length ≤ 1000
      omega
    · exact Nat.zero_le _
  · exact Nat.zero_le _
theorem conH_len (kk : Nat → BitVec 32) (l : List Item) (i k : Int) : (conH kk l i k).1.length ≤ 1000 := by
  unfold conH
  split
  · split
    · split
      · exact Nat.zero_le _
      · have := consP_short kk 11 (firL kk l k).1 i.toNat (by omega) (Nat.le_trans (firL_len kk l k) (by decide))
        show (consP kk (firL kk l k).1 i.toNat).length ≤ 1000
        omega
    · exact Nat.zero_le _
  · exact Nat.zero_le _
theorem Digests_eq (ds : List D) (n c c' : Nat) (hn : ds.length = n) (hb : n ≤ 1000000) : CallL Tryd.prog G 21 [slv 0 0 n c, slv 1 0 n c'] [dsR ds, dsR ds] (.bool true) [dsR ds, dsR ds] := by
  subst hn
  have h := Digests_ok (G := G) ds ds c c' hb hb
  rw [sameDs_refl] at h; exact h
end Go.Flat
