/- Walks and plain laws: what each theorem says, within the bounds that it names. -/
import Derived.Test.YtnifcpffloojcaaDoorXD
set_option linter.unusedVariables false
set_option linter.unusedSimpArgs false
set_option maxRecDepth 20000
namespace Go.Flat

abbrev Stp := D × Bool
def wayF (size index : Nat) (ds : List D) : Option (List Stp) :=
  if h : size ≤ 1 then (if ds.length = 0 then some [] else none)
  else if ds.length = 0 then none
  else if index < splitN size then (wayF (splitN size) index (ds.take (ds.length - 1))).map fun l => (ds.getD (ds.length - 1) d0, false) :: l
  else (wayF (size - splitN size) (index - splitN size) (ds.take (ds.length - 1))).map fun l => (ds.getD (ds.length - 1) d0, true) :: l
termination_by size
decreasing_by
  · exact (splitN_pos (n := size) (by omega)).2
  · have := splitN_pos (n := size) (by omega); omega
theorem wayF_one {size : Nat} (index : Nat) (ds : List D) (h : size ≤ 1) : wayF size index ds = if ds.length = 0 then some [] else none := by
  rw [wayF, dif_pos h]
theorem wayF_nil {size : Nat} (index : Nat) {ds : List D} (h : 2 ≤ size) (h0 : ds.length = 0) : wayF size index ds = none := by
  rw [wayF, dif_neg (by omega), if_pos h0]
theorem wayF_lo {size index : Nat} {ds : List D} (h : 2 ≤ size) (h0 : 0 < ds.length) (hi : index < splitN size) : wayF size index ds = (wayF (splitN size) index (ds.take (ds.length - 1))).map fun l => (ds.getD (ds.length - 1) d0, false) :: l := by
  rw [wayF, dif_neg (by omega), if_neg (by omega), if_pos hi]
theorem wayF_hi {size index : Nat} {ds : List D} (h : 2 ≤ size) (h0 : 0 < ds.length) (hi : splitN size ≤ index) : wayF size index ds = (wayF (size - splitN size) (index - splitN size) (ds.take (ds.length - 1))).map fun l => (ds.getD (ds.length - 1) d0, true) :: l := by
  rw [wayF, dif_neg (by omega), if_neg (by omega), if_neg (by omega)]
theorem wayF_len : ∀ (t : Nat) (size index : Nat) (ds : List D) (l : List Stp), size ≤ 2 ^ t → wayF size index ds = some l → l.length = ds.length ∧ ds.length ≤ t
  | 0, size, index, ds, l, h, hw => by
    rw [wayF_one index ds (by simpa using h)] at hw
    split at hw
    · rename_i h0
      injection hw with hw; subst hw
      exact ⟨h0.symm, by omega⟩
    · cases hw
  | t + 1, size, index, ds, l, h, hw => by
    by_cases h2 : 2 ≤ size
    · rcases Nat.eq_zero_or_pos ds.length with h0 | h0
      · rw [wayF_nil index h2 h0] at hw; cases hw
      · have e := splitN_eq h2
        have h1 := Nat.log2_self_le (n := size - 1) (by omega)
        have h3 := Nat.lt_log2_self (n := size - 1)
        rw [Nat.pow_succ, ← e] at h3
        rw [← e] at h1
        have hk : splitN size ≤ 2 ^ t := by
          rw [e]
          refine Nat.pow_le_pow_right (by decide) ?_
          have : 2 ^ (size - 1).log2 < 2 ^ (t + 1) := by rw [← e]; omega
          have := (Nat.pow_lt_pow_iff_right (a := 2) (by decide)).1 this
          omega
        by_cases hi : index < splitN size
        · rw [wayF_lo h2 h0 hi] at hw
          obtain ⟨l', h4, rfl⟩ := Option.map_eq_some_iff.1 hw
          have := wayF_len t _ _ _ _ hk h4
          simp at this ⊢
          omega
        · rw [wayF_hi h2 h0 (by omega)] at hw
          obtain ⟨l', h4, rfl⟩ := Option.map_eq_some_iff.1 hw
          have := wayF_len t _ _ _ _ (by omega) h4
          simp at this ⊢
          omega
    · rw [wayF_one index ds (by omega)] at hw
      split at hw
      · rename_i h0
        injection hw with hw; subst hw
        exact ⟨h0.symm, by omega⟩
      · cases hw
def knA (kk : Nat → BitVec 32) (leaf : D) : List Stp → List D
  | [] => [leaf]
  | (b, r) :: t => (if r then knotF kk b ((knA kk leaf t).getD 0 d0) else knotF kk ((knA kk leaf t).getD 0 d0) b) :: knA kk leaf t
theorem knA_len (kk : Nat → BitVec 32) (leaf : D) : ∀ l, (knA kk leaf l).length = l.length + 1
  | [] => rfl
  | (b, r) :: t => by simp [knA, knA_len kk leaf t]
def tx (a b : D) : ByteArray := one1 ++ strOf (dgL a) ++ strOf (dgL b)
def knT (kk : Nat → BitVec 32) (leaf : D) : List Stp → List ByteArray
  | [] => []
  | (b, r) :: t => (if r then tx b ((knA kk leaf t).getD 0 d0) else tx ((knA kk leaf t).getD 0 d0) b) :: knT kk leaf t

def stpC (l : List Stp) : List Value := (l.map fun p => rowE w8 32 p.1 ++ [Value.bool p.2]).flatten
def stpB (l : List Stp) : Blk := { cells := stpC l, sz := 33, wr := true, fix := false, mv := true, pur := true }
def stpR (l : List Stp) : Blk := { cells := stpC l, sz := 33, wr := false, fix := false, mv := true, pur := true }
theorem stpC_len (l : List Stp) : (stpC l).length = l.length * 33 := by
  induction l with
  | nil => rfl
  | cons p l ih => simp only [stpC, List.map_cons, List.flatten_cons, List.length_append, rowE_len, List.length_cons, List.length_nil] at ih ⊢; omega
theorem stpC_app (p q : List Stp) : stpC (p ++ q) = stpC p ++ stpC q := by simp [stpC]
theorem stpC_pure (l : List Stp) : (stpC l).all pureC = true := by
  induction l with
  | nil => rfl
  | cons p l ih =>
    have : stpC (p :: l) = rowE w8 32 p.1 ++ [Value.bool p.2] ++ stpC l := by simp [stpC]
    rw [this, List.all_append, List.all_append, rowE_pure, ih]; rfl
end Go.Flat
