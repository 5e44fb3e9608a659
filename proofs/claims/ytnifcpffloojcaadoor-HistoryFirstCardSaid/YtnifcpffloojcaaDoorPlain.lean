/- Roots by halves, proofs of consistency, and how long proofs are. -/
import Derived.Test.YtnifcpffloojcaaDoorTree
section
set_option linter.unusedVariables false
set_option linter.unusedSimpArgs false
set_option maxRecDepth 20000
namespace Go.Flat
/-! ### Plain: the root by peaks is the root by halves -/
theorem splitN_pos {n : Nat} (h : 2 ≤ n) : 1 ≤ splitN n ∧ splitN n < n := by
  obtain ⟨s1, s2, _⟩ := splitF_pos (n := n) h
  exact ⟨s1, s2⟩
theorem splitN_eq {n : Nat} (h : 2 ≤ n) : splitN n = 2 ^ (n - 1).log2 := by
  unfold splitN splitF bitLen
  rw [if_neg (by omega)]
  have hb : ((n : Int) - 1).toNat = n - 1 := by omega
  rw [hb, if_neg (by omega)]
  have : ((2 : Int) ^ ((n - 1).log2 + 1 - 1)) = ((2 ^ (n - 1).log2 : Nat) : Int) := by simp
  rw [this]; rfl
def rootR (kk : Nat → BitVec 32) (ds : List D) : D :=
  if h : ds.length ≤ 1 then (if ds.length = 0 then shaOf kk [] else ds.getD 0 d0)
  else knotF kk (rootR kk (ds.take (splitN ds.length))) (rootR kk (ds.drop (splitN ds.length)))
termination_by ds.length
decreasing_by
  · have := splitN_pos (n := ds.length) (by omega)
    simp; omega
  · have := splitN_pos (n := ds.length) (by omega)
    simp; omega
def pk (kk : Nat → BitVec 32) (ds : List D) : List D :=
  if h : ds.length = 0 then [] else rootR kk (ds.take (big ds.length)) :: pk kk (ds.drop (big ds.length))
termination_by ds.length
decreasing_by
  have := big_le (n := ds.length) (by omega)
  simp; omega
end Go.Flat
end
section
set_option linter.unusedVariables false
set_option maxRecDepth 20000
namespace Go.Flat
open Go.Proofs
variable {G : Glob}
/-! ### Plain: proofs of consistency, and how long the proofs are -/
theorem consN_acc (kk : Nat → BitVec 32) : ∀ (f : Nat) (l : List D) (m : Nat) (kn : Bool) (dn : List D), consN kk f l m kn dn = dn ++ consN kk f l m kn []
  | 0, l, m, kn, dn => by unfold consN; cases kn <;> simp
  | f + 1, l, m, kn, dn => by
    unfold consN
    split
    · cases kn <;> simp
    · dsimp only
      split
      · rw [consN_acc kk f _ _ _ (dn ++ _), consN_acc kk f _ _ _ ([] ++ _)]; simp
      · rw [consN_acc kk f _ _ _ (dn ++ _), consN_acc kk f _ _ _ ([] ++ _)]; simp
/-- A size's proof of consistency. -/
def consP (kk : Nat → BitVec 32) (l : List D) (m : Nat) : List D := (consN kk l.length l m true []).reverse
theorem Cons_ok (kk : Nat → BitVec 32) (hG : G 3 = some (rowE w32 64 kk)) (hG1 : G 1 = some (rowE u8N 64 dbF)) (ds : List D) (c i : Nat) {n q : Nat} (hl : ds.length = n) (hn : n ≤ 1000000) (hc : n ≤ c) (h1 : 1 ≤ i) (hi : i ≤ n) (hq : (consP kk ds i).length = q) :
    CallL Tryd.prog G 39 [slv 0 0 n c, .int .i64 (i : Nat)] [dsR ds] (.tuple #[slv 1 0 q q, .int .i64 0]) [dsR ds, dsB (consP kk ds i)] := by
  subst hl; subst hq
  have h := Consistency_ok (G := G) kk hG hG1 ds c i hn hc h1 hi
  dsimp only at h
  rw [revN_rev] at h
  unfold consP
  rw [List.length_reverse]
  exact h
theorem splitN_half {n t : Nat} (h : 2 ≤ n) (ht : n ≤ 2 ^ (t + 1)) : splitN n ≤ 2 ^ t ∧ n - splitN n ≤ 2 ^ t ∧ n ≤ 2 * splitN n := by
  have e := splitN_eq h
  have h1 := Nat.log2_self_le (n := n - 1) (by omega)
  have h2 := Nat.lt_log2_self (n := n - 1)
  rw [Nat.pow_succ, ← e] at h2
  rw [← e] at h1
  have h3 : splitN n ≤ 2 ^ t := by
    rw [e]
    refine Nat.pow_le_pow_right (by decide) ?_
    have : 2 ^ (n - 1).log2 < 2 ^ (t + 1) := by rw [← e]; omega
    have := (Nat.pow_lt_pow_iff_right (a := 2) (by decide)).1 this
    omega
  omega
theorem inclP_short (kk : Nat → BitVec 32) : ∀ (t : Nat) (l : List D) (i : Nat), l.length ≤ 2 ^ t → (inclP kk l i).length ≤ t
  | 0, l, i, h => by rw [inclP_one kk i (by simpa using h)]; exact Nat.le_refl _
  | t + 1, l, i, h => by
    by_cases h2 : 2 ≤ l.length
    · obtain ⟨k1, k2, _⟩ := splitN_half h2 h
      by_cases hi : i < splitN l.length
      · rw [inclP_lo kk h2 hi, List.length_append]
        have := inclP_short kk t (l.take (splitN l.length)) i (by simp; omega)
        simp at this ⊢; omega
      · rw [inclP_hi kk h2 (by omega), List.length_append]
        have := inclP_short kk t (l.drop (splitN l.length)) (i - splitN l.length) (by simp; omega)
        simp at this ⊢; omega
    · rw [inclP_one kk i (by omega)]; simp
theorem consN_short (kk : Nat → BitVec 32) : ∀ (f t : Nat) (l : List D) (m : Nat) (kn : Bool), 1 ≤ m → l.length ≤ f + 1 → l.length ≤ 2 ^ t → (consN kk f l m kn []).length ≤ t + 1
  | 0, t, l, m, kn, _, _, _ => by unfold consN; cases kn <;> simp
  | f + 1, 0, l, m, kn, hm, _, h => by
    unfold consN
    rw [if_pos (by simp at h; omega)]
    cases kn <;> simp
  | f + 1, t + 1, l, m, kn, hm, hf, h => by
    unfold consN
    split
    · cases kn <;> simp
    · rename_i hl
      obtain ⟨k1, k2, _⟩ := splitN_half (n := l.length) (by omega) h
      obtain ⟨s1, s2⟩ := splitN_pos (n := l.length) (by omega)
      dsimp only
      rw [show (splitF (l.length : Int)).toNat = splitN l.length from rfl]
      split
      · rw [consN_acc, List.length_append]
        have := consN_short kk f t (l.take (splitN l.length)) m kn hm (by simp; omega) (by simp; omega)
        simp; omega
      · rw [consN_acc, List.length_append]
        have := consN_short kk f t (l.drop (splitN l.length)) (m - splitN l.length) false (by omega) (by simp; omega) (by simp; omega)
        simp; omega
theorem consP_short (kk : Nat → BitVec 32) (t : Nat) (l : List D) (m : Nat) (hm : 1 ≤ m) (h : l.length ≤ 2 ^ t) : (consP kk l m).length ≤ t + 1 := by
  unfold consP
  rw [List.length_reverse]
  exact consN_short kk _ t l m true hm (by omega) h
end Go.Flat
end
