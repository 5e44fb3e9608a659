/- Roots by halves, proofs of consistency, and how long proofs are. -/
import Derived.Test.YtgmnjggeffdjhaaDoorTree
section
set_option linter.unusedVariables false
set_option linter.unusedSimpArgs false
set_option maxRecDepth 20000
namespace Go.Flat

theorem splitN_pos {n : Nat} (h : 2 ≤ n) : 1 ≤ splitN n ∧ splitN n < n := by
  obtain ⟨s1, s2, _⟩ := splitF_pos (n := n) h
  exact ⟨s1, s2⟩
theorem splitN_eq {n : Nat} (h : 2 ≤ n) : splitN n = 2 ^ (n - 1).log2 := by
  unfold splitN splitF bitLen
  rw [if_neg (by omega)]
  have hb : ((n : Int) - 1).toNat = n - 1 := by omega
  rw [hb, if_neg (by omega)]
  have : ((2 : Int) ^ ((n - 1).log2 + 1 - 1)) = ((2 ^ (n - 1).log2 : Nat) : Int) := by simp
  rw [this]; rfl
theorem splitN_of {n j : Nat} (h1 : 2 ^ j < n) (h2 : n ≤ 2 * 2 ^ j) : splitN n = 2 ^ j := by
  have h3 : 0 < 2 ^ j := Nat.pow_pos (by decide)
  rw [splitN_eq (by omega)]
  congr 1
  rw [Nat.log2_eq_iff (by omega)]
  rw [Nat.pow_succ]; omega
def rootR (kk : Nat → BitVec 32) (ds : List D) : D :=
  if h : ds.length ≤ 1 then (if ds.length = 0 then shaOf kk [] else ds.getD 0 d0)
  else knotF kk (rootR kk (ds.take (splitN ds.length))) (rootR kk (ds.drop (splitN ds.length)))
termination_by ds.length
decreasing_by
  · have := splitN_pos (n := ds.length) (by omega)
    simp; omega
  · have := splitN_pos (n := ds.length) (by omega)
    simp; omega
theorem rootR_two (kk : Nat → BitVec 32) {ds : List D} (h : 2 ≤ ds.length) : rootR kk ds = knotF kk (rootR kk (ds.take (splitN ds.length))) (rootR kk (ds.drop (splitN ds.length))) := by
  rw [rootR, dif_neg (by omega)]
theorem rootR_one (kk : Nat → BitVec 32) (d : D) : rootR kk [d] = d := by
  rw [rootR, dif_pos (by simp)]; simp
def pk (kk : Nat → BitVec 32) (ds : List D) : List D :=
  if h : ds.length = 0 then [] else rootR kk (ds.take (big ds.length)) :: pk kk (ds.drop (big ds.length))
termination_by ds.length
decreasing_by
  have := big_le (n := ds.length) (by omega)
  simp; omega
theorem pk_pos (kk : Nat → BitVec 32) {ds : List D} (h : 0 < ds.length) : pk kk ds = rootR kk (ds.take (big ds.length)) :: pk kk (ds.drop (big ds.length)) := by
  rw [pk, dif_neg (by omega)]
theorem pk_nil (kk : Nat → BitVec 32) {ds : List D} (h : ds.length = 0) : pk kk ds = [] := by
  rw [pk, dif_pos h]
theorem knotL_cons (kk : Nat → BitVec 32) {P : List D} (a : D) (h : 2 ≤ P.length) : knotL kk (a :: P) = a :: knotL kk P := by
  unfold knotL
  simp only [List.length_cons]
  rw [show P.length + 1 - 2 = (P.length - 2) + 1 from by omega, show P.length + 1 - 1 = (P.length - 1) + 1 from by omega]
  simp
theorem knotN_cons (kk : Nat → BitVec 32) {P : List D} (a : D) : ∀ n, n + 1 ≤ P.length → knotN kk n (a :: P) = a :: knotN kk n P
  | 0, _ => rfl
  | n + 1, h => by
    simp only [knotN]
    rw [knotN_cons kk a n (by omega), knotL_cons kk a (by rw [knotN_len kk n (by omega)]; omega)]
theorem knotL_two (kk : Nat → BitVec 32) (a b : D) : knotL kk [a, b] = [knotF kk a b] := by simp [knotL]
theorem pk_add (kk : Nat → BitVec 32) (d : D) : ∀ (n : Nat) (ds : List D), ds.length = n → tz (n + 1) ≤ (pk kk ds).length ∧ knotN kk (tz (n + 1)) (pk kk ds ++ [d]) = pk kk (ds ++ [d]) := by
  intro n
  induction n using Nat.strongRecOn with
  | ind n ih =>
    intro ds hn
    rcases Nat.eq_zero_or_pos n with h0 | h0
    · subst h0
      have : ds = [] := List.eq_nil_of_length_eq_zero hn
      subst this
      rw [pk_nil kk rfl]
      refine ⟨by decide, ?_⟩
      rw [pk_pos kk (by simp)]
      simp only [List.nil_append, List.length_cons, List.length_nil]
      rw [show big (0 + 1) = 1 from by decide, show tz (0 + 1) = 0 from by decide]
      simp [rootR_one, pk_nil, knotN]
    · obtain ⟨b1, b2, b3⟩ := big_le h0
      have ht := tz_step h0
      obtain ⟨i1, i2⟩ := ih (n - big n) (by omega) (ds.drop (big n)) (by simp [hn])
      have hp : pk kk ds = rootR kk (ds.take (big n)) :: pk kk (ds.drop (big n)) := by rw [pk_pos kk (by omega), hn]
      rw [hp]
      by_cases hd : n + 1 = 2 * big n
      · rw [if_pos hd] at ht
        rw [ht]
        refine ⟨by simp; omega, ?_⟩
        rw [List.cons_append]
        show knotL kk (knotN kk _ _) = _
        rw [knotN_cons kk _ _ (by simp; omega), i2]
        have hl2 : (ds.drop (big n) ++ [d]).length = big n := by simp [hn]; omega
        have e1 : pk kk (ds.drop (big n) ++ [d]) = [rootR kk (ds.drop (big n) ++ [d])] := by
          rw [pk_pos kk (by simp)]
          have hb : big (ds.drop (big n) ++ [d]).length = (ds.drop (big n) ++ [d]).length := by
            rw [hl2]; unfold big; rw [Nat.log2_two_pow]
          rw [hb, List.take_length, List.drop_length, pk_nil kk rfl]
        rw [e1, knotL_two, pk_pos kk (by simp)]
        have hlen : (ds ++ [d]).length = n + 1 := by simp [hn]
        rw [hlen, big_dbl h0 hd, ← hlen, List.take_length, List.drop_length, pk_nil kk rfl, rootR_two kk (ds := ds ++ [d]) (by omega), hlen]
        have hs : splitN (n + 1) = big n := splitN_of (by unfold big at *; omega) (by unfold big at *; omega)
        rw [hs, List.take_append_of_le_length (by omega), List.drop_append_of_le_length (by omega)]
      · rw [if_neg hd] at ht
        simp only [Nat.add_zero] at ht
        rw [ht]
        refine ⟨by simp; omega, ?_⟩
        rw [List.cons_append, knotN_cons kk _ _ (by simp; omega), i2, pk_pos kk (ds := ds ++ [d]) (by simp)]
        have hlen : (ds ++ [d]).length = n + 1 := by simp [hn]
        rw [hlen, big_add h0 (by omega), List.take_append_of_le_length (by omega), List.drop_append_of_le_length (by omega)]
theorem peak_pk (kk : Nat → BitVec 32) (ds : List D) : ∀ i, i ≤ ds.length → peakI kk ds i = pk kk (ds.take i)
  | 0, _ => by rw [pk_nil kk (by simp)]; rfl
  | i + 1, h => by
    simp only [peakI]
    rw [peak_pk kk ds i (by omega), (pk_add kk (ds.getD i d0) i (ds.take i) (by simp; omega)).2]
    congr 1
    rw [List.take_add_one]
    congr 1
    simp [List.getD_eq_getElem?_getD, show i < ds.length from by omega]
theorem pk_fold (kk : Nat → BitVec 32) : ∀ (n : Nat) (ds : List D), ds.length = n → 0 < n → 1 ≤ (pk kk ds).length ∧ knotN kk ((pk kk ds).length - 1) (pk kk ds) = [rootR kk ds] := by
  intro n
  induction n using Nat.strongRecOn with
  | ind n ih =>
    intro ds hn h0
    obtain ⟨b1, b2, b3⟩ := big_le h0
    have hp : pk kk ds = rootR kk (ds.take (big n)) :: pk kk (ds.drop (big n)) := by rw [pk_pos kk (by omega), hn]
    rw [hp]
    refine ⟨by simp, ?_⟩
    rcases Nat.eq_or_lt_of_le b1 with he | hlt
    · rw [pk_nil kk (ds := ds.drop (big n)) (by simp; omega), List.take_of_length_le (by omega)]; rfl
    · obtain ⟨i1, i2⟩ := ih (n - big n) (by omega) (ds.drop (big n)) (by simp [hn]) (by omega)
      simp only [List.length_cons, Nat.add_sub_cancel]
      obtain ⟨m, hm⟩ : ∃ m, (pk kk (ds.drop (big n))).length = m + 1 := ⟨_, (Nat.sub_add_cancel i1).symm⟩
      rw [hm] at i2 ⊢
      show knotL kk (knotN kk m _) = _
      rw [knotN_cons kk _ m (by omega)]
      rw [Nat.add_sub_cancel] at i2
      rw [i2, knotL_two, rootR_two kk (ds := ds) (by omega), hn]
      have hs : splitN n = big n := splitN_of (by unfold big at *; omega) (by unfold big at *; omega)
      rw [hs]
theorem rootI_eq (kk : Nat → BitVec 32) (ds : List D) : rootI kk ds = rootR kk ds := by
  unfold rootI
  split
  · rename_i h0
    rw [rootR, dif_pos (by omega), if_pos h0]
  · rename_i h0
    have hp := peak_pk kk ds ds.length (Nat.le_refl _)
    rw [List.take_length] at hp
    have hl := peakI_len kk ds ds.length
    rw [← hl, hp, (pk_fold kk ds.length ds rfl (by omega)).2]
    rfl
theorem rootI_two (kk : Nat → BitVec 32) {ds : List D} (h : 2 ≤ ds.length) : rootI kk ds = knotF kk (rootI kk (ds.take (splitN ds.length))) (rootI kk (ds.drop (splitN ds.length))) := by
  rw [rootI_eq, rootR_two kk h, rootI_eq, rootI_eq]
end Go.Flat
end
section
set_option linter.unusedVariables false
set_option maxRecDepth 20000
namespace Go.Flat
open Go.Proofs
variable {G : Glob}

theorem consN_acc (kk : Nat → BitVec 32) : ∀ (f : Nat) (l : List D) (m : Nat) (kn : Bool) (dn : List D), consN kk f l m kn dn = dn ++ consN kk f l m kn []
  | 0, l, m, kn, dn => by unfold consN; cases kn <;> simp
  | f + 1, l, m, kn, dn => by
    unfold consN
    split
    · cases kn <;> simp
    · dsimp only
      split
      · rw [consN_acc kk f _ _ _ (dn ++ _), consN_acc kk f _ _ _ ([] ++ _)]; simp
      · rw [consN_acc kk f _ _ _ (dn ++ _), consN_acc kk f _ _ _ ([] ++ _)]; simp
theorem consN_fuel (kk : Nat → BitVec 32) : ∀ (f g : Nat) (l : List D) (m : Nat) (kn : Bool) (dn : List D), 1 ≤ m → l.length ≤ f + 1 → l.length ≤ g + 1 → consN kk f l m kn dn = consN kk g l m kn dn
  | 0, 0, _, _, _, _, _, _, _ => rfl
  | 0, g + 1, l, m, kn, dn, hm, h, _ => by conv => rhs; unfold consN
                                           rw [if_pos (by omega)]; rfl
  | f + 1, 0, l, m, kn, dn, hm, _, h => by conv => lhs; unfold consN
                                           rw [if_pos (by omega)]; rfl
  | f + 1, g + 1, l, m, kn, dn, hm, h1, h2 => by
    unfold consN
    split
    · rfl
    · rename_i hl
      obtain ⟨s1, s2⟩ := splitN_pos (n := l.length) (by omega)
      unfold splitN at s1 s2
      dsimp only
      split
      · exact consN_fuel kk f g _ _ _ _ hm (by simp; omega) (by simp; omega)
      · exact consN_fuel kk f g _ _ _ _ (by omega) (by simp; omega) (by simp; omega)
def consP (kk : Nat → BitVec 32) (l : List D) (m : Nat) : List D := (consN kk l.length l m true []).reverse
theorem Cons_ok (kk : Nat → BitVec 32) (hG : G 1 = some (rowE w32 64 kk)) (hG1 : G 3 = some (rowE u8N 64 dbF)) (ds : List D) (c i : Nat) {n q : Nat} (hl : ds.length = n) (hn : n ≤ 1000000) (hc : n ≤ c) (h1 : 1 ≤ i) (hi : i ≤ n) (hq : (consP kk ds i).length = q) :
    CallL Tryd.prog G 51 [slv 0 0 n c, .int .i64 (i : Nat)] [dsR ds] (.tuple #[slv 1 0 q q, .int .i64 0]) [dsR ds, dsB (consP kk ds i)] := by
  subst hl; subst hq
  have h := Consistency_ok (G := G) kk hG hG1 ds c i hn hc h1 hi
  dsimp only at h
  rw [revN_rev] at h
  unfold consP
  rw [List.length_reverse]
  exact h
theorem splitN_half {n t : Nat} (h : 2 ≤ n) (ht : n ≤ 2 ^ (t + 1)) : splitN n ≤ 2 ^ t ∧ n - splitN n ≤ 2 ^ t ∧ n ≤ 2 * splitN n := by
  have e := splitN_eq h
  have h1 := Nat.log2_self_le (n := n - 1) (by omega)
  have h2 := Nat.lt_log2_self (n := n - 1)
  rw [Nat.pow_succ, ← e] at h2
  rw [← e] at h1
  have h3 : splitN n ≤ 2 ^ t := by
    rw [e]
    refine Nat.pow_le_pow_right (by decide) ?_
    have : 2 ^ (n - 1).log2 < 2 ^ (t + 1) := by rw [← e]; omega
    have := (Nat.pow_lt_pow_iff_right (a := 2) (by decide)).1 this
    omega
  omega
theorem consN_short (kk : Nat → BitVec 32) : ∀ (f t : Nat) (l : List D) (m : Nat) (kn : Bool), 1 ≤ m → l.length ≤ f + 1 → l.length ≤ 2 ^ t → (consN kk f l m kn []).length ≤ t + 1
  | 0, t, l, m, kn, _, _, _ => by unfold consN; cases kn <;> simp
  | f + 1, 0, l, m, kn, hm, _, h => by
    unfold consN
    rw [if_pos (by simp at h; omega)]
    cases kn <;> simp
  | f + 1, t + 1, l, m, kn, hm, hf, h => by
    unfold consN
    split
    · cases kn <;> simp
    · rename_i hl
      obtain ⟨k1, k2, _⟩ := splitN_half (n := l.length) (by omega) h
      obtain ⟨s1, s2⟩ := splitN_pos (n := l.length) (by omega)
      dsimp only
      rw [show (splitF (l.length : Int)).toNat = splitN l.length from rfl]
      split
      · rw [consN_acc, List.length_append]
        have := consN_short kk f t (l.take (splitN l.length)) m kn hm (by simp; omega) (by simp; omega)
        simp; omega
      · rw [consN_acc, List.length_append]
        have := consN_short kk f t (l.drop (splitN l.length)) (m - splitN l.length) false (by omega) (by simp; omega) (by simp; omega)
        simp; omega
theorem consP_short (kk : Nat → BitVec 32) (t : Nat) (l : List D) (m : Nat) (hm : 1 ≤ m) (h : l.length ≤ 2 ^ t) : (consP kk l m).length ≤ t + 1 := by
  unfold consP
  rw [List.length_reverse]
  exact consN_short kk _ t l m true hm (by omega) h
end Go.Flat
end
