/- Walks and plain laws: what each theorem says, within the bounds that it names. -/
import Derived.Test.YtajjalickpkkkaaDoorX14
set_option linter.unusedVariables false
set_option linter.unusedSimpArgs false
namespace Go.Flat
open Go.Proofs
variable {G : Glob}
theorem sub_last {ds : List D} {k : Nat} (h : ds.length = k) (h0 : k ≠ 0) : ds.take (ds.length - 1) = sub ds 0 (k - 1) ∧ (sub ds 0 (k - 1)).length = k - 1 := by
  rw [h]; exact ⟨(sub_eqt ds (k - 1)).symm, sub_len (by omega)⟩
theorem both_eq (kk : Nat → BitVec 32) (old : D) : ∀ (f m n : Nat) (kn : Bool) (ds : List D) (k : Nat), ds.length = k → n ≤ f → 1 ≤ m → m ≤ n →
    (∀ p, bothF kk old m n kn ds = some p → bothR kk old f m n kn ds k = (p.1, p.2, true)) ∧ (bothF kk old m n kn ds = none → (bothR kk old f m n kn ds k).2.2 = false)
  | 0, m, n, kn, ds, k, hk, hf, h1, hm => by omega
  | f + 1, m, n, kn, ds, k, hk, hf, h1, hm => by
    rcases Nat.lt_or_ge m n with hlt | hge
    · have hne : ¬ m = n := by omega
      rw [bothR, if_neg hne]
      by_cases h0 : k = 0
      · rw [if_pos h0, bothF_nil kk old m n kn (by omega) (by omega)]
        exact ⟨fun p hp => (by cases hp), fun _ => rfl⟩
      · rw [if_neg h0]
        obtain ⟨p1, p2⟩ := splitN_pos (n := n) (by omega)
        obtain ⟨t1, t2⟩ := sub_last hk h0
        have hg : ds.getD (ds.length - 1) d0 = ds.getD (k - 1) d0 := by rw [hk]
        by_cases hs : m ≤ splitN n
        · rw [if_pos (by omega), bothF_lo kk old kn hlt h1 (by omega) hs, t1, hg]
          obtain ⟨i1, i2⟩ := both_eq kk old f m (splitN n) kn (sub ds 0 (k - 1)) (k - 1) t2 (by omega) h1 hs
          refine ⟨fun p hp => ?_, fun hp => ?_⟩
          · obtain ⟨q, h3, rfl⟩ := Option.map_eq_some_iff.1 hp
            rw [i1 q h3]
          · exact i2 (Option.map_eq_none_iff.1 hp)
        · rw [if_neg (by omega), bothF_hi kk old kn hlt h1 (by omega) (by omega), t1, hg]
          obtain ⟨i1, i2⟩ := both_eq kk old f (m - splitN n) (n - splitN n) false (sub ds 0 (k - 1)) (k - 1) t2 (by omega) (by omega) (by omega)
          refine ⟨fun p hp => ?_, fun hp => ?_⟩
          · obtain ⟨q, h3, rfl⟩ := Option.map_eq_some_iff.1 hp
            rw [i1 q h3]
          · exact i2 (Option.map_eq_none_iff.1 hp)
    · obtain rfl : m = n := by omega
      rw [bothR, if_pos rfl]
      cases kn with
      | true =>
        rw [if_pos rfl, bothF_self, hk]
        by_cases h0 : k = 0
        · rw [if_pos h0, if_pos h0]
          exact ⟨fun p hp => (by injection hp with hp; subst hp; rfl), fun hp => (by cases hp)⟩
        · rw [if_neg h0, if_neg h0]
          exact ⟨fun p hp => (by cases hp), fun _ => rfl⟩
      | false =>
        rw [if_neg (by decide)]
        by_cases h0 : k = 0
        · rw [if_pos h0, bothF_nil kk old m m false (by simp) (by omega)]
          exact ⟨fun p hp => (by cases hp), fun _ => rfl⟩
        · rw [if_neg h0, bothF_end kk old m (by omega), hk]
          by_cases h2 : k = 1
          · rw [if_pos h2, if_pos h2]
            exact ⟨fun p hp => (by injection hp with hp; subst hp; rfl), fun hp => (by cases hp)⟩
          · rw [if_neg h2, if_neg h2]
            exact ⟨fun p hp => (by cases hp), fun _ => rfl⟩
theorem split_half {n t : Nat} (h2 : 2 ≤ n) (h : n ≤ 2 ^ (t + 1)) : splitN n ≤ 2 ^ t ∧ n - splitN n ≤ 2 ^ t := by
  have e := splitN_eq h2
  have h1 := Nat.log2_self_le (n := n - 1) (by omega)
  have h3 := Nat.lt_log2_self (n := n - 1)
  rw [Nat.pow_succ, ← e] at h3
  rw [← e] at h1
  have hk : splitN n ≤ 2 ^ t := by
    rw [e]
    refine Nat.pow_le_pow_right (by decide) ?_
    have : 2 ^ (n - 1).log2 < 2 ^ (t + 1) := by rw [← e]; omega
    have := (Nat.pow_lt_pow_iff_right (a := 2) (by decide)).1 this
    omega
  exact ⟨hk, by omega⟩
theorem bothF_len (kk : Nat → BitVec 32) (old : D) : ∀ (t m n : Nat) (kn : Bool) (ds : List D) (p : D × D), 1 ≤ m → m ≤ n → n ≤ 2 ^ t → bothF kk old m n kn ds = some p → ds.length ≤ t + 1
  | t, m, n, kn, ds, p, h1, hm, ht, hp => by
    rcases Nat.lt_or_ge m n with hlt | hge
    · by_cases h0 : ds.length = 0
      · omega
      · cases t with
        | zero => omega
        | succ t =>
          obtain ⟨s1, s2⟩ := split_half (n := n) (by omega) ht
          have hl : (ds.take (ds.length - 1)).length = ds.length - 1 := by simp
          obtain ⟨p1, p2⟩ := splitN_pos (n := n) (by omega)
          by_cases hs : m ≤ splitN n
          · rw [bothF_lo kk old kn hlt h1 h0 hs] at hp
            obtain ⟨q, h3, rfl⟩ := Option.map_eq_some_iff.1 hp
            have := bothF_len kk old t _ _ _ _ _ h1 hs s1 h3
            omega
          · rw [bothF_hi kk old kn hlt h1 h0 (by omega)] at hp
            obtain ⟨q, h3, rfl⟩ := Option.map_eq_some_iff.1 hp
            have := bothF_len kk old t _ _ _ _ _ (by omega) (by omega) s2 h3
            omega
    · obtain rfl : m = n := by omega
      cases kn with
      | true =>
        rw [bothF_self] at hp
        split at hp
        · omega
        · cases hp
      | false =>
        by_cases h0 : ds.length = 0
        · omega
        · rw [bothF_end kk old m h0] at hp
          split at hp
          · omega
          · cases hp
theorem refGoes_eq (kk : Nat → BitVec 32) (m : Int) (old : D) (n : Int) (root : D) (ds : List D) (k : Nat) (hk : ds.length = k) : refGoesE kk m old n root ds k = goesE kk m old n root ds := by
  unfold refGoesE goesE
  rw [hk]
  by_cases c1 : n < 0
  · rw [if_pos c1, if_pos (.inl c1)]
  rw [if_neg c1]
  by_cases c2 : 100000 < n
  · rw [if_pos c2, if_pos (by omega)]
  rw [if_neg c2]
  by_cases c3 : m < 0
  · rw [if_pos c3, if_pos (by omega)]
  rw [if_neg c3]
  by_cases c4 : n < m
  · rw [if_pos c4, if_pos (by omega)]
  rw [if_neg c4]
  by_cases c6 : m = 0
  · rw [if_pos c6]
    by_cases c7 : 0 < k
    · rw [if_pos c7, if_pos (show n < 0 ∨ 100000 < n ∨ m < 0 ∨ n < m ∨ (m = 0 ∧ 0 < k) by omega)]; split <;> rfl
    · rw [if_neg (by omega), if_neg c7, if_neg (show ¬ (n < 0 ∨ 100000 < n ∨ m < 0 ∨ n < m ∨ (m = 0 ∧ 0 < k)) by omega), if_pos c6]
      cases h1 : sameB 32 old (shaOf kk []) with
      | false => simp
      | true =>
        by_cases h2 : n = 0
        · cases h3 : sameB 32 root old <;> simp [h2]
        · simp [h2]
  · rw [if_neg c6, if_neg (show ¬ (n < 0 ∨ 100000 < n ∨ m < 0 ∨ n < m ∨ (m = 0 ∧ 0 < k)) by omega), if_neg c6]
    obtain ⟨e1, e2⟩ := both_eq kk old n.toNat m.toNat n.toNat true ds k hk (Nat.le_refl _) (by omega) (by omega)
    cases hb : bothF kk old m.toNat n.toNat true ds with
    | none =>
      dsimp only
      by_cases c5 : 40 < k
      · rw [if_pos c5]
      · rw [if_neg c5, e2 hb, if_neg (by decide)]
    | some p =>
      have := bothF_len kk old 17 _ _ _ _ _ (by omega) (by omega) (show n.toNat ≤ 2 ^ 17 by omega) hb
      rw [if_neg (by omega), e1 p hb, if_pos rfl]
      dsimp only
      cases sameB 32 p.1 old <;> cases sameB 32 p.2 root <;> simp
theorem refConsistent_ok' (kk : Nat → BitVec 32) (hG0 : G 0 = some (rowE w32 64 kk)) (m : Int) (old : D) (n : Int) (root : D) (ds : List D) (k c : Nat) (hk : ds.length = k) (hb : k ≤ 1000) (hc : k ≤ c) : CallL Tryd.prog G 16 [.int .i64 m, dgV old, .int .i64 n, dgV root, slv 0 0 k c] [dsR ds] (.int .i64 (goesE kk m old n root ds)) [dsR ds] :=
  refGoes_eq kk m old n root ds k hk ▸ refConsistent_ok (G := G) kk hG0 m old n root ds k c hk hb hc
end Go.Flat
