/- Proofs of inclusion in plain words, the tables, and the opening of rows of digests. -/
import Derived.Test.YtlpmhmhopbhahaaSha
import Derived.Test.YtlpmhmhopbhahaaFlatD
import Derived.Test.YtlpmhmhopbhahaaRows
import Derived.ProofKit
import Derived.OpenShut
import Derived.LaidMore
import Derived.Lay
import Derived.SevenTiedAt
section
set_option linter.unusedVariables false
set_option linter.unusedSimpArgs false
set_option maxRecDepth 20000
namespace Go.Flat
open Go.Proofs
variable {G : Glob}
/-! ### Plain: reversing, proofs of inclusion -/
theorem revN_get (P : List D) : ∀ (i : Nat), 2 * i ≤ P.length → ∀ j, j < P.length → (revN P i)[j]? = if j < i ∨ P.length - i ≤ j then P[P.length - 1 - j]? else P[j]?
  | 0, _, j, hj => by simp [revN]; omega
  | i + 1, h, j, hj => by
    have ih := revN_get P i (by omega)
    have hl := revN_len P i
    have gd : ∀ k, k < P.length → (revN P i)[k]? = some ((revN P i).getD k d0) := fun k hk => by
      rw [List.getD_eq_getElem?_getD, List.getElem?_eq_getElem (by omega)]; rfl
    simp only [revN]
    rcases Nat.lt_trichotomy j (P.length - 1 - i) with h1 | h1 | h1
    · rw [List.getElem?_set_ne (by omega)]
      rcases Nat.lt_trichotomy j i with h2 | h2 | h2
      · rw [List.getElem?_set_ne (by omega), ih j hj, if_pos (.inl h2), if_pos (.inl (by omega))]
      · subst h2
        rw [List.getElem?_set_self (by omega), ← gd _ (by omega), ih _ (by omega), if_neg (by omega), if_pos (.inl (by omega))]
      · rw [List.getElem?_set_ne (by omega), ih j hj, if_neg (by omega), if_neg (by omega)]
    · subst h1
      rw [List.getElem?_set_self (by rw [List.length_set]; omega), ← gd _ (by omega), ih i (by omega), if_neg (by omega), if_pos (.inr (by omega))]
      congr 1; omega
    · rw [List.getElem?_set_ne (by omega), List.getElem?_set_ne (by omega), ih j hj, if_pos (.inr (by omega)), if_pos (.inr (by omega))]
theorem revN_rev (P : List D) : revN P (P.length / 2) = P.reverse := by
  apply List.ext_getElem?
  intro j
  rcases Nat.lt_or_ge j P.length with h | h
  · rw [revN_get P _ (by omega) j h, List.getElem?_reverse h]
    split
    · rfl
    · congr 1; omega
  · rw [List.getElem?_eq_none (by rw [revN_len]; exact h), List.getElem?_eq_none (by simpa using h)]
theorem inclN_acc (kk : Nat → BitVec 32) : ∀ (f : Nat) (l : List D) (i : Nat) (dn : List D), inclN kk f l i dn = dn ++ inclN kk f l i []
  | 0, l, i, dn => by simp [inclN]
  | f + 1, l, i, dn => by
    unfold inclN
    split
    · simp
    · dsimp only
      split
      · rw [inclN_acc kk f _ _ (dn ++ _), inclN_acc kk f _ _ ([] ++ _)]; simp
      · rw [inclN_acc kk f _ _ (dn ++ _), inclN_acc kk f _ _ ([] ++ _)]; simp
theorem inclN_fuel (kk : Nat → BitVec 32) : ∀ (f g : Nat) (l : List D) (i : Nat) (dn : List D), l.length ≤ f + 1 → l.length ≤ g + 1 → inclN kk f l i dn = inclN kk g l i dn
  | 0, 0, _, _, _, _, _ => rfl
  | 0, g + 1, l, i, dn, h, _ => by conv => rhs; unfold inclN
                                   rw [if_pos (by omega)]; rfl
  | f + 1, 0, l, i, dn, _, h => by conv => lhs; unfold inclN
                                   rw [if_pos (by omega)]; rfl
  | f + 1, g + 1, l, i, dn, h1, h2 => by
    unfold inclN
    split
    · rfl
    · rename_i hl
      obtain ⟨s1, s2, _⟩ := splitF_pos (n := l.length) (by omega)
      dsimp only
      split
      · exact inclN_fuel kk f g _ _ _ (by simp; omega) (by simp; omega)
      · exact inclN_fuel kk f g _ _ _ (by simp; omega) (by simp; omega)
/-- A place's proof. -/
def inclP (kk : Nat → BitVec 32) (l : List D) (i : Nat) : List D := (inclN kk l.length l i []).reverse
def splitN (n : Nat) : Nat := (splitF n).toNat
theorem inclP_one (kk : Nat → BitVec 32) {l : List D} (i : Nat) (h : l.length ≤ 1) : inclP kk l i = [] := by
  unfold inclP
  cases e : l.length with
  | zero => rfl
  | succ n => unfold inclN; rw [if_pos h]; rfl
theorem inclP_lo (kk : Nat → BitVec 32) {l : List D} {i : Nat} (h : 2 ≤ l.length) (hi : i < splitN l.length) : inclP kk l i = inclP kk (l.take (splitN l.length)) i ++ [rootI kk (l.drop (splitN l.length))] := by
  obtain ⟨s1, s2, _⟩ := splitF_pos (n := l.length) h
  change 1 ≤ splitN l.length at s1
  change splitN l.length < l.length at s2
  unfold inclP
  obtain ⟨f, hf⟩ : ∃ f, l.length = f + 1 := ⟨l.length - 1, by omega⟩
  conv => lhs; rw [hf]; unfold inclN
  rw [if_neg (by omega)]
  dsimp only
  rw [show (splitF (l.length : Int)).toNat = splitN l.length from rfl, if_pos hi, inclN_acc, inclN_fuel kk f (l.take (splitN l.length)).length _ _ _ (by simp; omega) (by omega)]
  simp
theorem inclP_hi (kk : Nat → BitVec 32) {l : List D} {i : Nat} (h : 2 ≤ l.length) (hi : splitN l.length ≤ i) : inclP kk l i = inclP kk (l.drop (splitN l.length)) (i - splitN l.length) ++ [rootI kk (l.take (splitN l.length))] := by
  obtain ⟨s1, s2, _⟩ := splitF_pos (n := l.length) h
  change 1 ≤ splitN l.length at s1
  change splitN l.length < l.length at s2
  unfold inclP
  obtain ⟨f, hf⟩ : ∃ f, l.length = f + 1 := ⟨l.length - 1, by omega⟩
  conv => lhs; rw [hf]; unfold inclN
  rw [if_neg (by omega)]
  dsimp only
  rw [show (splitF (l.length : Int)).toNat = splitN l.length from rfl, if_neg (by omega), inclN_acc, inclN_fuel kk f (l.drop (splitN l.length)).length _ _ _ (by simp; omega) (by omega)]
  simp
theorem inclP_len (kk : Nat → BitVec 32) : ∀ (f : Nat) (l : List D) (i : Nat), l.length ≤ f → (inclP kk l i).length ≤ l.length
  | 0, l, i, h => by rw [inclP_one kk i (by omega)]; simp
  | f + 1, l, i, h => by
    by_cases h2 : 2 ≤ l.length
    · obtain ⟨s1, s2, _⟩ := splitF_pos (n := l.length) h2
      change 1 ≤ splitN l.length at s1
      change splitN l.length < l.length at s2
      by_cases hi : i < splitN l.length
      · rw [inclP_lo kk h2 hi, List.length_append]
        have := inclP_len kk f (l.take (splitN l.length)) i (by simp; omega)
        simp at this ⊢; omega
      · rw [inclP_hi kk h2 (by omega), List.length_append]
        have := inclP_len kk f (l.drop (splitN l.length)) (i - splitN l.length) (by simp; omega)
        simp at this ⊢; omega
    · rw [inclP_one kk i (by omega)]; simp
/-! ### Contracts for parts of a row -/
theorem emb_sub {H : List Blk} {e : Emb} {id o m j : Nat} {ds : List D} {B : Blk} (hB : H[id]? = some B) (hb : B = dsR ds ∨ B = dsB ds) (h : o + m ≤ ds.length) (hj : j = o * 32) : embOneM H e (some (id, j)) (dsR (sub ds o m)) := by
  subst hj
  have hc : B.cells = dsC ds := by rcases hb with rfl | rfl <;> rfl
  refine emb_ro hB (by rcases hb with rfl | rfl <;> rfl) ?_ ?_
  · show _ + (dsC _).length ≤ _
    rw [hc, dsC_len, dsC_len, sub_len h]; omega
  · show (B.cells.drop _).take (dsC _).length = dsC _
    rw [hc, dsC_len, sub_len h]
    exact dsC_sub h
theorem emb_pre {H : List Blk} {e : Emb} {id : Nat} {P : List D} {x : D} (hB : H[id]? = some (dsB (P ++ [x]))) : embOneM H e (some (id, 0)) (dsR P) := by
  refine emb_ro hB rfl ?_ ?_
  · show 0 + (dsC _).length ≤ (dsC _).length
    rw [dsC_app, List.length_append]; omega
  · show ((dsC (P ++ [x])).drop 0).take (dsC P).length = dsC P
    rw [List.drop_zero, dsC_app, List.take_append_of_le_length (Nat.le_refl _), List.take_of_length_le (Nat.le_refl _)]
end Go.Flat
end
section
set_option linter.unusedVariables false
set_option maxRecDepth 20000
namespace Go.Flat
open Go.Proofs
section
variable {H : Type} {enc : TypeId × Value → H} {P : Program} {W : World} {G : Glob} {m : MapM} {σ : List Blk}
def dsOf (n : Nat) (f : Nat → BitVec 8) : List D := (List.range n).map fun i j => f (i * 32 + j)
theorem dsOf_len (n : Nat) (f : Nat → BitVec 8) : (dsOf n f).length = n := by simp [dsOf]
theorem dsC_dsOf (f : Nat → BitVec 8) : ∀ n, dsC (dsOf n f) = rowE w8 (n * 32) f
  | 0 => rfl
  | n + 1 => by
    have ih := dsC_dsOf f n
    have e : dsOf (n + 1) f = dsOf n f ++ [fun j => f (n * 32 + j)] := by simp [dsOf, List.range_succ]
    rw [e, dsC_app, ih]
    simp only [dsC, List.map_cons, List.map_nil, List.flatten_cons, List.flatten_nil, List.append_nil]
    unfold rowE
    rw [show (n + 1) * 32 = n * 32 + 32 from by omega, List.range_add, List.map_append, List.map_map]
    rfl
/-- One more argument: a row of digests. -/
theorem HRel.addDs (h : HRel G m σ W) (hm : ∀ b r, m b = some r → r.wr = false) {t ta tb : TypeId} {base : Nat} {v : Value} {d : DataW H} {p : List MemPlace} (ht : P.underlying t = some (.slice ta)) (hta : P.underlying ta = some (.array 32 tb)) (htb : P.underlying tb = some (.int .u8)) (hca : P.cellsOf ta = 32) (hcb : P.cellsOf tb = 1)
    (hv : Value.okWide P W .any base t v) (ho : DataW.Trod enc P W 0 (fun _ => true) true t v d p) :
    ∃ (ds : List D) (c : Nat) (m' : MapM), ds.length ≤ c ∧ c ≤ 9223372036854775807 ∧ HRel G m' (σ ++ [dsR ds]) W ∧ (∀ b r, m' b = some r → r.wr = false) ∧ (∀ b r, m b = some r → m' b = some r) ∧ VR m' (slv σ.length 0 ds.length c) v := by
  obtain ⟨len, c, f, r, h1, h2, r1, r2, r3, r4, r5, h3, h4⟩ := open_arrs (n := 32) (by decide) ht hta htb hca hcb hv ho
  have hl := dsOf_len len f
  have hc : (dsR (dsOf len f)).cells = rowE w8 (len * 32) f := dsC_dsOf f len
  obtain ⟨g1, g2, g3⟩ := h.addRow hm (blk := dsR (dsOf len f)) (r := r) rfl (show 0 < 32 by decide) r1 r2 (by rw [hc, rowE_len, r3]) r4 r5 (fun i v hv => by
    rw [hc] at hv
    have hi : i < len * 32 := by
      have := (List.getElem?_eq_some_iff.1 hv).1
      rw [rowE_len] at this; exact this
    refine ⟨_, h3 i hi, ?_⟩
    have : v = .int .u8 ((f i).toNat : Int) := by
      unfold rowE at hv
      simp [hi] at hv
      exact hv.symm
    subst this
    exact CR.of_pure rfl) (fun _ v hv => by
    have := dsC_pure (dsOf len f)
    rw [List.all_eq_true] at this
    exact this v hv)
  refine ⟨dsOf len f, c, _, by rw [hl]; exact h1, h2, g1, g2, g3, ?_⟩
  rw [hl]
  exact h4 _ _ (if_pos rfl)
end
end Go.Flat
end
