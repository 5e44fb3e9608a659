/- Proofs of inclusion in plain words, the tables, and the opening of rows of digests. -/
import Derived.Test.YtnifcpffloojcaaDoorSha
import Derived.Test.YtnifcpffloojcaaDoorFlatD
import Derived.Test.YtnifcpffloojcaaDoorTie
import Derived.Test.YtnifcpffloojcaaDoorCards
import Derived.ProofKit
import Derived.OpenShut
import Derived.LaidMore
import Derived.Lay
import Derived.SevenTiedAt
section
set_option linter.unusedVariables false
set_option linter.unusedSimpArgs false
set_option maxRecDepth 20000
namespace Go.Flat
open Go.Proofs
variable {G : Glob}

theorem revN_get (P : List D) : ∀ (i : Nat), 2 * i ≤ P.length → ∀ j, j < P.length → (revN P i)[j]? = if j < i ∨ P.length - i ≤ j then P[P.length - 1 - j]? else P[j]?
  | 0, _, j, hj => by simp [revN]; omega
  | i + 1, h, j, hj => by
    have ih := revN_get P i (by omega)
    have hl := revN_len P i
    have gd : ∀ k, k < P.length → (revN P i)[k]? = some ((revN P i).getD k d0) := fun k hk => by
      rw [List.getD_eq_getElem?_getD, List.getElem?_eq_getElem (by omega)]; rfl
    simp only [revN]
    rcases Nat.lt_trichotomy j (P.length - 1 - i) with h1 | h1 | h1
    · rw [List.getElem?_set_ne (by omega)]
      rcases Nat.lt_trichotomy j i with h2 | h2 | h2
      · rw [List.getElem?_set_ne (by omega), ih j hj, if_pos (.inl h2), if_pos (.inl (by omega))]
      · subst h2
        rw [List.getElem?_set_self (by omega), ← gd _ (by omega), ih _ (by omega), if_neg (by omega), if_pos (.inl (by omega))]
      · rw [List.getElem?_set_ne (by omega), ih j hj, if_neg (by omega), if_neg (by omega)]
    · subst h1
      rw [List.getElem?_set_self (by rw [List.length_set]; omega), ← gd _ (by omega), ih i (by omega), if_neg (by omega), if_pos (.inr (by omega))]
      congr 1; omega
    · rw [List.getElem?_set_ne (by omega), List.getElem?_set_ne (by omega), ih j hj, if_pos (.inr (by omega)), if_pos (.inr (by omega))]
theorem revN_rev (P : List D) : revN P (P.length / 2) = P.reverse := by
  apply List.ext_getElem?
  intro j
  rcases Nat.lt_or_ge j P.length with h | h
  · rw [revN_get P _ (by omega) j h, List.getElem?_reverse h]
    split
    · rfl
    · congr 1; omega
  · rw [List.getElem?_eq_none (by rw [revN_len]; exact h), List.getElem?_eq_none (by simpa using h)]
theorem inclN_acc (kk : Nat → BitVec 32) : ∀ (f : Nat) (l : List D) (i : Nat) (dn : List D), inclN kk f l i dn = dn ++ inclN kk f l i []
  | 0, l, i, dn => by simp [inclN]
  | f + 1, l, i, dn => by
    unfold inclN
    split
    · simp
    · dsimp only
      split
      · rw [inclN_acc kk f _ _ (dn ++ _), inclN_acc kk f _ _ ([] ++ _)]; simp
      · rw [inclN_acc kk f _ _ (dn ++ _), inclN_acc kk f _ _ ([] ++ _)]; simp
theorem inclN_fuel (kk : Nat → BitVec 32) : ∀ (f g : Nat) (l : List D) (i : Nat) (dn : List D), l.length ≤ f + 1 → l.length ≤ g + 1 → inclN kk f l i dn = inclN kk g l i dn
  | 0, 0, _, _, _, _, _ => rfl
  | 0, g + 1, l, i, dn, h, _ => by conv => rhs; unfold inclN
                                   rw [if_pos (by omega)]; rfl
  | f + 1, 0, l, i, dn, _, h => by conv => lhs; unfold inclN
                                   rw [if_pos (by omega)]; rfl
  | f + 1, g + 1, l, i, dn, h1, h2 => by
    unfold inclN
    split
    · rfl
    · rename_i hl
      obtain ⟨s1, s2, _⟩ := splitF_pos (n := l.length) (by omega)
      dsimp only
      split
      · exact inclN_fuel kk f g _ _ _ (by simp; omega) (by simp; omega)
      · exact inclN_fuel kk f g _ _ _ (by simp; omega) (by simp; omega)
def inclP (kk : Nat → BitVec 32) (l : List D) (i : Nat) : List D := (inclN kk l.length l i []).reverse
def splitN (n : Nat) : Nat := (splitF n).toNat
theorem inclP_one (kk : Nat → BitVec 32) {l : List D} (i : Nat) (h : l.length ≤ 1) : inclP kk l i = [] := by
  unfold inclP
  cases e : l.length with
  | zero => rfl
  | succ n => unfold inclN; rw [if_pos h]; rfl
theorem inclP_lo (kk : Nat → BitVec 32) {l : List D} {i : Nat} (h : 2 ≤ l.length) (hi : i < splitN l.length) : inclP kk l i = inclP kk (l.take (splitN l.length)) i ++ [rootI kk (l.drop (splitN l.length))] := by
  obtain ⟨s1, s2, _⟩ := splitF_pos (n := l.length) h
  change 1 ≤ splitN l.length at s1
  change splitN l.length < l.length at s2
  unfold inclP
  obtain ⟨f, hf⟩ : ∃ f, l.length = f + 1 := ⟨l.length - 1, by omega⟩
  conv => lhs; rw [hf]; unfold inclN
  rw [if_neg (by omega)]
  dsimp only
  rw [show (splitF (l.length : Int)).toNat = splitN l.length from rfl, if_pos hi, inclN_acc, inclN_fuel kk f (l.take (splitN l.length)).length _ _ _ (by simp; omega) (by omega)]
  simp
theorem inclP_hi (kk : Nat → BitVec 32) {l : List D} {i : Nat} (h : 2 ≤ l.length) (hi : splitN l.length ≤ i) : inclP kk l i = inclP kk (l.drop (splitN l.length)) (i - splitN l.length) ++ [rootI kk (l.take (splitN l.length))] := by
  obtain ⟨s1, s2, _⟩ := splitF_pos (n := l.length) h
  change 1 ≤ splitN l.length at s1
  change splitN l.length < l.length at s2
  unfold inclP
  obtain ⟨f, hf⟩ : ∃ f, l.length = f + 1 := ⟨l.length - 1, by omega⟩
  conv => lhs; rw [hf]; unfold inclN
  rw [if_neg (by omega)]
  dsimp only
  rw [show (splitF (l.length : Int)).toNat = splitN l.length from rfl, if_neg (by omega), inclN_acc, inclN_fuel kk f (l.drop (splitN l.length)).length _ _ _ (by simp; omega) (by omega)]
  simp

theorem Incl_ok (kk : Nat → BitVec 32) (hG : G 3 = some (rowE w32 64 kk)) (hG1 : G 1 = some (rowE u8N 64 dbF)) (ds : List D) (c i : Nat) {n q : Nat} (hl : ds.length = n) (hn : n ≤ 1000000) (hc : n ≤ c) (hi : i < n) (hq : (inclP kk ds i).length = q) :
    CallL Tryd.prog G 37 [slv 0 0 n c, .int .i64 (i : Nat)] [dsR ds] (.tuple #[slv 1 0 q q, .int .i64 0]) [dsR ds, dsB (inclP kk ds i)] := by
  subst hl; subst hq
  have h := Inclusion_ok (G := G) kk hG hG1 ds c i hn hc hi
  dsimp only at h
  rw [revN_rev] at h
  unfold inclP
  rw [List.length_reverse]
  exact h
theorem Root_ok' (kk : Nat → BitVec 32) (hG : G 3 = some (rowE w32 64 kk)) (hG1 : G 1 = some (rowE u8N 64 dbF)) (ds : List D) {c n : Nat} {x : D} (hl : ds.length = n) (hn : n ≤ 1000000) (hc : n ≤ c) (hx : rootI kk ds = x) :
    CallL Tryd.prog G 31 [slv 0 0 n c] [dsR ds] (dgV x) [dsR ds] := by
  subst hl; subst hx
  exact Root_ok (G := G) kk hG hG1 ds c hn hc
theorem emb_sub {H : List Blk} {e : Emb} {id o m j : Nat} {ds : List D} {B : Blk} (hB : H[id]? = some B) (hb : B = dsR ds ∨ B = dsB ds) (h : o + m ≤ ds.length) (hj : j = o * 32) : embOneM H e (some (id, j)) (dsR (sub ds o m)) := by
  subst hj
  have hc : B.cells = dsC ds := by rcases hb with rfl | rfl <;> rfl
  refine emb_ro hB (by rcases hb with rfl | rfl <;> rfl) ?_ ?_
  · show _ + (dsC _).length ≤ _
    rw [hc, dsC_len, dsC_len, sub_len h]; omega
  · show (B.cells.drop _).take (dsC _).length = dsC _
    rw [hc, dsC_len, sub_len h]
    exact dsC_sub h
end Go.Flat
end
section
set_option linter.unusedVariables false
set_option maxRecDepth 20000
namespace Go.Flat
open Go.Proofs
section
variable {H : Type} {enc : TypeId × Value → H} {P : Program} {W : World} {G : Glob} {m : MapM} {σ : List Blk}
def dsOf (n : Nat) (f : Nat → BitVec 8) : List D := (List.range n).map fun i j => f (i * 32 + j)
end
end Go.Flat
end
