/- Proofs of inclusion in plain words, the tables, and the opening of rows of digests. -/
import Derived.Test.YtgmnjggeffdjhaaDoorSha
import Derived.Test.YtgmnjggeffdjhaaDoorFlatD
import Derived.Test.YtgmnjggeffdjhaaDoorTie
import Derived.Test.YtgmnjggeffdjhaaDoorCards
import Derived.ProofKit
import Derived.OpenShut
import Derived.LaidMore
import Derived.Lay
import Derived.SevenTiedAt
section
set_option linter.unusedVariables false
set_option linter.unusedSimpArgs false
set_option maxRecDepth 20000
namespace Go.Flat
open Go.Proofs
variable {G : Glob}

theorem revN_get (P : List D) : ∀ (i : Nat), 2 * i ≤ P.length → ∀ j, j < P.length → (revN P i)[j]? = if j < i ∨ P.length - i ≤ j then P[P.length - 1 - j]? else P[j]?
  | 0, _, j, hj => by simp [revN]; omega
  | i + 1, h, j, hj => by
    have ih := revN_get P i (by omega)
    have hl := revN_len P i
    have gd : ∀ k, k < P.length → (revN P i)[k]? = some ((revN P i).getD k d0) := fun k hk => by
      rw [List.getD_eq_getElem?_getD, List.getElem?_eq_getElem (by omega)]; rfl
    simp only [revN]
    rcases Nat.lt_trichotomy j (P.length - 1 - i) with h1 | h1 | h1
    · rw [List.getElem?_set_ne (by omega)]
      rcases Nat.lt_trichotomy j i with h2 | h2 | h2
      · rw [List.getElem?_set_ne (by omega), ih j hj, if_pos (.inl h2), if_pos (.inl (by omega))]
      · subst h2
        rw [List.getElem?_set_self (by omega), ← gd _ (by omega), ih _ (by omega), if_neg (by omega), if_pos (.inl (by omega))]
      · rw [List.getElem?_set_ne (by omega), ih j hj, if_neg (by omega), if_neg (by omega)]
    · subst h1
      rw [List.getElem?_set_self (by rw [List.length_set]; omega), ← gd _ (by omega), ih i (by omega), if_neg (by omega), if_pos (.inr (by omega))]
      congr 1; omega
    · rw [List.getElem?_set_ne (by omega), List.getElem?_set_ne (by omega), ih j hj, if_pos (.inr (by omega)), if_pos (.inr (by omega))]
theorem revN_rev (P : List D) : revN P (P.length / 2) = P.reverse := by
  apply List.ext_getElem?
  intro j
  rcases Nat.lt_or_ge j P.length with h | h
  · rw [revN_get P _ (by omega) j h, List.getElem?_reverse h]
    split
    · rfl
    · congr 1; omega
  · rw [List.getElem?_eq_none (by rw [revN_len]; exact h), List.getElem?_eq_none (by simpa using h)]
def inclP (kk : Nat → BitVec 32) (l : List D) (i : Nat) : List D := (inclN kk l.length l i []).reverse
def splitN (n : Nat) : Nat := (splitF n).toNat

theorem Root_ok' (kk : Nat → BitVec 32) (hG : G 1 = some (rowE w32 64 kk)) (hG1 : G 3 = some (rowE u8N 64 dbF)) (ds : List D) {c n : Nat} {x : D} (hl : ds.length = n) (hn : n ≤ 1000000) (hc : n ≤ c) (hx : rootI kk ds = x) :
    CallL Tryd.prog G 73 [slv 0 0 n c] [dsR ds] (dgV x) [dsR ds] := by
  subst hl; subst hx
  exact Root_ok (G := G) kk hG hG1 ds c hn hc
theorem emb_sub {H : List Blk} {e : Emb} {id o m j : Nat} {ds : List D} {B : Blk} (hB : H[id]? = some B) (hb : B = dsR ds ∨ B = dsB ds) (h : o + m ≤ ds.length) (hj : j = o * 32) : embOneM H e (some (id, j)) (dsR (sub ds o m)) := by
  subst hj
  have hc : B.cells = dsC ds := by rcases hb with rfl | rfl <;> rfl
  refine emb_ro hB (by rcases hb with rfl | rfl <;> rfl) ?_ ?_
  · show _ + (dsC _).length ≤ _
    rw [hc, dsC_len, dsC_len, sub_len h]; omega
  · show (B.cells.drop _).take (dsC _).length = dsC _
    rw [hc, dsC_len, sub_len h]
    exact dsC_sub h
end Go.Flat
end
section
set_option linter.unusedVariables false
set_option maxRecDepth 20000
namespace Go.Flat
open Go.Proofs
section
variable {H : Type} {enc : TypeId × Value → H} {P : Program} {W : World} {G : Glob} {m : MapM} {σ : List Blk}
def dsOf (n : Nat) (f : Nat → BitVec 8) : List D := (List.range n).map fun i j => f (i * 32 + j)
end
end Go.Flat
end
