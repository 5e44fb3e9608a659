/- Proofs of inclusion in plain words, the tables, and the opening of rows of digests. -/
import Derived.Test.YtgmnjggeffdjhaaDoorSha
import Derived.Test.YtgmnjggeffdjhaaDoorFlatD
import Derived.Test.YtgmnjggeffdjhaaDoorTie
import Derived.Test.YtgmnjggeffdjhaaDoorCards
import Derived.ProofKit
import Derived.OpenShut
import Derived.LaidMore
import Derived.Lay
import Derived.SevenTiedAt
section
set_option linter.unusedVariables false
set_option linter.unusedSimpArgs false
set_option maxRecDepth 20000
namespace Go.Flat
open Go.Proofs
variable {G : Glob}
/-! ### Plain: reversing, proofs of inclusion -/
/-- A place's proof. -/
def inclP (kk : Nat → BitVec 32) (l : List D) (i : Nat) : List D := (inclN kk l.length l i []).reverse
def splitN (n : Nat) : Nat := (splitF n).toNat
/-! ### Contracts for parts of a row -/
theorem emb_sub {H : List Blk} {e : Emb} {id o m j : Nat} {ds : List D} {B : Blk} (hB : H[id]? = some B) (hb : B = dsR ds ∨ B = dsB ds) (h : o + m ≤ ds.length) (hj : j = o * 32) : embOneM H e (some (id, j)) (dsR (sub ds o m)) := by
  subst hj
  have hc : B.cells = dsC ds := by rcases hb with rfl | rfl <;> rfl
  refine emb_ro hB (by rcases hb with rfl | rfl <;> rfl) ?_ ?_
  · show _ + (dsC _).length ≤ _
    rw [hc, dsC_len, dsC_len, sub_len h]; omega
  · show (B.cells.drop _).take (dsC _).length = dsC _
    rw [hc, dsC_len, sub_len h]
    exact dsC_sub h
end Go.Flat
end
section
set_option linter.unusedVariables false
set_option maxRecDepth 20000
namespace Go.Flat
open Go.Proofs
section
variable {H : Type} {enc : TypeId × Value → H} {P : Program} {W : World} {G : Glob} {m : MapM} {σ : List Blk}
def dsOf (n : Nat) (f : Nat → BitVec 8) : List D := (List.range n).map fun i j => f (i * 32 + j)
theorem dsOf_len (n : Nat) (f : Nat → BitVec 8) : (dsOf n f).length = n := by simp [dsOf]
theorem dsC_dsOf (f : Nat → BitVec 8) : ∀ n, dsC (dsOf n f) = rowE w8 (n * 32) f
  | 0 => rfl
  | n + 1 => by
    have ih := dsC_dsOf f n
    have e : dsOf (n + 1) f = dsOf n f ++ [fun j => f (n * 32 + j)] := by simp [dsOf, List.range_succ]
    rw [e, dsC_app, ih]
    simp only [dsC, List.map_cons, List.map_nil, List.flatten_cons, List.flatten_nil, List.append_nil]
    unfold rowE
    rw [show (n + 1) * 32 = n * 32 + 32 from by omega, List.range_add, List.map_append, List.map_map]
    rfl
/-- One more argument: a row of digests. -/
theorem HRel.addDs (h : HRel G m σ W) (hm : ∀ b r, m b = some r → r.wr = false) {t ta tb : TypeId} {base : Nat} {v : Value} {d : DataW H} {p : List MemPlace} (ht : P.underlying t = some (.slice ta)) (hta : P.underlying ta = some (.array 32 tb)) (htb : P.underlying tb = some (.int .u8)) (hca : P.cellsOf ta = 32) (hcb : P.cellsOf tb = 1)
    (hv : Value.okWide P W .any base t v) (ho : DataW.Trod enc P W 0 (fun _ => true) true t v d p) :
    ∃ (ds : List D) (c : Nat) (m' : MapM), ds.length ≤ c ∧ c ≤ 9223372036854775807 ∧ HRel G m' (σ ++ [dsR ds]) W ∧ (∀ b r, m' b = some r → r.wr = false) ∧ (∀ b r, m b = some r → m' b = some r) ∧ VR m' (slv σ.length 0 ds.length c) v := by
  obtain ⟨len, c, f, r, h1, h2, r1, r2, r3, r4, r5, h3, h4⟩ := open_arrs (n := 32) (by decide) ht hta htb hca hcb hv ho
  have hl := dsOf_len len f
  have hc : (dsR (dsOf len f)).cells = rowE w8 (len * 32) f := dsC_dsOf f len
  obtain ⟨g1, g2, g3⟩ := h.addRow hm (blk := dsR (dsOf len f)) (r := r) rfl (show 0 < 32 by decide) r1 r2 (by rw [hc, rowE_len, r3]) r4 r5 (fun i v hv => by
    rw [hc] at hv
    have hi : i < len * 32 := by
      have := (List.getElem?_eq_some_iff.1 hv).1
      rw [rowE_len] at this; exact this
    refine ⟨_, h3 i hi, ?_⟩
    have : v = .int .u8 ((f i).toNat : Int) := by
      unfold rowE at hv
      simp [hi] at hv
      exact hv.symm
    subst this
    exact CR.of_pure rfl) (fun _ v hv => by
    have := dsC_pure (dsOf len f)
    rw [List.all_eq_true] at this
    exact this v hv)
  refine ⟨dsOf len f, c, _, by rw [hl]; exact h1, h2, g1, g2, g3, ?_⟩
  rw [hl]
  exact h4 _ _ (if_pos rfl)
end
end Go.Flat
end
