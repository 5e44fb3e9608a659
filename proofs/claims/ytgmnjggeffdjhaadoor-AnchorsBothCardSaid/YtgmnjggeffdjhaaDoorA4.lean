/- Walks and plain laws: what each theorem says, within the bounds that it names. -/
import Derived.Test.YtgmnjggeffdjhaaDoorA3
set_option linter.unusedVariables false
set_option linter.unusedSimpArgs false
set_option maxRecDepth 20000
namespace Go.Flat
open Go.Proofs
variable {G : Glob}
theorem apE_comm (kk : Nat → BitVec 32) (m : D) (a b : Signed) : apE kk m a b = apE kk m b a := by
  unfold apE
  rw [eqHead_comm, sameB_comm 32 a.head.root, Bool.and_comm (decide (verifyR kk m a = 0))]
theorem apE_t {kk : Nat → BitVec 32} {m : D} {a b : Signed} (h : apE kk m a b = true) : verifyR kk m a = 0 ∧ sameB 32 a.head.root b.head.root = false ∧ a.head.size = b.head.size := by
  unfold apE at h
  simp only [Bool.and_eq_true, decide_eq_true_eq, Bool.not_eq_true', eqHead, beq_iff_eq] at h
  exact ⟨h.1.1.1, h.2, h.1.2.2.2.1⟩
def anQ (l : List Item) (r : Int) (i : Nat) : Prop := (l.getD i default).entry.kind = 2 ∧ (l.getD i default).entry.head.head.region = r
/-- The last anchor among the first i items lies at a place, or there is none. -/
def lastI (l : List Item) (r : Int) (i : Nat) (at_ : Int) : Prop := (at_ = -1 ∧ ∀ j, j < i → ¬ anQ l r j) ∨ ∃ k : Nat, at_ = (k : Int) ∧ k < i ∧ anQ l r k ∧ ∀ j, k < j → j < i → ¬ anQ l r j
def anS (l : List Item) (r s : Int) (i : Nat) : Prop := (l.getD i default).entry.kind = 2 ∧ (l.getD i default).entry.head.head.region = r ∧ s < (l.getD i default).entry.head.head.size
def firstI (l : List Item) (r s : Int) (i : Nat) (fi : Int) : Prop := (fi = -1 ∧ ∀ j, j < i → ¬ anS l r s j) ∨ ∃ k : Nat, fi = (k : Int) ∧ k < i ∧ anS l r s k ∧ ∀ j, j < k → ¬ anS l r s j
section
variable {l : List Item} {r s : Int} {i : Nat} {at_ fi : Int}
theorem lastI_zero : lastI l r 0 (-1) := .inl ⟨rfl, fun j h => absurd h (by omega)⟩
theorem firstI_zero : firstI l r s 0 (-1) := .inl ⟨rfl, fun j h => absurd h (by omega)⟩
theorem lastI_no (h : lastI l r i at_) (hi : i < l.length) (hn : ¬ anQ l r i) : lastI l r (i + 1) at_ := by
  rcases h with ⟨h1, h2⟩ | ⟨k, h1, h2, h3, h4⟩
  · refine .inl ⟨h1, fun j hj => ?_⟩
    rcases Nat.lt_or_ge j i with q | q
    · exact h2 j q
    · rw [show j = i by omega]; exact hn
  · refine .inr ⟨k, h1, by omega, h3, fun j hj hj2 => ?_⟩
    rcases Nat.lt_or_ge j i with q | q
    · exact h4 j hj q
    · rw [show j = i by omega]; exact hn
theorem lastI_yes (h : lastI l r i at_) (hi : i < l.length) (hn : anQ l r i) : lastI l r (i + 1) (i : Nat) := .inr ⟨i, rfl, by omega, hn, fun j h1 h2 => by omega⟩
theorem firstI_keep (h : firstI l r s i fi) (hi : i < l.length) (hn : ¬ fi < 0 ∨ ¬ anS l r s i) : firstI l r s (i + 1) fi := by
  rcases h with ⟨h1, h2⟩ | ⟨k, h1, h2, h3, h4⟩
  · refine .inl ⟨h1, fun j hj => ?_⟩
    rcases Nat.lt_or_ge j i with q | q
    · exact h2 j q
    · rw [show j = i by omega]
      rcases hn with hn | hn
      · omega
      · exact hn
  · exact .inr ⟨k, h1, by omega, h3, h4⟩
theorem firstI_put (h : firstI l r s i fi) (hi : i < l.length) (hf : fi < 0) (hn : anS l r s i) : firstI l r s (i + 1) (i : Nat) := by
  rcases h with ⟨h1, h2⟩ | ⟨k, h1, _⟩
  · exact .inr ⟨i, rfl, by omega, hn, h2⟩
  · omega
theorem an_anP (i : Nat) : anP (l.getD i default) r = true ↔ anQ l r i := by unfold anP anQ; exact decide_eq_true_iff
theorem last_end (h : lastI l r l.length at_) : (at_ = -1 ∧ (latL l r).2 = false) ∨ (0 ≤ at_ ∧ at_ < l.length ∧ (latL l r).2 = true ∧ (l.getD at_.toNat default).entry.head = (latL l r).1) := by
  have hz : ∀ j, ¬ anQ l r j → anP (l.getD j default) r = false := fun j q => by
    cases e : anP (l.getD j default) r with
    | false => rfl
    | true => exact absurd ((an_anP j).1 e) q
  rcases h with ⟨h1, h2⟩ | ⟨k, h1, h2, h3, h4⟩
  · refine .inl ⟨h1, ?_⟩
    rw [lat_none fun j hj => hz j (h2 j hj)]
  · subst h1
    refine .inr ⟨by omega, by omega, ?_⟩
    rw [lat_hit h2 ((an_anP k).2 h3) fun j g1 g2 => hz j (h4 j g1 g2)]
    exact ⟨rfl, rfl⟩
theorem plF_skip : ∀ (i : Nat), i ≤ l.length → (∀ j, j < i → ¬ anS l r s j) → plF r s i (l.drop i) = plL l r s
  | 0, _, _ => rfl
  | i + 1, h, hn => plF_no (plF_skip i (by omega) fun j hj => hn j (by omega)) (by omega) (fun q => hn i (by omega) ⟨((an_anP i).1 q.1).1, ((an_anP i).1 q.1).2, q.2⟩)
theorem first_end (h : firstI l r s l.length fi) : (fi = -1 ∧ (plL l r s).2 = false) ∨ (0 ≤ fi ∧ plL l r s = (fi, true)) := by
  rcases h with ⟨h1, h2⟩ | ⟨k, h1, h2, h3, h4⟩
  · refine .inl ⟨h1, ?_⟩
    rw [← plF_skip l.length (Nat.le_refl _) h2, List.drop_of_length_le (Nat.le_refl _)]; rfl
  · subst h1
    exact .inr ⟨by omega, plF_yes (plF_skip k (by omega) h4) h2 ⟨(an_anP k).2 ⟨h3.1, h3.2.1⟩, h3.2.2⟩⟩
end
theorem AnchorsFinds_ok (kk : Nat → BitVec 32) (hG : G 1 = some (rowE w32 64 kk)) (l : List Item) (c : Nat) (hl : l.length ≤ c) (hcc : c ≤ 9223372036854775807) (region size : Int) : CallL Tryd.prog G 3 [slv 0 0 l.length c, .int .i64 region, .int .i64 size] [rwR cItem l] (.bool true) [rwR cItem l] := by
  refine walk (fn := Tryd.f3) (nt := 72) rfl rfl rfl rfl ?_
  refine c_hole 3 (H' := [rwR cItem l, hole, hole, hole]) rfl ?_
  refine c_seq ?_
  refine c_reg ?_
  refine r_assign (v := .bool false) rfl rfl rfl ?_
  refine r_doneN ?_
  refine x_then ?_
  refine c_seq ?_
  refine c_seq ?_
  refine c_reg ?_
  refine r_move (v := slv 0 0 l.length c) rfl rfl rfl ?_
  refine r_callN (e := [some (0, 0)]) (nid := 0) (refBig_ok (G := G) l l.length c rfl (by omega) (by omega)) (vals := [slv 0 0 l.length c]) (v := .bool (bigB l)) (H' := [rwR cItem l, hole, hole, hole]) rfl rfl rfl rfl rfl rfl rfl ⟨⟨⟨rfl, rfl, rfl, by first | omega | exact Nat.le_refl _, by first | omega | exact Nat.le_refl _⟩, trivial⟩, ⟨(emb_rwR rfl), trivial⟩, rfl, rfl, rfl⟩ rfl (by kernel_rfl) ?_
  refine r_doneN ?_
  refine x_then ?_
  rcases Bool.eq_false_or_eq_true (bigB l) with h1 | h1
  · skip
    refine c_true (congrArg Value.bool h1) ?_
    refine c_seq ?_
    refine c_reg ?_
    refine r_assign (v := .bool true) rfl rfl rfl ?_
    refine r_doneN ?_
    refine x_then ?_
    refine c_ret ?_
    refine x_thenR ?_
    refine x_end ?_
    exact end_map [0] (v := .bool true) rfl (by kernel_rfl) rfl rfl (by decide) (by simp [keptB, rwR, cItem]) rfl
  refine c_false (congrArg Value.bool h1) ?_
  refine c_skip ?_
  refine x_then ?_
  refine c_seq ?_
  have hn60 : l.length ≤ 60 := bigB_len (by assumption)
  refine c_reg ?_
  refine r_move (v := slv 0 0 l.length c) rfl rfl rfl ?_
  refine r_callN (e := [some (0, 0)]) (nid := 1) (refOwn_ok (G := G) l l.length c rfl (by omega) (by omega)) (vals := [slv 0 0 l.length c]) (v := slv 1 0 l.length l.length) (H' := [rwR cItem l, rwB cItem l, hole, hole]) rfl rfl rfl rfl rfl rfl rfl ⟨⟨⟨rfl, rfl, rfl, by first | omega | exact Nat.le_refl _, by first | omega | exact Nat.le_refl _⟩, trivial⟩, ⟨(emb_rwR rfl), trivial⟩, rfl, rfl, rfl⟩ (by kernel_rfl) (by kernel_rfl) ?_
  refine r_assign (v := slv 1 0 l.length l.length) rfl rfl rfl ?_
  refine r_doneN ?_
  refine x_then ?_
  refine c_seq ?_
  refine c_reg ?_
  refine r_move (v := slv 0 0 l.length c) rfl rfl rfl ?_
  refine r_move (v := .int .i64 region) rfl rfl rfl ?_
  refine r_callN (e := [some (0, 0)]) (nid := 0) (Latest_ok (G := G) l l.length c rfl (by omega) (by omega) region) (vals := [slv 0 0 l.length c, .int .i64 region]) (v := .tuple #[signedV ((latL l region).1), .bool ((latL l region).2)]) (H' := [rwR cItem l, rwB cItem l, hole, hole]) rfl rfl rfl rfl rfl rfl rfl ⟨⟨⟨rfl, rfl, rfl, by first | omega | exact Nat.le_refl _, by first | omega | exact Nat.le_refl _⟩, rfl, trivial⟩, ⟨(emb_rwR rfl), trivial⟩, rfl, rfl, rfl⟩ (by kernel_rfl) (by kernel_rfl) ?_
  refine r_move (v := .tuple #[signedV ((latL l region).1), .bool ((latL l region).2)]) rfl rfl rfl ?_
  refine r_extract (vs := #[signedV ((latL l region).1), .bool ((latL l region).2)]) (v := signedV ((latL l region).1)) rfl rfl rfl rfl ?_
  refine r_extract (vs := #[signedV ((latL l region).1), .bool ((latL l region).2)]) (v := .bool ((latL l region).2)) rfl rfl rfl rfl ?_
  refine r_alloc (b := bxB 69 (signedC (⟨(⟨0, 0, 0, dz, 0⟩ : Head), 0, dz⟩ : Signed))) (nid := 2) (H' := [rwR cItem l, rwB cItem l, bxB 69 (signedC (⟨(⟨0, 0, 0, dz, 0⟩ : Head), 0, dz⟩ : Signed)), hole]) rfl rfl (by kernel_rfl) (by kernel_rfl) ?_
  refine r_store (p := pt 2 0) (v := signedV ((latL l region).1)) (b := 2) (blk := bxB 69 (signedC ((latL l region).1))) (H' := [rwR cItem l, rwB cItem l, bxB 69 (signedC ((latL l region).1)), hole]) rfl rfl rfl (by kernel_rfl) (by kernel_rfl) ?_
  refine r_assign (v := .bool ((latL l region).2)) rfl rfl rfl ?_
  refine r_doneN ?_
  refine x_then ?_
  refine c_seq ?_
  refine c_reg ?_
  refine r_move (v := slv 1 0 l.length l.length) rfl rfl rfl ?_
  refine r_move (v := .int .i64 region) rfl rfl rfl ?_
  refine r_callN (e := [some (1, 0)]) (nid := 0) (refLatest_ok (G := G) l l.length l.length rfl (by omega) (by omega) region) (vals := [slv 1 0 l.length l.length, .int .i64 region]) (v := .tuple #[signedV ((latL l region).1), .bool ((latL l region).2)]) (H' := [rwR cItem l, rwB cItem l, bxB 69 (signedC ((latL l region).1)), hole]) rfl rfl rfl rfl rfl rfl rfl ⟨⟨⟨rfl, rfl, rfl, by first | omega | exact Nat.le_refl _, by first | omega | exact Nat.le_refl _⟩, rfl, trivial⟩, ⟨(emb_rwB rfl), trivial⟩, rfl, rfl, rfl⟩ (by kernel_rfl) (by kernel_rfl) ?_
  refine r_move (v := .tuple #[signedV ((latL l region).1), .bool ((latL l region).2)]) rfl rfl rfl ?_
  refine r_extract (vs := #[signedV ((latL l region).1), .bool ((latL l region).2)]) (v := signedV ((latL l region).1)) rfl rfl rfl rfl ?_
  refine r_extract (vs := #[signedV ((latL l region).1), .bool ((latL l region).2)]) (v := .bool ((latL l region).2)) rfl rfl rfl rfl ?_
  refine r_alloc (b := bxB 69 (signedC (⟨(⟨0, 0, 0, dz, 0⟩ : Head), 0, dz⟩ : Signed))) (nid := 3) (H' := [rwR cItem l, rwB cItem l, bxB 69 (signedC ((latL l region).1)), bxB 69 (signedC (⟨(⟨0, 0, 0, dz, 0⟩ : Head), 0, dz⟩ : Signed))]) rfl rfl (by kernel_rfl) (by kernel_rfl) ?_
  refine r_store (p := pt 3 0) (v := signedV ((latL l region).1)) (b := 3) (blk := bxB 69 (signedC ((latL l region).1))) (H' := [rwR cItem l, rwB cItem l, bxB 69 (signedC ((latL l region).1)), bxB 69 (signedC ((latL l region).1))]) rfl rfl rfl (by kernel_rfl) (by kernel_rfl) ?_
  refine r_assign (v := .bool ((latL l region).2)) rfl rfl rfl ?_
  refine r_doneN ?_
  refine x_then ?_
  refine c_seq ?_
  refine c_reg ?_
  refine r_move (v := slv 0 0 l.length c) rfl rfl rfl ?_
  refine r_move (v := .int .i64 region) rfl rfl rfl ?_
  refine r_move (v := .int .i64 size) rfl rfl rfl ?_
  refine r_callN (e := [some (0, 0)]) (nid := 0) (Place_ok (G := G) l l.length c rfl (by omega) (by omega) region size) (vals := [slv 0 0 l.length c, .int .i64 region, .int .i64 size]) (v := .tuple #[.int .i64 (((plL l region size).1)), .bool ((plL l region size).2)]) (H' := [rwR cItem l, rwB cItem l, bxB 69 (signedC ((latL l region).1)), bxB 69 (signedC ((latL l region).1))]) rfl rfl rfl rfl rfl rfl rfl ⟨⟨⟨rfl, rfl, rfl, by first | omega | exact Nat.le_refl _, by first | omega | exact Nat.le_refl _⟩, rfl, rfl, trivial⟩, ⟨(emb_rwR rfl), trivial⟩, rfl, rfl, rfl⟩ (by kernel_rfl) (by kernel_rfl) ?_
  refine r_move (v := .tuple #[.int .i64 (((plL l region size).1)), .bool ((plL l region size).2)]) rfl rfl rfl ?_
  refine r_extract (vs := #[.int .i64 (((plL l region size).1)), .bool ((plL l region size).2)]) (v := .int .i64 (((plL l region size).1))) rfl rfl rfl rfl ?_
  refine r_extract (vs := #[.int .i64 (((plL l region size).1)), .bool ((plL l region size).2)]) (v := .bool ((plL l region size).2)) rfl rfl rfl rfl ?_
  refine r_assign (v := .int .i64 (((plL l region size).1))) rfl rfl rfl ?_
  refine r_assign (v := .bool ((plL l region size).2)) rfl rfl rfl ?_
  refine r_doneN ?_
  refine x_then ?_
  refine c_seq ?_
  refine c_reg ?_
  refine r_move (v := slv 1 0 l.length l.length) rfl rfl rfl ?_
  refine r_move (v := .int .i64 region) rfl rfl rfl ?_
  refine r_move (v := .int .i64 size) rfl rfl rfl ?_
  refine r_callN (e := [some (1, 0)]) (nid := 0) (refPlace_ok (G := G) l l.length l.length rfl (by omega) (by omega) region size) (vals := [slv 1 0 l.length l.length, .int .i64 region, .int .i64 size]) (v := .tuple #[.int .i64 (((plL l region size).1)), .bool ((plL l region size).2)]) (H' := [rwR cItem l, rwB cItem l, bxB 69 (signedC ((latL l region).1)), bxB 69 (signedC ((latL l region).1))]) rfl rfl rfl rfl rfl rfl rfl ⟨⟨⟨rfl, rfl, rfl, by first | omega | exact Nat.le_refl _, by first | omega | exact Nat.le_refl _⟩, rfl, rfl, trivial⟩, ⟨(emb_rwB rfl), trivial⟩, rfl, rfl, rfl⟩ (by kernel_rfl) (by kernel_rfl) ?_
  refine r_move (v := .tuple #[.int .i64 (((plL l region size).1)), .bool ((plL l region size).2)]) rfl rfl rfl ?_
  refine r_extract (vs := #[.int .i64 (((plL l region size).1)), .bool ((plL l region size).2)]) (v := .int .i64 (((plL l region size).1))) rfl rfl rfl rfl ?_
  refine r_extract (vs := #[.int .i64 (((plL l region size).1)), .bool ((plL l region size).2)]) (v := .bool ((plL l region size).2)) rfl rfl rfl rfl ?_
  refine r_assign (v := .int .i64 (((plL l region size).1))) rfl rfl rfl ?_
  refine r_assign (v := .bool ((plL l region size).2)) rfl rfl rfl ?_
  refine r_doneN ?_
  refine x_then ?_
  refine c_seq ?_
  refine c_reg ?_
  refine r_callP (admits_ok (G := G) kk hG) (vals := []) (res' := .bool true) rfl rfl rfl rfl rfl rfl ?_
  refine r_move (v := .bool true) rfl rfl rfl ?_
  refine r_load (p := pt 2 0) (v := signedV ((latL l region).1)) rfl rfl rfl (by kernel_rfl) ?_
  refine r_load (p := pt 3 0) (v := signedV ((latL l region).1)) rfl rfl rfl (by kernel_rfl) ?_
  refine r_bin (v := .bool true) (vx := signedV ((latL l region).1)) (vy := signedV ((latL l region).1)) rfl rfl rfl rfl (Eq.trans (eql_Signed ((latL l region).1) ((latL l region).1)) (by rw [(eqSigned_refl _)] <;> rfl)) ?_
  refine r_pick (v := .bool true) rfl rfl rfl ?_
  refine r_move (v := .bool true) rfl rfl rfl ?_
  refine r_move (v := .bool ((latL l region).2)) rfl rfl rfl ?_
  refine r_move (v := .bool ((latL l region).2)) rfl rfl rfl ?_
  rcases Bool.eq_false_or_eq_true ((latL l region).2) with h2 | h2
  · skip
    refine r_bin (v := .bool true) (vx := .bool ((latL l region).2)) (vy := .bool ((latL l region).2)) rfl rfl rfl rfl (eqlB' rfl h2 h2) ?_
    refine r_pick (v := .bool true) rfl rfl rfl ?_
    refine r_move (v := .bool true) rfl rfl rfl ?_
    refine r_move (v := .int .i64 (((plL l region size).1))) rfl rfl rfl ?_
    refine r_move (v := .int .i64 (((plL l region size).1))) rfl rfl rfl ?_
    refine r_bin (v := .bool true) (vx := .int .i64 (((plL l region size).1))) (vy := .int .i64 (((plL l region size).1))) rfl rfl rfl rfl (eql_t (by omega)) ?_
    refine r_pick (v := .bool true) rfl rfl rfl ?_
    refine r_move (v := .bool true) rfl rfl rfl ?_
    refine r_move (v := .bool ((plL l region size).2)) rfl rfl rfl ?_
    refine r_move (v := .bool ((plL l region size).2)) rfl rfl rfl ?_
    rcases Bool.eq_false_or_eq_true ((plL l region size).2) with h3 | h3
    · skip
      refine r_bin (v := .bool true) (vx := .bool ((plL l region size).2)) (vy := .bool ((plL l region size).2)) rfl rfl rfl rfl (eqlB' rfl h3 h3) ?_
      refine r_pick (v := .bool true) rfl rfl rfl ?_
      refine r_move (v := .bool true) rfl rfl rfl ?_
      refine r_move (v := slv 0 0 l.length c) rfl rfl rfl ?_
      refine r_move (v := slv 1 0 l.length l.length) rfl rfl rfl ?_
      refine r_callN (e := [some (0, 0), some (1, 0)]) (nid := 0) (refSame_refl (G := G) l l.length c l.length rfl (by omega) (by omega) (by omega)) (vals := [slv 0 0 l.length c, slv 1 0 l.length l.length]) (v := .bool true) (H' := [rwR cItem l, rwB cItem l, bxB 69 (signedC ((latL l region).1)), bxB 69 (signedC ((latL l region).1))]) rfl rfl rfl rfl rfl rfl rfl ⟨⟨⟨rfl, rfl, rfl, by first | omega | exact Nat.le_refl _, by first | omega | exact Nat.le_refl _⟩, ⟨rfl, rfl, rfl, by first | omega | exact Nat.le_refl _, by first | omega | exact Nat.le_refl _⟩, trivial⟩, ⟨(emb_rwR rfl), (emb_rwB rfl), trivial⟩, rfl, rfl, rfl⟩ rfl (by kernel_rfl) ?_
      refine r_pick (v := .bool true) rfl rfl rfl ?_
      refine r_assign (v := .bool true) rfl rfl rfl ?_
      refine r_doneN ?_
      refine x_then ?_
      refine c_ret ?_
      refine x_end ?_
      exact end_map [0] (v := .bool true) rfl (by kernel_rfl) rfl rfl (by decide) (by simp [keptB, rwR, cItem]) rfl
    refine r_bin (v := .bool true) (vx := .bool ((plL l region size).2)) (vy := .bool ((plL l region size).2)) rfl rfl rfl rfl (eqlB' rfl h3 h3) ?_
    refine r_pick (v := .bool true) rfl rfl rfl ?_
    refine r_move (v := .bool true) rfl rfl rfl ?_
    refine r_move (v := slv 0 0 l.length c) rfl rfl rfl ?_
    refine r_move (v := slv 1 0 l.length l.length) rfl rfl rfl ?_
    refine r_callN (e := [some (0, 0), some (1, 0)]) (nid := 0) (refSame_refl (G := G) l l.length c l.length rfl (by omega) (by omega) (by omega)) (vals := [slv 0 0 l.length c, slv 1 0 l.length l.length]) (v := .bool true) (H' := [rwR cItem l, rwB cItem l, bxB 69 (signedC ((latL l region).1)), bxB 69 (signedC ((latL l region).1))]) rfl rfl rfl rfl rfl rfl rfl ⟨⟨⟨rfl, rfl, rfl, by first | omega | exact Nat.le_refl _, by first | omega | exact Nat.le_refl _⟩, ⟨rfl, rfl, rfl, by first | omega | exact Nat.le_refl _, by first | omega | exact Nat.le_refl _⟩, trivial⟩, ⟨(emb_rwR rfl), (emb_rwB rfl), trivial⟩, rfl, rfl, rfl⟩ rfl (by kernel_rfl) ?_
    refine r_pick (v := .bool true) rfl rfl rfl ?_
    refine r_assign (v := .bool true) rfl rfl rfl ?_
    refine r_doneN ?_
    refine x_then ?_
    refine c_ret ?_
    refine x_end ?_
    exact end_map [0] (v := .bool true) rfl (by kernel_rfl) rfl rfl (by decide) (by simp [keptB, rwR, cItem]) rfl
  refine r_bin (v := .bool true) (vx := .bool ((latL l region).2)) (vy := .bool ((latL l region).2)) rfl rfl rfl rfl (eqlB' rfl h2 h2) ?_
  refine r_pick (v := .bool true) rfl rfl rfl ?_
  refine r_move (v := .bool true) rfl rfl rfl ?_
  refine r_move (v := .int .i64 (((plL l region size).1))) rfl rfl rfl ?_
  refine r_move (v := .int .i64 (((plL l region size).1))) rfl rfl rfl ?_
  refine r_bin (v := .bool true) (vx := .int .i64 (((plL l region size).1))) (vy := .int .i64 (((plL l region size).1))) rfl rfl rfl rfl (eql_t (by omega)) ?_
  refine r_pick (v := .bool true) rfl rfl rfl ?_
  refine r_move (v := .bool true) rfl rfl rfl ?_
  refine r_move (v := .bool ((plL l region size).2)) rfl rfl rfl ?_
  refine r_move (v := .bool ((plL l region size).2)) rfl rfl rfl ?_
  rcases Bool.eq_false_or_eq_true ((plL l region size).2) with h4 | h4
  · skip
    refine r_bin (v := .bool true) (vx := .bool ((plL l region size).2)) (vy := .bool ((plL l region size).2)) rfl rfl rfl rfl (eqlB' rfl h4 h4) ?_
    refine r_pick (v := .bool true) rfl rfl rfl ?_
    refine r_move (v := .bool true) rfl rfl rfl ?_
    refine r_move (v := slv 0 0 l.length c) rfl rfl rfl ?_
    refine r_move (v := slv 1 0 l.length l.length) rfl rfl rfl ?_
    refine r_callN (e := [some (0, 0), some (1, 0)]) (nid := 0) (refSame_refl (G := G) l l.length c l.length rfl (by omega) (by omega) (by omega)) (vals := [slv 0 0 l.length c, slv 1 0 l.length l.length]) (v := .bool true) (H' := [rwR cItem l, rwB cItem l, bxB 69 (signedC ((latL l region).1)), bxB 69 (signedC ((latL l region).1))]) rfl rfl rfl rfl rfl rfl rfl ⟨⟨⟨rfl, rfl, rfl, by first | omega | exact Nat.le_refl _, by first | omega | exact Nat.le_refl _⟩, ⟨rfl, rfl, rfl, by first | omega | exact Nat.le_refl _, by first | omega | exact Nat.le_refl _⟩, trivial⟩, ⟨(emb_rwR rfl), (emb_rwB rfl), trivial⟩, rfl, rfl, rfl⟩ rfl (by kernel_rfl) ?_
    refine r_pick (v := .bool true) rfl rfl rfl ?_
    refine r_assign (v := .bool true) rfl rfl rfl ?_
    refine r_doneN ?_
    refine x_then ?_
    refine c_ret ?_
    refine x_end ?_
    exact end_map [0] (v := .bool true) rfl (by kernel_rfl) rfl rfl (by decide) (by simp [keptB, rwR, cItem]) rfl
  refine r_bin (v := .bool true) (vx := .bool ((plL l region size).2)) (vy := .bool ((plL l region size).2)) rfl rfl rfl rfl (eqlB' rfl h4 h4) ?_
  refine r_pick (v := .bool true) rfl rfl rfl ?_
  refine r_move (v := .bool true) rfl rfl rfl ?_
  refine r_move (v := slv 0 0 l.length c) rfl rfl rfl ?_
  refine r_move (v := slv 1 0 l.length l.length) rfl rfl rfl ?_
  refine r_callN (e := [some (0, 0), some (1, 0)]) (nid := 0) (refSame_refl (G := G) l l.length c l.length rfl (by omega) (by omega) (by omega)) (vals := [slv 0 0 l.length c, slv 1 0 l.length l.length]) (v := .bool true) (H' := [rwR cItem l, rwB cItem l, bxB 69 (signedC ((latL l region).1)), bxB 69 (signedC ((latL l region).1))]) rfl rfl rfl rfl rfl rfl rfl ⟨⟨⟨rfl, rfl, rfl, by first | omega | exact Nat.le_refl _, by first | omega | exact Nat.le_refl _⟩, ⟨rfl, rfl, rfl, by first | omega | exact Nat.le_refl _, by first | omega | exact Nat.le_refl _⟩, trivial⟩, ⟨(emb_rwR rfl), (emb_rwB rfl), trivial⟩, rfl, rfl, rfl⟩ rfl (by kernel_rfl) ?_
  refine r_pick (v := .bool true) rfl rfl rfl ?_
  refine r_assign (v := .bool true) rfl rfl rfl ?_
  refine r_doneN ?_
  refine x_then ?_
  refine c_ret ?_
  refine x_end ?_
  exact end_map [0] (v := .bool true) rfl (by kernel_rfl) rfl rfl (by decide) (by simp [keptB, rwR, cItem]) rfl
theorem AnchorsBoth_ok (kk : Nat → BitVec 32) (hG : G 1 = some (rowE w32 64 kk)) (master : D) (a b : Signed) : CallL Tryd.prog G 6 [dgV master, signedV a, signedV b] [] (.bool true) [] := by
  refine walk (fn := Tryd.f6) (nt := 56) rfl rfl rfl rfl ?_
  refine c_hole 3 (H' := [hole, hole, hole]) rfl ?_
  refine c_seq ?_
  refine c_reg ?_
  refine r_box (v := dgV master) (b := dgB master) (nid := 0) (H' := [dgB master, hole, hole]) rfl rfl rfl (by kernel_rfl) (by kernel_rfl) ?_
  refine r_box (v := signedV a) (b := bxB 69 (signedC a)) (nid := 1) (H' := [dgB master, bxB 69 (signedC a), hole]) rfl rfl rfl (by kernel_rfl) (by kernel_rfl) ?_
  refine r_box (v := signedV b) (b := bxB 69 (signedC b)) (nid := 2) (H' := [dgB master, bxB 69 (signedC a), bxB 69 (signedC b)]) rfl rfl rfl (by kernel_rfl) (by kernel_rfl) ?_
  refine r_assign (v := .bool false) rfl rfl rfl ?_
  refine r_doneN ?_
  refine x_then ?_
  refine c_seq ?_
  refine c_reg ?_
  refine r_load (p := pt 0 0) (v := dgV master) rfl rfl rfl (by kernel_rfl) ?_
  refine r_load (p := pt 1 0) (v := signedV a) rfl rfl rfl (by kernel_rfl) ?_
  refine r_load (p := pt 2 0) (v := signedV b) rfl rfl rfl (by kernel_rfl) ?_
  refine r_callP (Apart_ok (G := G) kk hG master a b) (vals := [dgV master, signedV a, signedV b]) (res' := .bool (apE kk master a b)) rfl rfl rfl rfl rfl rfl ?_
  refine r_assign (v := .bool (apE kk master a b)) rfl rfl rfl ?_
  refine r_doneN ?_
  refine x_then ?_
  refine c_seq ?_
  refine c_reg ?_
  refine r_callP (admits_ok (G := G) kk hG) (vals := []) (res' := .bool true) rfl rfl rfl rfl rfl rfl ?_
  refine r_move (v := .bool true) rfl rfl rfl ?_
  refine r_move (v := .bool (apE kk master a b)) rfl rfl rfl ?_
  refine r_load (p := pt 0 0) (v := dgV master) rfl rfl rfl (by kernel_rfl) ?_
  refine r_load (p := pt 2 0) (v := signedV b) rfl rfl rfl (by kernel_rfl) ?_
  refine r_load (p := pt 1 0) (v := signedV a) rfl rfl rfl (by kernel_rfl) ?_
  refine r_callP (Apart_ok (G := G) kk hG master b a) (vals := [dgV master, signedV b, signedV a]) (res' := .bool (apE kk master b a)) rfl rfl rfl rfl rfl rfl ?_
  rcases Bool.eq_false_or_eq_true (apE kk master a b) with h1 | h1
  · skip
    rcases Bool.eq_false_or_eq_true (apE kk master b a) with h2 | h2
    · skip
      refine r_bin (v := .bool true) (vx := .bool (apE kk master a b)) (vy := .bool (apE kk master b a)) rfl rfl rfl rfl (eqlB' rfl h1 h2) ?_
      refine r_pick (v := .bool true) rfl rfl rfl ?_
      refine r_move (v := .bool true) rfl rfl rfl ?_
      refine r_load (p := pt 0 0) (v := dgV master) rfl rfl rfl (by kernel_rfl) ?_
      refine r_load (p := pt 1 0) (v := signedV a) rfl rfl rfl (by kernel_rfl) ?_
      refine r_load (p := pt 1 0) (v := signedV a) rfl rfl rfl (by kernel_rfl) ?_
      refine r_callP (Apart_ok (G := G) kk hG master a a) (vals := [dgV master, signedV a, signedV a]) (res' := .bool (apE kk master a a)) rfl rfl rfl rfl rfl rfl ?_
      rcases Bool.eq_false_or_eq_true (apE kk master a a) with h3 | h3
      · skip
        refine r_un (v := .bool false) (vx := .bool (apE kk master a a)) rfl rfl rfl (Eq.trans un_not (congrArg (fun b => some (Value.bool !b)) h3)) ?_
        refine r_pick (v := .bool false) rfl rfl rfl ?_
        refine r_move (v := .bool false) rfl rfl rfl ?_
        refine r_skip rfl rfl ?_
        refine r_skip rfl rfl ?_
        refine r_skip rfl rfl ?_
        refine r_skip rfl rfl ?_
        refine r_skip rfl rfl ?_
        refine r_skip rfl rfl ?_
        refine r_skip rfl rfl ?_
        refine r_skip rfl rfl ?_
        refine r_skip rfl rfl ?_
        refine r_skip rfl rfl ?_
        refine r_skip rfl rfl ?_
        refine r_skip rfl rfl ?_
        refine r_skip rfl rfl ?_
        refine r_skip rfl rfl ?_
        refine r_skip rfl rfl ?_
        refine r_skip rfl rfl ?_
        refine r_skip rfl rfl ?_
        refine r_skip rfl rfl ?_
        refine r_skip rfl rfl ?_
        refine r_skip rfl rfl ?_
        refine r_skip rfl rfl ?_
        refine r_skip rfl rfl ?_
        refine r_skip rfl rfl ?_
        refine r_skip rfl rfl ?_
        refine r_skip rfl rfl ?_
        refine r_skip rfl rfl ?_
        refine r_pick (v := .bool false) rfl rfl rfl ?_
        refine r_assign (v := .bool false) rfl rfl rfl ?_
        refine r_doneN ?_
        refine x_then ?_
        refine c_ret ?_
        refine x_end ?_
        exfalso
        have i1 := apE_comm kk master a b
        have i2 := apE_self kk master a
        have i3 := apE_t (kk := kk) (m := master) (a := a) (b := b)
        first | (simp_all [eqSigned_refl]; done) | (simp_all [eqSigned_refl]; omega)
      refine r_un (v := .bool true) (vx := .bool (apE kk master a a)) rfl rfl rfl (Eq.trans un_not (congrArg (fun b => some (Value.bool !b)) h3)) ?_
      refine r_pick (v := .bool true) rfl rfl rfl ?_
      refine r_move (v := .bool true) rfl rfl rfl ?_
      refine r_move (v := .bool (apE kk master a b)) rfl rfl rfl ?_
      refine r_un (v := .bool false) (vx := .bool (apE kk master a b)) rfl rfl rfl (Eq.trans un_not (congrArg (fun b => some (Value.bool !b)) h1)) ?_
      refine r_move (v := .bool false) rfl rfl rfl ?_
      refine r_fieldAddr (b := 1) (o := 0) (n := 0) (o' := 0) rfl rfl rfl rfl rfl ?_
      refine r_fieldAddr (b := 1) (o := 0) (n := 3) (o' := 3) rfl rfl rfl rfl rfl ?_
      refine r_load (p := pt 1 3) (v := dgV a.head.root) rfl rfl rfl (by kernel_rfl) ?_
      refine r_fieldAddr (b := 2) (o := 0) (n := 0) (o' := 0) rfl rfl rfl rfl rfl ?_
      refine r_fieldAddr (b := 2) (o := 0) (n := 3) (o' := 3) rfl rfl rfl rfl rfl ?_
      refine r_load (p := pt 2 3) (v := dgV b.head.root) rfl rfl rfl (by kernel_rfl) ?_
      rcases Bool.eq_false_or_eq_true (sameB 32 a.head.root b.head.root) with h4 | h4
      · skip
        refine r_bin (v := .bool false) (vx := dgV a.head.root) (vy := dgV b.head.root) rfl rfl rfl rfl (Eq.trans (neq_dg (n := 32) (a := a.head.root) (b := b.head.root) (by kernel_rfl) rfl rfl rfl) (by rw [h4] <;> rfl)) ?_
        refine r_move (v := .bool false) rfl rfl rfl ?_
        refine r_skip rfl rfl ?_
        refine r_skip rfl rfl ?_
        refine r_skip rfl rfl ?_
        refine r_skip rfl rfl ?_
        refine r_skip rfl rfl ?_
        refine r_skip rfl rfl ?_
        refine r_skip rfl rfl ?_
        refine r_pick (v := .bool false) rfl rfl rfl ?_
        refine r_move (v := .bool false) rfl rfl rfl ?_
        refine r_skip rfl rfl ?_
        refine r_skip rfl rfl ?_
        refine r_skip rfl rfl ?_
        refine r_skip rfl rfl ?_
        refine r_pick (v := .bool false) rfl rfl rfl ?_
        refine r_pick (v := .bool false) rfl rfl rfl ?_
        refine r_pick (v := .bool false) rfl rfl rfl ?_
        refine r_assign (v := .bool false) rfl rfl rfl ?_
        refine r_doneN ?_
        refine x_then ?_
        refine c_ret ?_
        refine x_end ?_
        exfalso
        have i1 := apE_comm kk master a b
        have i2 := apE_self kk master a
        have i3 := apE_t (kk := kk) (m := master) (a := a) (b := b)
        first | (simp_all [eqSigned_refl]; done) | (simp_all [eqSigned_refl]; omega)
      refine r_bin (v := .bool true) (vx := dgV a.head.root) (vy := dgV b.head.root) rfl rfl rfl rfl (Eq.trans (neq_dg (n := 32) (a := a.head.root) (b := b.head.root) (by kernel_rfl) rfl rfl rfl) (by rw [h4] <;> rfl)) ?_
      refine r_move (v := .bool true) rfl rfl rfl ?_
      refine r_fieldAddr (b := 1) (o := 0) (n := 0) (o' := 0) rfl rfl rfl rfl rfl ?_
      refine r_fieldAddr (b := 1) (o := 0) (n := 2) (o' := 2) rfl rfl rfl rfl rfl ?_
      refine r_load (p := pt 1 2) (v := .int .i64 a.head.size) rfl rfl rfl (by kernel_rfl) ?_
      refine r_fieldAddr (b := 2) (o := 0) (n := 0) (o' := 0) rfl rfl rfl rfl rfl ?_
      refine r_fieldAddr (b := 2) (o := 0) (n := 2) (o' := 2) rfl rfl rfl rfl rfl ?_
      refine r_load (p := pt 2 2) (v := .int .i64 b.head.size) rfl rfl rfl (by kernel_rfl) ?_
      by_cases h5 : a.head.size = b.head.size
      · skip
        refine r_bin (v := .bool true) (vx := .int .i64 a.head.size) (vy := .int .i64 b.head.size) rfl rfl rfl rfl (eql_t (by omega)) ?_
        refine r_pick (v := .bool true) rfl rfl rfl ?_
        refine r_move (v := .bool true) rfl rfl rfl ?_
        refine r_load (p := pt 0 0) (v := dgV master) rfl rfl rfl (by kernel_rfl) ?_
        refine r_load (p := pt 1 0) (v := signedV a) rfl rfl rfl (by kernel_rfl) ?_
        refine r_callP (Verify_ok' (G := G) kk hG master a) (vals := [dgV master, signedV a]) (res' := .int .i64 ((verifyR kk master a))) rfl rfl rfl rfl rfl rfl ?_
        by_cases h6 : ((verifyR kk master a)) = 0
        · skip
          refine r_bin (v := .bool true) (vx := .int .i64 ((verifyR kk master a))) (vy := .int .i64 0) rfl rfl rfl rfl (eql_t (by omega)) ?_
          refine r_pick (v := .bool true) rfl rfl rfl ?_
          refine r_pick (v := .bool true) rfl rfl rfl ?_
          refine r_pick (v := .bool true) rfl rfl rfl ?_
          refine r_assign (v := .bool true) rfl rfl rfl ?_
          refine r_doneN ?_
          refine x_then ?_
          refine c_ret ?_
          refine x_end ?_
          exact end_pv (v := .bool true) rfl rfl rfl
        refine r_bin (v := .bool false) (vx := .int .i64 ((verifyR kk master a))) (vy := .int .i64 0) rfl rfl rfl rfl (eql_f (by omega)) ?_
        refine r_pick (v := .bool false) rfl rfl rfl ?_
        refine r_pick (v := .bool false) rfl rfl rfl ?_
        refine r_pick (v := .bool false) rfl rfl rfl ?_
        refine r_assign (v := .bool false) rfl rfl rfl ?_
        refine r_doneN ?_
        refine x_then ?_
        refine c_ret ?_
        refine x_end ?_
        exfalso
        have i1 := apE_comm kk master a b
        have i2 := apE_self kk master a
        have i3 := apE_t (kk := kk) (m := master) (a := a) (b := b)
        first | (simp_all [eqSigned_refl]; done) | (simp_all [eqSigned_refl]; omega)
      refine r_bin (v := .bool false) (vx := .int .i64 a.head.size) (vy := .int .i64 b.head.size) rfl rfl rfl rfl (eql_f (by omega)) ?_
      refine r_pick (v := .bool false) rfl rfl rfl ?_
      refine r_move (v := .bool false) rfl rfl rfl ?_
      refine r_skip rfl rfl ?_
      refine r_skip rfl rfl ?_
      refine r_skip rfl rfl ?_
      refine r_skip rfl rfl ?_
      refine r_pick (v := .bool false) rfl rfl rfl ?_
      refine r_pick (v := .bool false) rfl rfl rfl ?_
      refine r_pick (v := .bool false) rfl rfl rfl ?_
      refine r_assign (v := .bool false) rfl rfl rfl ?_
      refine r_doneN ?_
      refine x_then ?_
      refine c_ret ?_
      refine x_end ?_
      exfalso
      have i1 := apE_comm kk master a b
      have i2 := apE_self kk master a
      have i3 := apE_t (kk := kk) (m := master) (a := a) (b := b)
      first | (simp_all [eqSigned_refl]; done) | (simp_all [eqSigned_refl]; omega)
    refine r_bin (v := .bool false) (vx := .bool (apE kk master a b)) (vy := .bool (apE kk master b a)) rfl rfl rfl rfl (eqlB' rfl h1 h2) ?_
    refine r_pick (v := .bool false) rfl rfl rfl ?_
    refine r_move (v := .bool false) rfl rfl rfl ?_
    refine r_skip rfl rfl ?_
    refine r_skip rfl rfl ?_
    refine r_skip rfl rfl ?_
    refine r_skip rfl rfl ?_
    refine r_skip rfl rfl ?_
    refine r_pick (v := .bool false) rfl rfl rfl ?_
    refine r_move (v := .bool false) rfl rfl rfl ?_
    refine r_skip rfl rfl ?_
    refine r_skip rfl rfl ?_
    refine r_skip rfl rfl ?_
    refine r_skip rfl rfl ?_
    refine r_skip rfl rfl ?_
    refine r_skip rfl rfl ?_
    refine r_skip rfl rfl ?_
    refine r_skip rfl rfl ?_
    refine r_skip rfl rfl ?_
    refine r_skip rfl rfl ?_
    refine r_skip rfl rfl ?_
    refine r_skip rfl rfl ?_
    refine r_skip rfl rfl ?_
    refine r_skip rfl rfl ?_
    refine r_skip rfl rfl ?_
    refine r_skip rfl rfl ?_
    refine r_skip rfl rfl ?_
    refine r_skip rfl rfl ?_
    refine r_skip rfl rfl ?_
    refine r_skip rfl rfl ?_
    refine r_skip rfl rfl ?_
    refine r_skip rfl rfl ?_
    refine r_skip rfl rfl ?_
    refine r_skip rfl rfl ?_
    refine r_skip rfl rfl ?_
    refine r_skip rfl rfl ?_
    refine r_pick (v := .bool false) rfl rfl rfl ?_
    refine r_assign (v := .bool false) rfl rfl rfl ?_
    refine r_doneN ?_
    refine x_then ?_
    refine c_ret ?_
    refine x_end ?_
    exfalso
    have i1 := apE_comm kk master a b
    have i2 := apE_self kk master a
    have i3 := apE_t (kk := kk) (m := master) (a := a) (b := b)
    first | (simp_all [eqSigned_refl]; done) | (simp_all [eqSigned_refl]; omega)
  rcases Bool.eq_false_or_eq_true (apE kk master b a) with h7 | h7
  · skip
    refine r_bin (v := .bool false) (vx := .bool (apE kk master a b)) (vy := .bool (apE kk master b a)) rfl rfl rfl rfl (eqlB' rfl h1 h7) ?_
    refine r_pick (v := .bool false) rfl rfl rfl ?_
    refine r_move (v := .bool false) rfl rfl rfl ?_
    refine r_skip rfl rfl ?_
    refine r_skip rfl rfl ?_
    refine r_skip rfl rfl ?_
    refine r_skip rfl rfl ?_
    refine r_skip rfl rfl ?_
    refine r_pick (v := .bool false) rfl rfl rfl ?_
    refine r_move (v := .bool false) rfl rfl rfl ?_
    refine r_skip rfl rfl ?_
    refine r_skip rfl rfl ?_
    refine r_skip rfl rfl ?_
    refine r_skip rfl rfl ?_
    refine r_skip rfl rfl ?_
    refine r_skip rfl rfl ?_
    refine r_skip rfl rfl ?_
    refine r_skip rfl rfl ?_
    refine r_skip rfl rfl ?_
    refine r_skip rfl rfl ?_
    refine r_skip rfl rfl ?_
    refine r_skip rfl rfl ?_
    refine r_skip rfl rfl ?_
    refine r_skip rfl rfl ?_
    refine r_skip rfl rfl ?_
    refine r_skip rfl rfl ?_
    refine r_skip rfl rfl ?_
    refine r_skip rfl rfl ?_
    refine r_skip rfl rfl ?_
    refine r_skip rfl rfl ?_
    refine r_skip rfl rfl ?_
    refine r_skip rfl rfl ?_
    refine r_skip rfl rfl ?_
    refine r_skip rfl rfl ?_
    refine r_skip rfl rfl ?_
    refine r_skip rfl rfl ?_
    refine r_pick (v := .bool false) rfl rfl rfl ?_
    refine r_assign (v := .bool false) rfl rfl rfl ?_
    refine r_doneN ?_
    refine x_then ?_
    refine c_ret ?_
    refine x_end ?_
    exfalso
    have i1 := apE_comm kk master a b
    have i2 := apE_self kk master a
    have i3 := apE_t (kk := kk) (m := master) (a := a) (b := b)
    first | (simp_all [eqSigned_refl]; done) | (simp_all [eqSigned_refl]; omega)
  refine r_bin (v := .bool true) (vx := .bool (apE kk master a b)) (vy := .bool (apE kk master b a)) rfl rfl rfl rfl (eqlB' rfl h1 h7) ?_
  refine r_pick (v := .bool true) rfl rfl rfl ?_
  refine r_move (v := .bool true) rfl rfl rfl ?_
  refine r_load (p := pt 0 0) (v := dgV master) rfl rfl rfl (by kernel_rfl) ?_
  refine r_load (p := pt 1 0) (v := signedV a) rfl rfl rfl (by kernel_rfl) ?_
  refine r_load (p := pt 1 0) (v := signedV a) rfl rfl rfl (by kernel_rfl) ?_
  refine r_callP (Apart_ok (G := G) kk hG master a a) (vals := [dgV master, signedV a, signedV a]) (res' := .bool (apE kk master a a)) rfl rfl rfl rfl rfl rfl ?_
  rcases Bool.eq_false_or_eq_true (apE kk master a a) with h8 | h8
  · skip
    refine r_un (v := .bool false) (vx := .bool (apE kk master a a)) rfl rfl rfl (Eq.trans un_not (congrArg (fun b => some (Value.bool !b)) h8)) ?_
    refine r_pick (v := .bool false) rfl rfl rfl ?_
    refine r_move (v := .bool false) rfl rfl rfl ?_
    refine r_skip rfl rfl ?_
    refine r_skip rfl rfl ?_
    refine r_skip rfl rfl ?_
    refine r_skip rfl rfl ?_
    refine r_skip rfl rfl ?_
    refine r_skip rfl rfl ?_
    refine r_skip rfl rfl ?_
    refine r_skip rfl rfl ?_
    refine r_skip rfl rfl ?_
    refine r_skip rfl rfl ?_
    refine r_skip rfl rfl ?_
    refine r_skip rfl rfl ?_
    refine r_skip rfl rfl ?_
    refine r_skip rfl rfl ?_
    refine r_skip rfl rfl ?_
    refine r_skip rfl rfl ?_
    refine r_skip rfl rfl ?_
    refine r_skip rfl rfl ?_
    refine r_skip rfl rfl ?_
    refine r_skip rfl rfl ?_
    refine r_skip rfl rfl ?_
    refine r_skip rfl rfl ?_
    refine r_skip rfl rfl ?_
    refine r_skip rfl rfl ?_
    refine r_skip rfl rfl ?_
    refine r_skip rfl rfl ?_
    refine r_pick (v := .bool false) rfl rfl rfl ?_
    refine r_assign (v := .bool false) rfl rfl rfl ?_
    refine r_doneN ?_
    refine x_then ?_
    refine c_ret ?_
    refine x_end ?_
    exfalso
    have i1 := apE_comm kk master a b
    have i2 := apE_self kk master a
    have i3 := apE_t (kk := kk) (m := master) (a := a) (b := b)
    first | (simp_all [eqSigned_refl]; done) | (simp_all [eqSigned_refl]; omega)
  refine r_un (v := .bool true) (vx := .bool (apE kk master a a)) rfl rfl rfl (Eq.trans un_not (congrArg (fun b => some (Value.bool !b)) h8)) ?_
  refine r_pick (v := .bool true) rfl rfl rfl ?_
  refine r_move (v := .bool true) rfl rfl rfl ?_
  refine r_move (v := .bool (apE kk master a b)) rfl rfl rfl ?_
  refine r_un (v := .bool true) (vx := .bool (apE kk master a b)) rfl rfl rfl (Eq.trans un_not (congrArg (fun b => some (Value.bool !b)) h1)) ?_
  refine r_move (v := .bool true) rfl rfl rfl ?_
  refine r_skip rfl rfl ?_
  refine r_skip rfl rfl ?_
  refine r_skip rfl rfl ?_
  refine r_skip rfl rfl ?_
  refine r_skip rfl rfl ?_
  refine r_skip rfl rfl ?_
  refine r_skip rfl rfl ?_
  refine r_skip rfl rfl ?_
  refine r_skip rfl rfl ?_
  refine r_skip rfl rfl ?_
  refine r_skip rfl rfl ?_
  refine r_skip rfl rfl ?_
  refine r_skip rfl rfl ?_
  refine r_skip rfl rfl ?_
  refine r_skip rfl rfl ?_
  refine r_skip rfl rfl ?_
  refine r_skip rfl rfl ?_
  refine r_skip rfl rfl ?_
  refine r_skip rfl rfl ?_
  refine r_skip rfl rfl ?_
  refine r_skip rfl rfl ?_
  refine r_skip rfl rfl ?_
  refine r_pick (v := .bool true) rfl rfl rfl ?_
  refine r_pick (v := .bool true) rfl rfl rfl ?_
  refine r_assign (v := .bool true) rfl rfl rfl ?_
  refine r_doneN ?_
  refine x_then ?_
  refine c_ret ?_
  refine x_end ?_
  exact end_pv (v := .bool true) rfl rfl rfl
end Go.Flat
