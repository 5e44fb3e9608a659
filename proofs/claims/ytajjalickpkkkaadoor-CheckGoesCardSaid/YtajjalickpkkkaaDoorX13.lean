/- Walks and plain laws: what each theorem says, within the bounds that it names. -/
import Derived.Test.YtajjalickpkkkaaDoorK12
set_option linter.unusedVariables false
set_option linter.unusedSimpArgs false
namespace Go.Flat
open Go.Proofs
variable {G : Glob}
theorem refSplit_ok2 (n : Nat) (h : n ≤ 1000000) (h2 : 2 ≤ n) : CallL Tryd.prog G 40 [.int .i64 (n : Nat)] [] (.int .i64 (splitN n : Nat)) [] := (splitF_pos (n := n) h2).2.2 ▸ refSplit_ok (G := G) (n : Int) (by omega) (by omega)
theorem refSumE_ok (kk : Nat → BitVec 32) (hG : G 0 = some (rowE w32 64 kk)) : CallL Tryd.prog G 32 [.string ⟨#[]⟩] [] (dgV (shaOf kk [])) [] := refS_eq kk [] ▸ refSum_ok (G := G) kk hG ⟨#[]⟩ (by show 0 ≤ _; omega)
def refInclE (kk : Nat → BitVec 32) (root : D) (size index : Int) (leaf : D) (ds : List D) (n : Nat) : Int :=
  if size < 1 then 40 else
  if 100000 < size then 40 else
  if index < 0 then 40 else
  if size ≤ index then 40 else
  if 40 < (n : Nat) then 40 else
  if (makesF kk size.toNat index.toNat leaf ds).2 = true then (if sameB 32 ((makesF kk size.toNat index.toNat leaf ds).1) root = true then 0 else
  41) else
  40
theorem refIncluded_ok (kk : Nat → BitVec 32) (hG0 : G 0 = some (rowE w32 64 kk)) (root : D) (size index : Int) (leaf : D) (ds : List D) (n c : Nat) (hn : ds.length = n) (hb : n ≤ 1000) (hc : n ≤ c) : CallL Tryd.prog G 13 [dgV root, .int .i64 size, .int .i64 index, dgV leaf, slv 0 0 n c] [dsR ds] (.int .i64 (refInclE kk root size index leaf ds n)) [dsR ds] := by
  refine walk (fn := Tryd.f13) (nt := 46) rfl rfl rfl rfl ?_
  refine c_hole 3 (H' := [dsR ds, hole, hole, hole]) rfl ?_
  refine c_seq ?_
  refine c_reg ?_
  refine r_box (v := dgV root) (b := dgB root) (nid := 1) (H' := [dsR ds, dgB root, hole, hole]) rfl rfl rfl (by kernel_rfl) (by kernel_rfl) ?_
  refine r_box (v := dgV leaf) (b := dgB leaf) (nid := 2) (H' := [dsR ds, dgB root, dgB leaf, hole]) rfl rfl rfl (by kernel_rfl) (by kernel_rfl) ?_
  refine r_assign (v := .int .i64 0) rfl rfl rfl ?_
  refine r_doneN ?_
  refine x_then ?_
  refine c_seq ?_
  refine c_seq ?_
  refine c_reg ?_
  refine r_move (v := .int .i64 size) rfl rfl rfl ?_
  by_cases h1 : size < 1
  · skip
    refine r_bin (v := .bool true) (vx := .int .i64 size) (vy := .int .i64 1) rfl rfl rfl rfl (lss_t (by omega)) ?_
    refine r_move (v := .bool true) rfl rfl rfl ?_
    refine r_skip rfl rfl ?_
    refine r_skip rfl rfl ?_
    refine r_pick (v := .bool true) rfl rfl rfl ?_
    refine r_move (v := .bool true) rfl rfl rfl ?_
    refine r_skip rfl rfl ?_
    refine r_skip rfl rfl ?_
    refine r_pick (v := .bool true) rfl rfl rfl ?_
    refine r_move (v := .bool true) rfl rfl rfl ?_
    refine r_skip rfl rfl ?_
    refine r_skip rfl rfl ?_
    refine r_skip rfl rfl ?_
    refine r_pick (v := .bool true) rfl rfl rfl ?_
    refine r_move (v := .bool true) rfl rfl rfl ?_
    refine r_skip rfl rfl ?_
    refine r_skip rfl rfl ?_
    refine r_skip rfl rfl ?_
    refine r_pick (v := .bool true) rfl rfl rfl ?_
    refine r_doneN ?_
    refine x_then ?_
    refine c_true rfl ?_
    refine c_seq ?_
    refine c_reg ?_
    refine r_assign (v := .int .i64 40) rfl rfl rfl ?_
    refine r_doneN ?_
    refine x_then ?_
    refine c_ret ?_
    refine x_thenR ?_
    refine x_end ?_
    rw [show refInclE kk root size index leaf ds n = 40 from by unfold refInclE; rw [if_pos h1]]
    exact end_same (v := .int .i64 40) rfl rfl rfl (by simp [keptB, dsR]) rfl
  refine r_bin (v := .bool false) (vx := .int .i64 size) (vy := .int .i64 1) rfl rfl rfl rfl (lss_f (by omega)) ?_
  refine r_move (v := .bool false) rfl rfl rfl ?_
  refine r_move (v := .int .i64 size) rfl rfl rfl ?_
  by_cases h2 : 100000 < size
  · skip
    refine r_bin (v := .bool true) (vx := .int .i64 size) (vy := .int .i64 100000) rfl rfl rfl rfl (gtr_t (by omega)) ?_
    refine r_pick (v := .bool true) rfl rfl rfl ?_
    refine r_move (v := .bool true) rfl rfl rfl ?_
    refine r_skip rfl rfl ?_
    refine r_skip rfl rfl ?_
    refine r_pick (v := .bool true) rfl rfl rfl ?_
    refine r_move (v := .bool true) rfl rfl rfl ?_
    refine r_skip rfl rfl ?_
    refine r_skip rfl rfl ?_
    refine r_skip rfl rfl ?_
    refine r_pick (v := .bool true) rfl rfl rfl ?_
    refine r_move (v := .bool true) rfl rfl rfl ?_
    refine r_skip rfl rfl ?_
    refine r_skip rfl rfl ?_
    refine r_skip rfl rfl ?_
    refine r_pick (v := .bool true) rfl rfl rfl ?_
    refine r_doneN ?_
    refine x_then ?_
    refine c_true rfl ?_
    refine c_seq ?_
    refine c_reg ?_
    refine r_assign (v := .int .i64 40) rfl rfl rfl ?_
    refine r_doneN ?_
    refine x_then ?_
    refine c_ret ?_
    refine x_thenR ?_
    refine x_end ?_
    rw [show refInclE kk root size index leaf ds n = 40 from by unfold refInclE; rw [if_neg h1, if_pos h2]]
    exact end_same (v := .int .i64 40) rfl rfl rfl (by simp [keptB, dsR]) rfl
  refine r_bin (v := .bool false) (vx := .int .i64 size) (vy := .int .i64 100000) rfl rfl rfl rfl (gtr_f (by omega)) ?_
  refine r_pick (v := .bool false) rfl rfl rfl ?_
  refine r_move (v := .bool false) rfl rfl rfl ?_
  refine r_move (v := .int .i64 index) rfl rfl rfl ?_
  by_cases h3 : index < 0
  · skip
    refine r_bin (v := .bool true) (vx := .int .i64 index) (vy := .int .i64 0) rfl rfl rfl rfl (lss_t (by omega)) ?_
    refine r_pick (v := .bool true) rfl rfl rfl ?_
    refine r_move (v := .bool true) rfl rfl rfl ?_
    refine r_skip rfl rfl ?_
    refine r_skip rfl rfl ?_
    refine r_skip rfl rfl ?_
    refine r_pick (v := .bool true) rfl rfl rfl ?_
    refine r_move (v := .bool true) rfl rfl rfl ?_
    refine r_skip rfl rfl ?_
    refine r_skip rfl rfl ?_
    refine r_skip rfl rfl ?_
    refine r_pick (v := .bool true) rfl rfl rfl ?_
    refine r_doneN ?_
    refine x_then ?_
    refine c_true rfl ?_
    refine c_seq ?_
    refine c_reg ?_
    refine r_assign (v := .int .i64 40) rfl rfl rfl ?_
    refine r_doneN ?_
    refine x_then ?_
    refine c_ret ?_
    refine x_thenR ?_
    refine x_end ?_
    rw [show refInclE kk root size index leaf ds n = 40 from by unfold refInclE; rw [if_neg h1, if_neg h2, if_pos h3]]
    exact end_same (v := .int .i64 40) rfl rfl rfl (by simp [keptB, dsR]) rfl
  refine r_bin (v := .bool false) (vx := .int .i64 index) (vy := .int .i64 0) rfl rfl rfl rfl (lss_f (by omega)) ?_
  refine r_pick (v := .bool false) rfl rfl rfl ?_
  refine r_move (v := .bool false) rfl rfl rfl ?_
  refine r_move (v := .int .i64 index) rfl rfl rfl ?_
  refine r_move (v := .int .i64 size) rfl rfl rfl ?_
  by_cases h4 : size ≤ index
  · skip
    refine r_bin (v := .bool true) (vx := .int .i64 index) (vy := .int .i64 size) rfl rfl rfl rfl (geq_t (by omega)) ?_
    refine r_pick (v := .bool true) rfl rfl rfl ?_
    refine r_move (v := .bool true) rfl rfl rfl ?_
    refine r_skip rfl rfl ?_
    refine r_skip rfl rfl ?_
    refine r_skip rfl rfl ?_
    refine r_pick (v := .bool true) rfl rfl rfl ?_
    refine r_doneN ?_
    refine x_then ?_
    refine c_true rfl ?_
    refine c_seq ?_
    refine c_reg ?_
    refine r_assign (v := .int .i64 40) rfl rfl rfl ?_
    refine r_doneN ?_
    refine x_then ?_
    refine c_ret ?_
    refine x_thenR ?_
    refine x_end ?_
    rw [show refInclE kk root size index leaf ds n = 40 from by unfold refInclE; rw [if_neg h1, if_neg h2, if_neg h3, if_pos h4]]
    exact end_same (v := .int .i64 40) rfl rfl rfl (by simp [keptB, dsR]) rfl
  refine r_bin (v := .bool false) (vx := .int .i64 index) (vy := .int .i64 size) rfl rfl rfl rfl (geq_f (by omega)) ?_
  refine r_pick (v := .bool false) rfl rfl rfl ?_
  refine r_move (v := .bool false) rfl rfl rfl ?_
  refine r_move (v := slv 0 0 n c) rfl rfl rfl ?_
  refine r_len (p := slv 0 0 n c) (v := .int .i64 (n : Nat)) rfl rfl rfl rfl ?_
  by_cases h5 : 40 < (n : Nat)
  · skip
    refine r_bin (v := .bool true) (vx := .int .i64 (n : Nat)) (vy := .int .i64 40) rfl rfl rfl rfl (gtr_t (by omega)) ?_
    refine r_pick (v := .bool true) rfl rfl rfl ?_
    refine r_doneN ?_
    refine x_then ?_
    refine c_true rfl ?_
    refine c_seq ?_
    refine c_reg ?_
    refine r_assign (v := .int .i64 40) rfl rfl rfl ?_
    refine r_doneN ?_
    refine x_then ?_
    refine c_ret ?_
    refine x_thenR ?_
    refine x_end ?_
    rw [show refInclE kk root size index leaf ds n = 40 from by unfold refInclE; rw [if_neg h1, if_neg h2, if_neg h3, if_neg h4, if_pos h5]]
    exact end_same (v := .int .i64 40) rfl rfl rfl (by simp [keptB, dsR]) rfl
  refine r_bin (v := .bool false) (vx := .int .i64 (n : Nat)) (vy := .int .i64 40) rfl rfl rfl rfl (gtr_f (by omega)) ?_
  refine r_pick (v := .bool false) rfl rfl rfl ?_
  refine r_doneN ?_
  refine x_then ?_
  refine c_false rfl ?_
  refine c_skip ?_
  refine x_then ?_
  refine c_seq ?_
  refine c_reg ?_
  refine r_move (v := .int .i64 size) rfl rfl rfl ?_
  refine r_move (v := .int .i64 index) rfl rfl rfl ?_
  refine r_load (p := pt 2 0) (v := dgV leaf) rfl rfl rfl (by kernel_rfl) ?_
  refine r_move (v := slv 0 0 n c) rfl rfl rfl ?_
  refine r_callN (e := [some (0, 0)]) (nid := 0) (Makes_ok (G := G) kk hG0 leaf size.toNat index.toNat ds n c hn (by omega) (by omega) (by omega) (by omega) (by omega)) (vals := [.int .i64 size, .int .i64 index, dgV leaf, slv 0 0 n c]) (v := .tuple #[dgV ((makesF kk size.toNat index.toNat leaf ds).1), .bool ((makesF kk size.toNat index.toNat leaf ds).2)]) (H' := [dsR ds, dgB root, dgB leaf, hole]) rfl rfl rfl rfl rfl rfl rfl ⟨⟨(congrArg (Value.int .i64) (by omega)), (congrArg (Value.int .i64) (by omega)), rfl, ⟨rfl, rfl, rfl, by omega, by omega⟩, trivial⟩, ⟨(emb_dsR rfl), trivial⟩, rfl, rfl, rfl⟩ (by kernel_rfl) (by kernel_rfl) ?_
  refine r_move (v := .tuple #[dgV ((makesF kk size.toNat index.toNat leaf ds).1), .bool ((makesF kk size.toNat index.toNat leaf ds).2)]) rfl rfl rfl ?_
  refine r_extract (vs := #[dgV ((makesF kk size.toNat index.toNat leaf ds).1), .bool ((makesF kk size.toNat index.toNat leaf ds).2)]) (v := dgV ((makesF kk size.toNat index.toNat leaf ds).1)) rfl rfl rfl rfl ?_
  refine r_extract (vs := #[dgV ((makesF kk size.toNat index.toNat leaf ds).1), .bool ((makesF kk size.toNat index.toNat leaf ds).2)]) (v := .bool ((makesF kk size.toNat index.toNat leaf ds).2)) rfl rfl rfl rfl ?_
  refine r_alloc (b := dgB dz) (nid := 3) (H' := [dsR ds, dgB root, dgB leaf, dgB dz]) rfl rfl (by kernel_rfl) (by kernel_rfl) ?_
  refine r_store (p := pt 3 0) (v := dgV ((makesF kk size.toNat index.toNat leaf ds).1)) (b := 3) (blk := dgB ((makesF kk size.toNat index.toNat leaf ds).1)) (H' := [dsR ds, dgB root, dgB leaf, dgB ((makesF kk size.toNat index.toNat leaf ds).1)]) rfl rfl rfl (by kernel_rfl) (by kernel_rfl) ?_
  refine r_assign (v := .bool ((makesF kk size.toNat index.toNat leaf ds).2)) rfl rfl rfl ?_
  refine r_doneN ?_
  refine x_then ?_
  refine c_seq ?_
  refine c_seq ?_
  refine c_reg ?_
  refine r_move (v := .bool ((makesF kk size.toNat index.toNat leaf ds).2)) rfl rfl rfl ?_
  rcases Bool.eq_false_or_eq_true ((makesF kk size.toNat index.toNat leaf ds).2) with h6 | h6
  · skip
    refine r_un (v := .bool false) (vx := .bool ((makesF kk size.toNat index.toNat leaf ds).2)) rfl rfl rfl (Eq.trans un_not (congrArg (fun b => some (Value.bool !b)) h6)) ?_
    refine r_doneN ?_
    refine x_then ?_
    refine c_false rfl ?_
    refine c_skip ?_
    refine x_then ?_
    refine c_seq ?_
    refine c_seq ?_
    refine c_reg ?_
    refine r_load (p := pt 3 0) (v := dgV ((makesF kk size.toNat index.toNat leaf ds).1)) rfl rfl rfl (by kernel_rfl) ?_
    refine r_load (p := pt 1 0) (v := dgV root) rfl rfl rfl (by kernel_rfl) ?_
    rcases Bool.eq_false_or_eq_true (sameB 32 ((makesF kk size.toNat index.toNat leaf ds).1) root) with h7 | h7
    · skip
      refine r_bin (v := .bool false) (vx := dgV ((makesF kk size.toNat index.toNat leaf ds).1)) (vy := dgV root) rfl rfl rfl rfl (Eq.trans (neq_dg (n := 32) (a := (makesF kk size.toNat index.toNat leaf ds).1) (b := root) (by kernel_rfl) rfl rfl rfl) (by rw [h7]; rfl)) ?_
      refine r_doneN ?_
      refine x_then ?_
      refine c_false rfl ?_
      refine c_skip ?_
      refine x_then ?_
      refine c_seq ?_
      refine c_reg ?_
      refine r_assign (v := .int .i64 0) rfl rfl rfl ?_
      refine r_doneN ?_
      refine x_then ?_
      refine c_ret ?_
      refine x_end ?_
      rw [show refInclE kk root size index leaf ds n = 0 from by unfold refInclE; rw [if_neg h1, if_neg h2, if_neg h3, if_neg h4, if_neg h5, if_pos h6, if_pos h7]]
      exact end_same (v := .int .i64 0) rfl rfl rfl (by simp [keptB, dsR]) rfl
    refine r_bin (v := .bool true) (vx := dgV ((makesF kk size.toNat index.toNat leaf ds).1)) (vy := dgV root) rfl rfl rfl rfl (Eq.trans (neq_dg (n := 32) (a := (makesF kk size.toNat index.toNat leaf ds).1) (b := root) (by kernel_rfl) rfl rfl rfl) (by rw [h7]; rfl)) ?_
    refine r_doneN ?_
    refine x_then ?_
    refine c_true rfl ?_
    refine c_seq ?_
    refine c_reg ?_
    refine r_assign (v := .int .i64 41) rfl rfl rfl ?_
    refine r_doneN ?_
    refine x_then ?_
    refine c_ret ?_
    refine x_thenR ?_
    refine x_end ?_
    rw [show refInclE kk root size index leaf ds n = 41 from by unfold refInclE; rw [if_neg h1, if_neg h2, if_neg h3, if_neg h4, if_neg h5, if_pos h6, if_neg (by rw [h7]; decide)]]
    exact end_same (v := .int .i64 41) rfl rfl rfl (by simp [keptB, dsR]) rfl
  refine r_un (v := .bool true) (vx := .bool ((makesF kk size.toNat index.toNat leaf ds).2)) rfl rfl rfl (Eq.trans un_not (congrArg (fun b => some (Value.bool !b)) h6)) ?_
  refine r_doneN ?_
  refine x_then ?_
  refine c_true rfl ?_
  refine c_seq ?_
  refine c_reg ?_
  refine r_assign (v := .int .i64 40) rfl rfl rfl ?_
  refine r_doneN ?_
  refine x_then ?_
  refine c_ret ?_
  refine x_thenR ?_
  refine x_end ?_
  rw [show refInclE kk root size index leaf ds n = 40 from by unfold refInclE; rw [if_neg h1, if_neg h2, if_neg h3, if_neg h4, if_neg h5, if_neg (by rw [h6]; decide)]]
  exact end_same (v := .int .i64 40) rfl rfl rfl (by simp [keptB, dsR]) rfl
def bothR (kk : Nat → BitVec 32) (old : D) : Nat → Nat → Nat → Bool → List D → Nat → D × D × Bool
  | 0, _, _, _, _, _ => (old, old, false)
  | f + 1, m, n, known, ds, k =>
  if (m : Nat) = (n : Nat) then (if known = true then (if (k : Nat) = 0 then (old, old, true) else
  (old, old, false)) else
  if (k : Nat) = 0 then (old, old, false) else
  if (k : Nat) = 1 then ((ds.getD (k - 1) d0), (ds.getD (k - 1) d0), true) else
  ((ds.getD (k - 1) d0), (ds.getD (k - 1) d0), false)) else
  if (k : Nat) = 0 then (old, old, false) else
  if (m : Nat) ≤ (((splitN n) : Nat) : Int) then ((bothR kk old f m (splitN n) known (sub ds 0 (k - 1)) (k - 1)).1, (knotF kk ((bothR kk old f m (splitN n) known (sub ds 0 (k - 1)) (k - 1)).2.1) (ds.getD (k - 1) d0)), (bothR kk old f m (splitN n) known (sub ds 0 (k - 1)) (k - 1)).2.2) else
  ((knotF kk (ds.getD (k - 1) d0) ((bothR kk old f (m - (splitN n)) (n - (splitN n)) false (sub ds 0 (k - 1)) (k - 1)).1)), (knotF kk (ds.getD (k - 1) d0) ((bothR kk old f (m - (splitN n)) (n - (splitN n)) false (sub ds 0 (k - 1)) (k - 1)).2.1)), (bothR kk old f (m - (splitN n)) (n - (splitN n)) false (sub ds 0 (k - 1)) (k - 1)).2.2)
theorem refBoth_ok (kk : Nat → BitVec 32) (hG0 : G 0 = some (rowE w32 64 kk)) (old : D) (f m n : Nat) (known : Bool) (ds : List D) (k c : Nat) (hk : ds.length = k) (hb : k ≤ 1000) (hc : k ≤ c) (hf : n ≤ f) (hn : n ≤ 100000) (hm : m ≤ n) (h1 : 1 ≤ m) : CallL Tryd.prog G 33 [.int .i64 (m : Nat), .int .i64 (n : Nat), dgV old, .bool known, slv 0 0 k c] [dsR ds] (.tuple #[dgV (bothR kk old f m n known ds k).1, dgV (bothR kk old f m n known ds k).2.1, .bool (bothR kk old f m n known ds k).2.2]) [dsR ds] := by
  induction f generalizing m n known ds k c with
  | zero => omega
  | succ f ih =>
    refine walk (fn := Tryd.f33) (nt := 96) rfl rfl rfl rfl ?_
    refine c_hole 6 (H' := [dsR ds, hole, hole, hole, hole, hole, hole]) rfl ?_
    refine c_seq ?_
    refine c_reg ?_
    refine r_box (v := dgV old) (b := dgB old) (nid := 1) (H' := [dsR ds, dgB old, hole, hole, hole, hole, hole]) rfl rfl rfl (by kernel_rfl) (by kernel_rfl) ?_
    refine r_alloc (b := dgB dz) (nid := 2) (H' := [dsR ds, dgB old, dgB dz, hole, hole, hole, hole]) rfl rfl (by kernel_rfl) (by kernel_rfl) ?_
    refine r_alloc (b := dgB dz) (nid := 3) (H' := [dsR ds, dgB old, dgB dz, dgB dz, hole, hole, hole]) rfl rfl (by kernel_rfl) (by kernel_rfl) ?_
    refine r_assign (v := .bool false) rfl rfl rfl ?_
    refine r_doneN ?_
    refine x_then ?_
    refine c_seq ?_
    refine c_reg ?_
    refine r_move (v := slv 0 0 k c) rfl rfl rfl ?_
    refine r_len (p := slv 0 0 k c) (v := .int .i64 (k : Nat)) rfl rfl rfl rfl ?_
    refine r_assign (v := .int .i64 (k : Nat)) rfl rfl rfl ?_
    refine r_doneN ?_
    refine x_then ?_
    refine c_seq ?_
    refine c_seq ?_
    refine c_reg ?_
    refine r_move (v := .int .i64 (m : Nat)) rfl rfl rfl ?_
    refine r_move (v := .int .i64 (n : Nat)) rfl rfl rfl ?_
    by_cases h1 : (m : Nat) = (n : Nat)
    · skip
      refine r_bin (v := .bool true) (vx := .int .i64 (m : Nat)) (vy := .int .i64 (n : Nat)) rfl rfl rfl rfl (eql_t (by omega)) ?_
      refine r_move (v := .bool true) rfl rfl rfl ?_
      refine r_move (v := .bool known) rfl rfl rfl ?_
      refine r_pick (v := .bool known) rfl rfl rfl ?_
      refine r_doneN ?_
      refine x_then ?_
      rcases Bool.eq_false_or_eq_true known with h2 | h2
      · skip
        refine c_true (congrArg Value.bool h2) ?_
        refine c_seq ?_
        refine c_draw (by kernel_rfl) ?_
        refine r_load (p := pt 1 0) (v := dgV old) rfl rfl rfl (by kernel_rfl) ?_
        refine r_load (p := pt 1 0) (v := dgV old) rfl rfl rfl (by kernel_rfl) ?_
        refine r_move (v := .int .i64 (k : Nat)) rfl rfl rfl ?_
        by_cases h3 : (k : Nat) = 0
        · skip
          refine r_bin (v := .bool true) (vx := .int .i64 (k : Nat)) (vy := .int .i64 0) rfl rfl rfl rfl (eql_t (by omega)) ?_
          refine r_store (p := pt 2 0) (v := dgV old) (b := 2) (blk := dgB old) (H' := [dsR ds, dgB old, dgB old, dgB dz, hole, hole, hole]) rfl rfl rfl (by kernel_rfl) (by kernel_rfl) ?_
          refine r_store (p := pt 3 0) (v := dgV old) (b := 3) (blk := dgB old) (H' := [dsR ds, dgB old, dgB old, dgB old, hole, hole, hole]) rfl rfl rfl (by kernel_rfl) (by kernel_rfl) ?_
          refine r_assign (v := .bool true) rfl rfl rfl ?_
          refine r_doneD (by kernel_rfl) ?_
          refine x_then ?_
          refine c_ret ?_
          refine x_thenR ?_
          refine x_end ?_
          rw [show bothR kk old (f + 1) m n known ds k = (old, old, true) from by rw [bothR]; rw [if_pos h1, if_pos h2, if_pos h3]]
          exact end_same (v := .tuple #[dgV old, dgV old, .bool true]) (by kernel_rfl) rfl rfl (by simp [keptB, dsR]) ⟨(argV_pure (pure_row fun _ => rfl) rfl), (argV_pure (pure_row fun _ => rfl) rfl), rfl, trivial⟩
        refine r_bin (v := .bool false) (vx := .int .i64 (k : Nat)) (vy := .int .i64 0) rfl rfl rfl rfl (eql_f (by omega)) ?_
        refine r_store (p := pt 2 0) (v := dgV old) (b := 2) (blk := dgB old) (H' := [dsR ds, dgB old, dgB old, dgB dz, hole, hole, hole]) rfl rfl rfl (by kernel_rfl) (by kernel_rfl) ?_
        refine r_store (p := pt 3 0) (v := dgV old) (b := 3) (blk := dgB old) (H' := [dsR ds, dgB old, dgB old, dgB old, hole, hole, hole]) rfl rfl rfl (by kernel_rfl) (by kernel_rfl) ?_
        refine r_assign (v := .bool false) rfl rfl rfl ?_
        refine r_doneD (by kernel_rfl) ?_
        refine x_then ?_
        refine c_ret ?_
        refine x_thenR ?_
        refine x_end ?_
        rw [show bothR kk old (f + 1) m n known ds k = (old, old, false) from by rw [bothR]; rw [if_pos h1, if_pos h2, if_neg h3]]
        exact end_same (v := .tuple #[dgV old, dgV old, .bool false]) (by kernel_rfl) rfl rfl (by simp [keptB, dsR]) ⟨(argV_pure (pure_row fun _ => rfl) rfl), (argV_pure (pure_row fun _ => rfl) rfl), rfl, trivial⟩
      refine c_false (congrArg Value.bool h2) ?_
      refine c_skip ?_
      refine x_then ?_
      refine c_seq ?_
      refine c_seq ?_
      refine c_reg ?_
      refine r_move (v := .int .i64 (k : Nat)) rfl rfl rfl ?_
      by_cases h4 : (k : Nat) = 0
      · skip
        refine r_bin (v := .bool true) (vx := .int .i64 (k : Nat)) (vy := .int .i64 0) rfl rfl rfl rfl (eql_t (by omega)) ?_
        refine r_doneN ?_
        refine x_then ?_
        refine c_true rfl ?_
        refine c_seq ?_
        refine c_draw (by kernel_rfl) ?_
        refine r_load (p := pt 1 0) (v := dgV old) rfl rfl rfl (by kernel_rfl) ?_
        refine r_load (p := pt 1 0) (v := dgV old) rfl rfl rfl (by kernel_rfl) ?_
        refine r_store (p := pt 2 0) (v := dgV old) (b := 2) (blk := dgB old) (H' := [dsR ds, dgB old, dgB old, dgB dz, hole, hole, hole]) rfl rfl rfl (by kernel_rfl) (by kernel_rfl) ?_
        refine r_store (p := pt 3 0) (v := dgV old) (b := 3) (blk := dgB old) (H' := [dsR ds, dgB old, dgB old, dgB old, hole, hole, hole]) rfl rfl rfl (by kernel_rfl) (by kernel_rfl) ?_
        refine r_assign (v := .bool false) rfl rfl rfl ?_
        refine r_doneD (by kernel_rfl) ?_
        refine x_then ?_
        refine c_ret ?_
        refine x_thenR ?_
        refine x_end ?_
        rw [show bothR kk old (f + 1) m n known ds k = (old, old, false) from by rw [bothR]; rw [if_pos h1, if_neg (by rw [h2]; decide), if_pos h4]]
        exact end_same (v := .tuple #[dgV old, dgV old, .bool false]) (by kernel_rfl) rfl rfl (by simp [keptB, dsR]) ⟨(argV_pure (pure_row fun _ => rfl) rfl), (argV_pure (pure_row fun _ => rfl) rfl), rfl, trivial⟩
      refine r_bin (v := .bool false) (vx := .int .i64 (k : Nat)) (vy := .int .i64 0) rfl rfl rfl rfl (eql_f (by omega)) ?_
      refine r_doneN ?_
      refine x_then ?_
      refine c_false rfl ?_
      refine c_skip ?_
      refine x_then ?_
      refine c_seq ?_
      refine c_reg ?_
      refine r_move (v := slv 0 0 k c) rfl rfl rfl ?_
      refine r_move (v := .int .i64 (k : Nat)) rfl rfl rfl ?_
      refine r_bin (v := .int .i64 ((k : Nat) - 1)) (vx := .int .i64 (k : Nat)) (vy := .int .i64 1) rfl rfl rfl rfl (bin_sub (by omega) (by omega) (by omega)) ?_
      refine r_idxS (b := 0) (o := 0) (j := (k - 1) * 32) (m := k) (c := c) (sz := 32) (i := (k : Nat) - 1) (k := .i64) rfl rfl rfl rfl rfl (by omega) (by omega) (by omega) ?_
      refine r_load (p := pt 0 ((k - 1) * 32)) (v := dgV (ds.getD (k - 1) d0)) rfl rfl rfl (load_ds rfl rfl rfl (by have := hk; omega) (by omega)) ?_
      refine r_alloc (b := dgB dz) (nid := 4) (H' := [dsR ds, dgB old, dgB dz, dgB dz, dgB dz, hole, hole]) rfl rfl (by kernel_rfl) (by kernel_rfl) ?_
      refine r_store (p := pt 4 0) (v := dgV (ds.getD (k - 1) d0)) (b := 4) (blk := dgB (ds.getD (k - 1) d0)) (H' := [dsR ds, dgB old, dgB dz, dgB dz, dgB (ds.getD (k - 1) d0), hole, hole]) rfl rfl rfl (by kernel_rfl) (by kernel_rfl) ?_
      refine r_doneN ?_
      refine x_then ?_
      refine c_seq ?_
      refine c_seq ?_
      refine c_reg ?_
      refine r_move (v := .int .i64 (m : Nat)) rfl rfl rfl ?_
      refine r_move (v := .int .i64 (n : Nat)) rfl rfl rfl ?_
      refine r_bin (v := .bool true) (vx := .int .i64 (m : Nat)) (vy := .int .i64 (n : Nat)) rfl rfl rfl rfl (eql_t (by omega)) ?_
      refine r_doneN ?_
      refine x_then ?_
      refine c_true rfl ?_
      refine c_seq ?_
      refine c_draw (by kernel_rfl) ?_
      refine r_load (p := pt 4 0) (v := dgV (ds.getD (k - 1) d0)) rfl rfl rfl (by kernel_rfl) ?_
      refine r_load (p := pt 4 0) (v := dgV (ds.getD (k - 1) d0)) rfl rfl rfl (by kernel_rfl) ?_
      refine r_move (v := .int .i64 (k : Nat)) rfl rfl rfl ?_
      by_cases h5 : (k : Nat) = 1
      · skip
        refine r_bin (v := .bool true) (vx := .int .i64 (k : Nat)) (vy := .int .i64 1) rfl rfl rfl rfl (eql_t (by omega)) ?_
        refine r_store (p := pt 2 0) (v := dgV (ds.getD (k - 1) d0)) (b := 2) (blk := dgB (ds.getD (k - 1) d0)) (H' := [dsR ds, dgB old, dgB (ds.getD (k - 1) d0), dgB dz, dgB (ds.getD (k - 1) d0), hole, hole]) rfl rfl rfl (by kernel_rfl) (by kernel_rfl) ?_
        refine r_store (p := pt 3 0) (v := dgV (ds.getD (k - 1) d0)) (b := 3) (blk := dgB (ds.getD (k - 1) d0)) (H' := [dsR ds, dgB old, dgB (ds.getD (k - 1) d0), dgB (ds.getD (k - 1) d0), dgB (ds.getD (k - 1) d0), hole, hole]) rfl rfl rfl (by kernel_rfl) (by kernel_rfl) ?_
        refine r_assign (v := .bool true) rfl rfl rfl ?_
        refine r_doneD (by kernel_rfl) ?_
        refine x_then ?_
        refine c_ret ?_
        refine x_thenR ?_
        refine x_end ?_
        rw [show bothR kk old (f + 1) m n known ds k = ((ds.getD (k - 1) d0), (ds.getD (k - 1) d0), true) from by rw [bothR]; rw [if_pos h1, if_neg (by rw [h2]; decide), if_neg h4, if_pos h5]]
        exact end_same (v := .tuple #[dgV (ds.getD (k - 1) d0), dgV (ds.getD (k - 1) d0), .bool true]) (by kernel_rfl) rfl rfl (by simp [keptB, dsR]) ⟨(argV_pure (pure_row fun _ => rfl) rfl), (argV_pure (pure_row fun _ => rfl) rfl), rfl, trivial⟩
      refine r_bin (v := .bool false) (vx := .int .i64 (k : Nat)) (vy := .int .i64 1) rfl rfl rfl rfl (eql_f (by omega)) ?_
      refine r_store (p := pt 2 0) (v := dgV (ds.getD (k - 1) d0)) (b := 2) (blk := dgB (ds.getD (k - 1) d0)) (H' := [dsR ds, dgB old, dgB (ds.getD (k - 1) d0), dgB dz, dgB (ds.getD (k - 1) d0), hole, hole]) rfl rfl rfl (by kernel_rfl) (by kernel_rfl) ?_
      refine r_store (p := pt 3 0) (v := dgV (ds.getD (k - 1) d0)) (b := 3) (blk := dgB (ds.getD (k - 1) d0)) (H' := [dsR ds, dgB old, dgB (ds.getD (k - 1) d0), dgB (ds.getD (k - 1) d0), dgB (ds.getD (k - 1) d0), hole, hole]) rfl rfl rfl (by kernel_rfl) (by kernel_rfl) ?_
      refine r_assign (v := .bool false) rfl rfl rfl ?_
      refine r_doneD (by kernel_rfl) ?_
      refine x_then ?_
      refine c_ret ?_
      refine x_thenR ?_
      refine x_end ?_
      rw [show bothR kk old (f + 1) m n known ds k = ((ds.getD (k - 1) d0), (ds.getD (k - 1) d0), false) from by rw [bothR]; rw [if_pos h1, if_neg (by rw [h2]; decide), if_neg h4, if_neg h5]]
      exact end_same (v := .tuple #[dgV (ds.getD (k - 1) d0), dgV (ds.getD (k - 1) d0), .bool false]) (by kernel_rfl) rfl rfl (by simp [keptB, dsR]) ⟨(argV_pure (pure_row fun _ => rfl) rfl), (argV_pure (pure_row fun _ => rfl) rfl), rfl, trivial⟩
    refine r_bin (v := .bool false) (vx := .int .i64 (m : Nat)) (vy := .int .i64 (n : Nat)) rfl rfl rfl rfl (eql_f (by omega)) ?_
    refine r_move (v := .bool false) rfl rfl rfl ?_
    refine r_skip rfl rfl ?_
    refine r_pick (v := .bool false) rfl rfl rfl ?_
    refine r_doneN ?_
    refine x_then ?_
    refine c_false rfl ?_
    refine c_skip ?_
    refine x_then ?_
    refine c_seq ?_
    refine c_seq ?_
    refine c_reg ?_
    refine r_move (v := .int .i64 (k : Nat)) rfl rfl rfl ?_
    by_cases h6 : (k : Nat) = 0
    · skip
      refine r_bin (v := .bool true) (vx := .int .i64 (k : Nat)) (vy := .int .i64 0) rfl rfl rfl rfl (eql_t (by omega)) ?_
      refine r_doneN ?_
      refine x_then ?_
      refine c_true rfl ?_
      refine c_seq ?_
      refine c_draw (by kernel_rfl) ?_
      refine r_load (p := pt 1 0) (v := dgV old) rfl rfl rfl (by kernel_rfl) ?_
      refine r_load (p := pt 1 0) (v := dgV old) rfl rfl rfl (by kernel_rfl) ?_
      refine r_store (p := pt 2 0) (v := dgV old) (b := 2) (blk := dgB old) (H' := [dsR ds, dgB old, dgB old, dgB dz, hole, hole, hole]) rfl rfl rfl (by kernel_rfl) (by kernel_rfl) ?_
      refine r_store (p := pt 3 0) (v := dgV old) (b := 3) (blk := dgB old) (H' := [dsR ds, dgB old, dgB old, dgB old, hole, hole, hole]) rfl rfl rfl (by kernel_rfl) (by kernel_rfl) ?_
      refine r_assign (v := .bool false) rfl rfl rfl ?_
      refine r_doneD (by kernel_rfl) ?_
      refine x_then ?_
      refine c_ret ?_
      refine x_thenR ?_
      refine x_end ?_
      rw [show bothR kk old (f + 1) m n known ds k = (old, old, false) from by rw [bothR]; rw [if_neg h1, if_pos h6]]
      exact end_same (v := .tuple #[dgV old, dgV old, .bool false]) (by kernel_rfl) rfl rfl (by simp [keptB, dsR]) ⟨(argV_pure (pure_row fun _ => rfl) rfl), (argV_pure (pure_row fun _ => rfl) rfl), rfl, trivial⟩
    refine r_bin (v := .bool false) (vx := .int .i64 (k : Nat)) (vy := .int .i64 0) rfl rfl rfl rfl (eql_f (by omega)) ?_
    refine r_doneN ?_
    refine x_then ?_
    refine c_false rfl ?_
    refine c_skip ?_
    refine x_then ?_
    refine c_seq ?_
    refine c_reg ?_
    refine r_move (v := slv 0 0 k c) rfl rfl rfl ?_
    refine r_move (v := .int .i64 (k : Nat)) rfl rfl rfl ?_
    refine r_bin (v := .int .i64 ((k : Nat) - 1)) (vx := .int .i64 (k : Nat)) (vy := .int .i64 1) rfl rfl rfl rfl (bin_sub (by omega) (by omega) (by omega)) ?_
    refine r_idxS (b := 0) (o := 0) (j := (k - 1) * 32) (m := k) (c := c) (sz := 32) (i := (k : Nat) - 1) (k := .i64) rfl rfl rfl rfl rfl (by omega) (by omega) (by omega) ?_
    refine r_load (p := pt 0 ((k - 1) * 32)) (v := dgV (ds.getD (k - 1) d0)) rfl rfl rfl (load_ds rfl rfl rfl (by have := hk; omega) (by omega)) ?_
    refine r_alloc (b := dgB dz) (nid := 4) (H' := [dsR ds, dgB old, dgB dz, dgB dz, dgB dz, hole, hole]) rfl rfl (by kernel_rfl) (by kernel_rfl) ?_
    refine r_store (p := pt 4 0) (v := dgV (ds.getD (k - 1) d0)) (b := 4) (blk := dgB (ds.getD (k - 1) d0)) (H' := [dsR ds, dgB old, dgB dz, dgB dz, dgB (ds.getD (k - 1) d0), hole, hole]) rfl rfl rfl (by kernel_rfl) (by kernel_rfl) ?_
    refine r_doneN ?_
    refine x_then ?_
    refine c_seq ?_
    refine c_seq ?_
    refine c_reg ?_
    refine r_move (v := .int .i64 (m : Nat)) rfl rfl rfl ?_
    refine r_move (v := .int .i64 (n : Nat)) rfl rfl rfl ?_
    refine r_bin (v := .bool false) (vx := .int .i64 (m : Nat)) (vy := .int .i64 (n : Nat)) rfl rfl rfl rfl (eql_f (by omega)) ?_
    refine r_doneN ?_
    refine x_then ?_
    refine c_false rfl ?_
    refine c_skip ?_
    refine x_then ?_
    refine c_seq ?_
    refine c_reg ?_
    refine r_move (v := .int .i64 (n : Nat)) rfl rfl rfl ?_
    have hs4 := splitN_pos (n := n) (by omega)
    refine r_callP (refSplit_ok2 (G := G) n (by omega) (by omega)) (vals := [.int .i64 (n : Nat)]) (res' := .int .i64 (((splitN n) : Nat) : Int)) rfl rfl rfl rfl rfl rfl ?_
    refine r_assign (v := .int .i64 (((splitN n) : Nat) : Int)) rfl rfl rfl ?_
    refine r_doneN ?_
    refine x_then ?_
    refine c_seq ?_
    refine c_seq ?_
    refine c_reg ?_
    refine r_move (v := .int .i64 (m : Nat)) rfl rfl rfl ?_
    refine r_move (v := .int .i64 (((splitN n) : Nat) : Int)) rfl rfl rfl ?_
    by_cases h7 : (m : Nat) ≤ (((splitN n) : Nat) : Int)
    · skip
      refine r_bin (v := .bool true) (vx := .int .i64 (m : Nat)) (vy := .int .i64 (((splitN n) : Nat) : Int)) rfl rfl rfl rfl (leq_t (by omega)) ?_
      refine r_doneN ?_
      refine x_then ?_
      refine c_true rfl ?_
      refine c_seq ?_
      refine c_draw (by kernel_rfl) ?_
      refine r_move (v := .int .i64 (m : Nat)) rfl rfl rfl ?_
      refine r_move (v := .int .i64 (((splitN n) : Nat) : Int)) rfl rfl rfl ?_
      refine r_load (p := pt 1 0) (v := dgV old) rfl rfl rfl (by kernel_rfl) ?_
      refine r_move (v := .bool known) rfl rfl rfl ?_
      refine r_move (v := slv 0 0 k c) rfl rfl rfl ?_
      refine r_move (v := .int .i64 (k : Nat)) rfl rfl rfl ?_
      refine r_bin (v := .int .i64 ((k : Nat) - 1)) (vx := .int .i64 (k : Nat)) (vy := .int .i64 1) rfl rfl rfl rfl (bin_sub (by omega) (by omega) (by omega)) ?_
      refine r_slice (p := slv 0 0 k c) (vl := none) (vh := some (.int .i64 ((k : Nat) - 1))) (v := slv 0 0 (k - 1) c) rfl rfl rfl rfl rfl (slice_hi (h := k - 1) rfl rfl (by omega) (by omega) rfl) ?_
      refine r_callN (e := [some (0, 0)]) (nid := 0) (ih m (splitN n) known (sub ds 0 (k - 1)) (k - 1) c (sub_len (by have := hk; omega)) (by omega) (by omega) (by omega) (by omega) (by omega) (by omega)) (vals := [.int .i64 (m : Nat), .int .i64 (((splitN n) : Nat) : Int), dgV old, .bool known, slv 0 0 (k - 1) c]) (v := .tuple #[dgV ((bothR kk old f m (splitN n) known (sub ds 0 (k - 1)) (k - 1)).1), dgV ((bothR kk old f m (splitN n) known (sub ds 0 (k - 1)) (k - 1)).2.1), .bool ((bothR kk old f m (splitN n) known (sub ds 0 (k - 1)) (k - 1)).2.2)]) (H' := [dsR ds, dgB old, dgB dz, dgB dz, dgB (ds.getD (k - 1) d0), hole, hole]) rfl rfl rfl rfl rfl rfl rfl ⟨⟨rfl, rfl, rfl, rfl, ⟨rfl, by omega, rfl, by omega, by omega⟩, trivial⟩, ⟨(emb_sub rfl (.inl rfl) (by have := hk; omega) (by omega)), trivial⟩, rfl, rfl, rfl⟩ (by kernel_rfl) (by kernel_rfl) ?_
      refine r_move (v := .tuple #[dgV ((bothR kk old f m (splitN n) known (sub ds 0 (k - 1)) (k - 1)).1), dgV ((bothR kk old f m (splitN n) known (sub ds 0 (k - 1)) (k - 1)).2.1), .bool ((bothR kk old f m (splitN n) known (sub ds 0 (k - 1)) (k - 1)).2.2)]) rfl rfl rfl ?_
      refine r_extract (vs := #[dgV ((bothR kk old f m (splitN n) known (sub ds 0 (k - 1)) (k - 1)).1), dgV ((bothR kk old f m (splitN n) known (sub ds 0 (k - 1)) (k - 1)).2.1), .bool ((bothR kk old f m (splitN n) known (sub ds 0 (k - 1)) (k - 1)).2.2)]) (v := dgV ((bothR kk old f m (splitN n) known (sub ds 0 (k - 1)) (k - 1)).1)) rfl rfl rfl rfl ?_
      refine r_extract (vs := #[dgV ((bothR kk old f m (splitN n) known (sub ds 0 (k - 1)) (k - 1)).1), dgV ((bothR kk old f m (splitN n) known (sub ds 0 (k - 1)) (k - 1)).2.1), .bool ((bothR kk old f m (splitN n) known (sub ds 0 (k - 1)) (k - 1)).2.2)]) (v := dgV ((bothR kk old f m (splitN n) known (sub ds 0 (k - 1)) (k - 1)).2.1)) rfl rfl rfl rfl ?_
      refine r_extract (vs := #[dgV ((bothR kk old f m (splitN n) known (sub ds 0 (k - 1)) (k - 1)).1), dgV ((bothR kk old f m (splitN n) known (sub ds 0 (k - 1)) (k - 1)).2.1), .bool ((bothR kk old f m (splitN n) known (sub ds 0 (k - 1)) (k - 1)).2.2)]) (v := .bool ((bothR kk old f m (splitN n) known (sub ds 0 (k - 1)) (k - 1)).2.2)) rfl rfl rfl rfl ?_
      refine r_alloc (b := dgB dz) (nid := 5) (H' := [dsR ds, dgB old, dgB dz, dgB dz, dgB (ds.getD (k - 1) d0), dgB dz, hole]) rfl rfl (by kernel_rfl) (by kernel_rfl) ?_
      refine r_alloc (b := dgB dz) (nid := 6) (H' := [dsR ds, dgB old, dgB dz, dgB dz, dgB (ds.getD (k - 1) d0), dgB dz, dgB dz]) rfl rfl (by kernel_rfl) (by kernel_rfl) ?_
      refine r_store (p := pt 5 0) (v := dgV ((bothR kk old f m (splitN n) known (sub ds 0 (k - 1)) (k - 1)).1)) (b := 5) (blk := dgB ((bothR kk old f m (splitN n) known (sub ds 0 (k - 1)) (k - 1)).1)) (H' := [dsR ds, dgB old, dgB dz, dgB dz, dgB (ds.getD (k - 1) d0), dgB ((bothR kk old f m (splitN n) known (sub ds 0 (k - 1)) (k - 1)).1), dgB dz]) rfl rfl rfl (by kernel_rfl) (by kernel_rfl) ?_
      refine r_store (p := pt 6 0) (v := dgV ((bothR kk old f m (splitN n) known (sub ds 0 (k - 1)) (k - 1)).2.1)) (b := 6) (blk := dgB ((bothR kk old f m (splitN n) known (sub ds 0 (k - 1)) (k - 1)).2.1)) (H' := [dsR ds, dgB old, dgB dz, dgB dz, dgB (ds.getD (k - 1) d0), dgB ((bothR kk old f m (splitN n) known (sub ds 0 (k - 1)) (k - 1)).1), dgB ((bothR kk old f m (splitN n) known (sub ds 0 (k - 1)) (k - 1)).2.1)]) rfl rfl rfl (by kernel_rfl) (by kernel_rfl) ?_
      refine r_assign (v := .bool ((bothR kk old f m (splitN n) known (sub ds 0 (k - 1)) (k - 1)).2.2)) rfl rfl rfl ?_
      refine r_doneD (by kernel_rfl) ?_
      refine x_then ?_
      refine c_seq ?_
      refine c_draw (by kernel_rfl) ?_
      refine r_load (p := pt 5 0) (v := dgV ((bothR kk old f m (splitN n) known (sub ds 0 (k - 1)) (k - 1)).1)) rfl rfl rfl (by kernel_rfl) ?_
      refine r_load (p := pt 6 0) (v := dgV ((bothR kk old f m (splitN n) known (sub ds 0 (k - 1)) (k - 1)).2.1)) rfl rfl rfl (by kernel_rfl) ?_
      refine r_load (p := pt 4 0) (v := dgV (ds.getD (k - 1) d0)) rfl rfl rfl (by kernel_rfl) ?_
      refine r_callP (refKnot_ok' (G := G) kk hG0 ((bothR kk old f m (splitN n) known (sub ds 0 (k - 1)) (k - 1)).2.1) (ds.getD (k - 1) d0)) (vals := [dgV ((bothR kk old f m (splitN n) known (sub ds 0 (k - 1)) (k - 1)).2.1), dgV (ds.getD (k - 1) d0)]) (res' := dgV (knotF kk ((bothR kk old f m (splitN n) known (sub ds 0 (k - 1)) (k - 1)).2.1) (ds.getD (k - 1) d0))) rfl rfl rfl rfl rfl (by kernel_rfl) ?_
      refine r_move (v := .bool ((bothR kk old f m (splitN n) known (sub ds 0 (k - 1)) (k - 1)).2.2)) rfl rfl rfl ?_
      refine r_store (p := pt 2 0) (v := dgV ((bothR kk old f m (splitN n) known (sub ds 0 (k - 1)) (k - 1)).1)) (b := 2) (blk := dgB ((bothR kk old f m (splitN n) known (sub ds 0 (k - 1)) (k - 1)).1)) (H' := [dsR ds, dgB old, dgB ((bothR kk old f m (splitN n) known (sub ds 0 (k - 1)) (k - 1)).1), dgB dz, dgB (ds.getD (k - 1) d0), dgB ((bothR kk old f m (splitN n) known (sub ds 0 (k - 1)) (k - 1)).1), dgB ((bothR kk old f m (splitN n) known (sub ds 0 (k - 1)) (k - 1)).2.1)]) rfl rfl rfl (by kernel_rfl) (by kernel_rfl) ?_
      refine r_store (p := pt 3 0) (v := dgV (knotF kk ((bothR kk old f m (splitN n) known (sub ds 0 (k - 1)) (k - 1)).2.1) (ds.getD (k - 1) d0))) (b := 3) (blk := dgB (knotF kk ((bothR kk old f m (splitN n) known (sub ds 0 (k - 1)) (k - 1)).2.1) (ds.getD (k - 1) d0))) (H' := [dsR ds, dgB old, dgB ((bothR kk old f m (splitN n) known (sub ds 0 (k - 1)) (k - 1)).1), dgB (knotF kk ((bothR kk old f m (splitN n) known (sub ds 0 (k - 1)) (k - 1)).2.1) (ds.getD (k - 1) d0)), dgB (ds.getD (k - 1) d0), dgB ((bothR kk old f m (splitN n) known (sub ds 0 (k - 1)) (k - 1)).1), dgB ((bothR kk old f m (splitN n) known (sub ds 0 (k - 1)) (k - 1)).2.1)]) rfl rfl rfl (by kernel_rfl) (by kernel_rfl) ?_
      refine r_assign (v := .bool ((bothR kk old f m (splitN n) known (sub ds 0 (k - 1)) (k - 1)).2.2)) rfl rfl rfl ?_
      refine r_doneD (by kernel_rfl) ?_
      refine x_then ?_
      refine c_ret ?_
      refine x_thenR ?_
      refine x_end ?_
      rw [show bothR kk old (f + 1) m n known ds k = ((bothR kk old f m (splitN n) known (sub ds 0 (k - 1)) (k - 1)).1, (knotF kk ((bothR kk old f m (splitN n) known (sub ds 0 (k - 1)) (k - 1)).2.1) (ds.getD (k - 1) d0)), (bothR kk old f m (splitN n) known (sub ds 0 (k - 1)) (k - 1)).2.2) from by rw [bothR]; rw [if_neg h1, if_neg h6, if_pos h7]]
      exact end_same (v := .tuple #[dgV ((bothR kk old f m (splitN n) known (sub ds 0 (k - 1)) (k - 1)).1), dgV (knotF kk ((bothR kk old f m (splitN n) known (sub ds 0 (k - 1)) (k - 1)).2.1) (ds.getD (k - 1) d0)), .bool ((bothR kk old f m (splitN n) known (sub ds 0 (k - 1)) (k - 1)).2.2)]) (by kernel_rfl) rfl rfl (by simp [keptB, dsR]) ⟨(argV_pure (pure_row fun _ => rfl) rfl), (argV_pure (pure_row fun _ => rfl) rfl), rfl, trivial⟩
    refine r_bin (v := .bool false) (vx := .int .i64 (m : Nat)) (vy := .int .i64 (((splitN n) : Nat) : Int)) rfl rfl rfl rfl (leq_f (by omega)) ?_
    refine r_doneN ?_
    refine x_then ?_
    refine c_false rfl ?_
    refine c_skip ?_
    refine x_then ?_
    refine c_seq ?_
    refine c_draw (by kernel_rfl) ?_
    refine r_move (v := .int .i64 (m : Nat)) rfl rfl rfl ?_
    refine r_move (v := .int .i64 (((splitN n) : Nat) : Int)) rfl rfl rfl ?_
    refine r_bin (v := .int .i64 ((m : Nat) - (((splitN n) : Nat) : Int))) (vx := .int .i64 (m : Nat)) (vy := .int .i64 (((splitN n) : Nat) : Int)) rfl rfl rfl rfl (bin_sub (by omega) (by omega) (by omega)) ?_
    refine r_move (v := .int .i64 (n : Nat)) rfl rfl rfl ?_
    refine r_move (v := .int .i64 (((splitN n) : Nat) : Int)) rfl rfl rfl ?_
    refine r_bin (v := .int .i64 ((n : Nat) - (((splitN n) : Nat) : Int))) (vx := .int .i64 (n : Nat)) (vy := .int .i64 (((splitN n) : Nat) : Int)) rfl rfl rfl rfl (bin_sub (by omega) (by omega) (by omega)) ?_
    refine r_load (p := pt 1 0) (v := dgV old) rfl rfl rfl (by kernel_rfl) ?_
    refine r_move (v := slv 0 0 k c) rfl rfl rfl ?_
    refine r_move (v := .int .i64 (k : Nat)) rfl rfl rfl ?_
    refine r_bin (v := .int .i64 ((k : Nat) - 1)) (vx := .int .i64 (k : Nat)) (vy := .int .i64 1) rfl rfl rfl rfl (bin_sub (by omega) (by omega) (by omega)) ?_
    refine r_slice (p := slv 0 0 k c) (vl := none) (vh := some (.int .i64 ((k : Nat) - 1))) (v := slv 0 0 (k - 1) c) rfl rfl rfl rfl rfl (slice_hi (h := k - 1) rfl rfl (by omega) (by omega) rfl) ?_
    refine r_callN (e := [some (0, 0)]) (nid := 0) (ih (m - (splitN n)) (n - (splitN n)) false (sub ds 0 (k - 1)) (k - 1) c (sub_len (by have := hk; omega)) (by omega) (by omega) (by omega) (by omega) (by omega) (by omega)) (vals := [.int .i64 ((m : Nat) - (((splitN n) : Nat) : Int)), .int .i64 ((n : Nat) - (((splitN n) : Nat) : Int)), dgV old, .bool false, slv 0 0 (k - 1) c]) (v := .tuple #[dgV ((bothR kk old f (m - (splitN n)) (n - (splitN n)) false (sub ds 0 (k - 1)) (k - 1)).1), dgV ((bothR kk old f (m - (splitN n)) (n - (splitN n)) false (sub ds 0 (k - 1)) (k - 1)).2.1), .bool ((bothR kk old f (m - (splitN n)) (n - (splitN n)) false (sub ds 0 (k - 1)) (k - 1)).2.2)]) (H' := [dsR ds, dgB old, dgB dz, dgB dz, dgB (ds.getD (k - 1) d0), hole, hole]) rfl rfl rfl rfl rfl rfl rfl ⟨⟨(congrArg (Value.int .i64) (by omega)), (congrArg (Value.int .i64) (by omega)), rfl, rfl, ⟨rfl, by omega, rfl, by omega, by omega⟩, trivial⟩, ⟨(emb_sub rfl (.inl rfl) (by have := hk; omega) (by omega)), trivial⟩, rfl, rfl, rfl⟩ (by kernel_rfl) (by kernel_rfl) ?_
    refine r_move (v := .tuple #[dgV ((bothR kk old f (m - (splitN n)) (n - (splitN n)) false (sub ds 0 (k - 1)) (k - 1)).1), dgV ((bothR kk old f (m - (splitN n)) (n - (splitN n)) false (sub ds 0 (k - 1)) (k - 1)).2.1), .bool ((bothR kk old f (m - (splitN n)) (n - (splitN n)) false (sub ds 0 (k - 1)) (k - 1)).2.2)]) rfl rfl rfl ?_
    refine r_extract (vs := #[dgV ((bothR kk old f (m - (splitN n)) (n - (splitN n)) false (sub ds 0 (k - 1)) (k - 1)).1), dgV ((bothR kk old f (m - (splitN n)) (n - (splitN n)) false (sub ds 0 (k - 1)) (k - 1)).2.1), .bool ((bothR kk old f (m - (splitN n)) (n - (splitN n)) false (sub ds 0 (k - 1)) (k - 1)).2.2)]) (v := dgV ((bothR kk old f (m - (splitN n)) (n - (splitN n)) false (sub ds 0 (k - 1)) (k - 1)).1)) rfl rfl rfl rfl ?_
    refine r_extract (vs := #[dgV ((bothR kk old f (m - (splitN n)) (n - (splitN n)) false (sub ds 0 (k - 1)) (k - 1)).1), dgV ((bothR kk old f (m - (splitN n)) (n - (splitN n)) false (sub ds 0 (k - 1)) (k - 1)).2.1), .bool ((bothR kk old f (m - (splitN n)) (n - (splitN n)) false (sub ds 0 (k - 1)) (k - 1)).2.2)]) (v := dgV ((bothR kk old f (m - (splitN n)) (n - (splitN n)) false (sub ds 0 (k - 1)) (k - 1)).2.1)) rfl rfl rfl rfl ?_
    refine r_extract (vs := #[dgV ((bothR kk old f (m - (splitN n)) (n - (splitN n)) false (sub ds 0 (k - 1)) (k - 1)).1), dgV ((bothR kk old f (m - (splitN n)) (n - (splitN n)) false (sub ds 0 (k - 1)) (k - 1)).2.1), .bool ((bothR kk old f (m - (splitN n)) (n - (splitN n)) false (sub ds 0 (k - 1)) (k - 1)).2.2)]) (v := .bool ((bothR kk old f (m - (splitN n)) (n - (splitN n)) false (sub ds 0 (k - 1)) (k - 1)).2.2)) rfl rfl rfl rfl ?_
    refine r_alloc (b := dgB dz) (nid := 5) (H' := [dsR ds, dgB old, dgB dz, dgB dz, dgB (ds.getD (k - 1) d0), dgB dz, hole]) rfl rfl (by kernel_rfl) (by kernel_rfl) ?_
    refine r_alloc (b := dgB dz) (nid := 6) (H' := [dsR ds, dgB old, dgB dz, dgB dz, dgB (ds.getD (k - 1) d0), dgB dz, dgB dz]) rfl rfl (by kernel_rfl) (by kernel_rfl) ?_
    refine r_store (p := pt 5 0) (v := dgV ((bothR kk old f (m - (splitN n)) (n - (splitN n)) false (sub ds 0 (k - 1)) (k - 1)).1)) (b := 5) (blk := dgB ((bothR kk old f (m - (splitN n)) (n - (splitN n)) false (sub ds 0 (k - 1)) (k - 1)).1)) (H' := [dsR ds, dgB old, dgB dz, dgB dz, dgB (ds.getD (k - 1) d0), dgB ((bothR kk old f (m - (splitN n)) (n - (splitN n)) false (sub ds 0 (k - 1)) (k - 1)).1), dgB dz]) rfl rfl rfl (by kernel_rfl) (by kernel_rfl) ?_
    refine r_store (p := pt 6 0) (v := dgV ((bothR kk old f (m - (splitN n)) (n - (splitN n)) false (sub ds 0 (k - 1)) (k - 1)).2.1)) (b := 6) (blk := dgB ((bothR kk old f (m - (splitN n)) (n - (splitN n)) false (sub ds 0 (k - 1)) (k - 1)).2.1)) (H' := [dsR ds, dgB old, dgB dz, dgB dz, dgB (ds.getD (k - 1) d0), dgB ((bothR kk old f (m - (splitN n)) (n - (splitN n)) false (sub ds 0 (k - 1)) (k - 1)).1), dgB ((bothR kk old f (m - (splitN n)) (n - (splitN n)) false (sub ds 0 (k - 1)) (k - 1)).2.1)]) rfl rfl rfl (by kernel_rfl) (by kernel_rfl) ?_
    refine r_assign (v := .bool ((bothR kk old f (m - (splitN n)) (n - (splitN n)) false (sub ds 0 (k - 1)) (k - 1)).2.2)) rfl rfl rfl ?_
    refine r_doneD (by kernel_rfl) ?_
    refine x_then ?_
    refine c_seq ?_
    refine c_draw (by kernel_rfl) ?_
    refine r_load (p := pt 4 0) (v := dgV (ds.getD (k - 1) d0)) rfl rfl rfl (by kernel_rfl) ?_
    refine r_load (p := pt 5 0) (v := dgV ((bothR kk old f (m - (splitN n)) (n - (splitN n)) false (sub ds 0 (k - 1)) (k - 1)).1)) rfl rfl rfl (by kernel_rfl) ?_
    refine r_callP (refKnot_ok' (G := G) kk hG0 (ds.getD (k - 1) d0) ((bothR kk old f (m - (splitN n)) (n - (splitN n)) false (sub ds 0 (k - 1)) (k - 1)).1)) (vals := [dgV (ds.getD (k - 1) d0), dgV ((bothR kk old f (m - (splitN n)) (n - (splitN n)) false (sub ds 0 (k - 1)) (k - 1)).1)]) (res' := dgV (knotF kk (ds.getD (k - 1) d0) ((bothR kk old f (m - (splitN n)) (n - (splitN n)) false (sub ds 0 (k - 1)) (k - 1)).1))) rfl rfl rfl rfl rfl (by kernel_rfl) ?_
    refine r_load (p := pt 4 0) (v := dgV (ds.getD (k - 1) d0)) rfl rfl rfl (by kernel_rfl) ?_
    refine r_load (p := pt 6 0) (v := dgV ((bothR kk old f (m - (splitN n)) (n - (splitN n)) false (sub ds 0 (k - 1)) (k - 1)).2.1)) rfl rfl rfl (by kernel_rfl) ?_
    refine r_callP (refKnot_ok' (G := G) kk hG0 (ds.getD (k - 1) d0) ((bothR kk old f (m - (splitN n)) (n - (splitN n)) false (sub ds 0 (k - 1)) (k - 1)).2.1)) (vals := [dgV (ds.getD (k - 1) d0), dgV ((bothR kk old f (m - (splitN n)) (n - (splitN n)) false (sub ds 0 (k - 1)) (k - 1)).2.1)]) (res' := dgV (knotF kk (ds.getD (k - 1) d0) ((bothR kk old f (m - (splitN n)) (n - (splitN n)) false (sub ds 0 (k - 1)) (k - 1)).2.1))) rfl rfl rfl rfl rfl (by kernel_rfl) ?_
    refine r_move (v := .bool ((bothR kk old f (m - (splitN n)) (n - (splitN n)) false (sub ds 0 (k - 1)) (k - 1)).2.2)) rfl rfl rfl ?_
    refine r_store (p := pt 2 0) (v := dgV (knotF kk (ds.getD (k - 1) d0) ((bothR kk old f (m - (splitN n)) (n - (splitN n)) false (sub ds 0 (k - 1)) (k - 1)).1))) (b := 2) (blk := dgB (knotF kk (ds.getD (k - 1) d0) ((bothR kk old f (m - (splitN n)) (n - (splitN n)) false (sub ds 0 (k - 1)) (k - 1)).1))) (H' := [dsR ds, dgB old, dgB (knotF kk (ds.getD (k - 1) d0) ((bothR kk old f (m - (splitN n)) (n - (splitN n)) false (sub ds 0 (k - 1)) (k - 1)).1)), dgB dz, dgB (ds.getD (k - 1) d0), dgB ((bothR kk old f (m - (splitN n)) (n - (splitN n)) false (sub ds 0 (k - 1)) (k - 1)).1), dgB ((bothR kk old f (m - (splitN n)) (n - (splitN n)) false (sub ds 0 (k - 1)) (k - 1)).2.1)]) rfl rfl rfl (by kernel_rfl) (by kernel_rfl) ?_
    refine r_store (p := pt 3 0) (v := dgV (knotF kk (ds.getD (k - 1) d0) ((bothR kk old f (m - (splitN n)) (n - (splitN n)) false (sub ds 0 (k - 1)) (k - 1)).2.1))) (b := 3) (blk := dgB (knotF kk (ds.getD (k - 1) d0) ((bothR kk old f (m - (splitN n)) (n - (splitN n)) false (sub ds 0 (k - 1)) (k - 1)).2.1))) (H' := [dsR ds, dgB old, dgB (knotF kk (ds.getD (k - 1) d0) ((bothR kk old f (m - (splitN n)) (n - (splitN n)) false (sub ds 0 (k - 1)) (k - 1)).1)), dgB (knotF kk (ds.getD (k - 1) d0) ((bothR kk old f (m - (splitN n)) (n - (splitN n)) false (sub ds 0 (k - 1)) (k - 1)).2.1)), dgB (ds.getD (k - 1) d0), dgB ((bothR kk old f (m - (splitN n)) (n - (splitN n)) false (sub ds 0 (k - 1)) (k - 1)).1), dgB ((bothR kk old f (m - (splitN n)) (n - (splitN n)) false (sub ds 0 (k - 1)) (k - 1)).2.1)]) rfl rfl rfl (by kernel_rfl) (by kernel_rfl) ?_
    refine r_assign (v := .bool ((bothR kk old f (m - (splitN n)) (n - (splitN n)) false (sub ds 0 (k - 1)) (k - 1)).2.2)) rfl rfl rfl ?_
    refine r_doneD (by kernel_rfl) ?_
    refine x_then ?_
    refine c_ret ?_
    refine x_end ?_
    rw [show bothR kk old (f + 1) m n known ds k = ((knotF kk (ds.getD (k - 1) d0) ((bothR kk old f (m - (splitN n)) (n - (splitN n)) false (sub ds 0 (k - 1)) (k - 1)).1)), (knotF kk (ds.getD (k - 1) d0) ((bothR kk old f (m - (splitN n)) (n - (splitN n)) false (sub ds 0 (k - 1)) (k - 1)).2.1)), (bothR kk old f (m - (splitN n)) (n - (splitN n)) false (sub ds 0 (k - 1)) (k - 1)).2.2) from by rw [bothR]; rw [if_neg h1, if_neg h6, if_neg h7]]
    exact end_same (v := .tuple #[dgV (knotF kk (ds.getD (k - 1) d0) ((bothR kk old f (m - (splitN n)) (n - (splitN n)) false (sub ds 0 (k - 1)) (k - 1)).1)), dgV (knotF kk (ds.getD (k - 1) d0) ((bothR kk old f (m - (splitN n)) (n - (splitN n)) false (sub ds 0 (k - 1)) (k - 1)).2.1)), .bool ((bothR kk old f (m - (splitN n)) (n - (splitN n)) false (sub ds 0 (k - 1)) (k - 1)).2.2)]) (by kernel_rfl) rfl rfl (by simp [keptB, dsR]) ⟨(argV_pure (pure_row fun _ => rfl) rfl), (argV_pure (pure_row fun _ => rfl) rfl), rfl, trivial⟩
def refGoesE (kk : Nat → BitVec 32) (m : Int) (old : D) (n : Int) (root : D) (ds : List D) (k : Nat) : Int :=
  if n < 0 then 40 else
  if 100000 < n then 40 else
  if m < 0 then 40 else
  if n < m then 40 else
  if 40 < (k : Nat) then 40 else
  if m = 0 then (if 0 < (k : Nat) then 40 else
  if sameB 32 old (shaOf kk []) = true then (if n = 0 then (if sameB 32 root old = true then 0 else
  41) else
  0) else
  41) else
  if (bothR kk old n.toNat m.toNat n.toNat true ds k).2.2 = true then (if sameB 32 ((bothR kk old n.toNat m.toNat n.toNat true ds k).1) old = true then (if sameB 32 ((bothR kk old n.toNat m.toNat n.toNat true ds k).2.1) root = true then 0 else
  41) else
  41) else
  40
theorem refConsistent_ok (kk : Nat → BitVec 32) (hG0 : G 0 = some (rowE w32 64 kk)) (m : Int) (old : D) (n : Int) (root : D) (ds : List D) (k c : Nat) (hk : ds.length = k) (hb : k ≤ 1000) (hc : k ≤ c) : CallL Tryd.prog G 16 [.int .i64 m, dgV old, .int .i64 n, dgV root, slv 0 0 k c] [dsR ds] (.int .i64 (refGoesE kk m old n root ds k)) [dsR ds] := by
  refine walk (fn := Tryd.f16) (nt := 76) rfl rfl rfl rfl ?_
  refine c_hole 4 (H' := [dsR ds, hole, hole, hole, hole]) rfl ?_
  refine c_seq ?_
  refine c_reg ?_
  refine r_box (v := dgV old) (b := dgB old) (nid := 1) (H' := [dsR ds, dgB old, hole, hole, hole]) rfl rfl rfl (by kernel_rfl) (by kernel_rfl) ?_
  refine r_box (v := dgV root) (b := dgB root) (nid := 2) (H' := [dsR ds, dgB old, dgB root, hole, hole]) rfl rfl rfl (by kernel_rfl) (by kernel_rfl) ?_
  refine r_assign (v := .int .i64 0) rfl rfl rfl ?_
  refine r_doneN ?_
  refine x_then ?_
  refine c_seq ?_
  refine c_seq ?_
  refine c_reg ?_
  refine r_move (v := .int .i64 n) rfl rfl rfl ?_
  by_cases h1 : n < 0
  · skip
    refine r_bin (v := .bool true) (vx := .int .i64 n) (vy := .int .i64 0) rfl rfl rfl rfl (lss_t (by omega)) ?_
    refine r_move (v := .bool true) rfl rfl rfl ?_
    refine r_skip rfl rfl ?_
    refine r_skip rfl rfl ?_
    refine r_pick (v := .bool true) rfl rfl rfl ?_
    refine r_move (v := .bool true) rfl rfl rfl ?_
    refine r_skip rfl rfl ?_
    refine r_skip rfl rfl ?_
    refine r_pick (v := .bool true) rfl rfl rfl ?_
    refine r_move (v := .bool true) rfl rfl rfl ?_
    refine r_skip rfl rfl ?_
    refine r_skip rfl rfl ?_
    refine r_skip rfl rfl ?_
    refine r_pick (v := .bool true) rfl rfl rfl ?_
    refine r_move (v := .bool true) rfl rfl rfl ?_
    refine r_skip rfl rfl ?_
    refine r_skip rfl rfl ?_
    refine r_skip rfl rfl ?_
    refine r_pick (v := .bool true) rfl rfl rfl ?_
    refine r_move (v := .bool true) rfl rfl rfl ?_
    refine r_skip rfl rfl ?_
    refine r_skip rfl rfl ?_
    refine r_skip rfl rfl ?_
    refine r_skip rfl rfl ?_
    refine r_skip rfl rfl ?_
    refine r_skip rfl rfl ?_
    refine r_skip rfl rfl ?_
    refine r_pick (v := .bool true) rfl rfl rfl ?_
    refine r_doneN ?_
    refine x_then ?_
    refine c_true rfl ?_
    refine c_seq ?_
    refine c_reg ?_
    refine r_assign (v := .int .i64 40) rfl rfl rfl ?_
    refine r_doneN ?_
    refine x_then ?_
    refine c_ret ?_
    refine x_thenR ?_
    refine x_end ?_
    rw [show refGoesE kk m old n root ds k = 40 from by unfold refGoesE; rw [if_pos h1]]
    exact end_same (v := .int .i64 40) rfl rfl rfl (by simp [keptB, dsR]) rfl
  refine r_bin (v := .bool false) (vx := .int .i64 n) (vy := .int .i64 0) rfl rfl rfl rfl (lss_f (by omega)) ?_
  refine r_move (v := .bool false) rfl rfl rfl ?_
  refine r_move (v := .int .i64 n) rfl rfl rfl ?_
  by_cases h2 : 100000 < n
  · skip
    refine r_bin (v := .bool true) (vx := .int .i64 n) (vy := .int .i64 100000) rfl rfl rfl rfl (gtr_t (by omega)) ?_
    refine r_pick (v := .bool true) rfl rfl rfl ?_
    refine r_move (v := .bool true) rfl rfl rfl ?_
    refine r_skip rfl rfl ?_
    refine r_skip rfl rfl ?_
    refine r_pick (v := .bool true) rfl rfl rfl ?_
    refine r_move (v := .bool true) rfl rfl rfl ?_
    refine r_skip rfl rfl ?_
    refine r_skip rfl rfl ?_
    refine r_skip rfl rfl ?_
    refine r_pick (v := .bool true) rfl rfl rfl ?_
    refine r_move (v := .bool true) rfl rfl rfl ?_
    refine r_skip rfl rfl ?_
    refine r_skip rfl rfl ?_
    refine r_skip rfl rfl ?_
    refine r_pick (v := .bool true) rfl rfl rfl ?_
    refine r_move (v := .bool true) rfl rfl rfl ?_
    refine r_skip rfl rfl ?_
    refine r_skip rfl rfl ?_
    refine r_skip rfl rfl ?_
    refine r_skip rfl rfl ?_
    refine r_skip rfl rfl ?_
    refine r_skip rfl rfl ?_
    refine r_skip rfl rfl ?_
    refine r_pick (v := .bool true) rfl rfl rfl ?_
    refine r_doneN ?_
    refine x_then ?_
    refine c_true rfl ?_
    refine c_seq ?_
    refine c_reg ?_
    refine r_assign (v := .int .i64 40) rfl rfl rfl ?_
    refine r_doneN ?_
    refine x_then ?_
    refine c_ret ?_
    refine x_thenR ?_
    refine x_end ?_
    rw [show refGoesE kk m old n root ds k = 40 from by unfold refGoesE; rw [if_neg h1, if_pos h2]]
    exact end_same (v := .int .i64 40) rfl rfl rfl (by simp [keptB, dsR]) rfl
  refine r_bin (v := .bool false) (vx := .int .i64 n) (vy := .int .i64 100000) rfl rfl rfl rfl (gtr_f (by omega)) ?_
  refine r_pick (v := .bool false) rfl rfl rfl ?_
  refine r_move (v := .bool false) rfl rfl rfl ?_
  refine r_move (v := .int .i64 m) rfl rfl rfl ?_
  by_cases h3 : m < 0
  · skip
    refine r_bin (v := .bool true) (vx := .int .i64 m) (vy := .int .i64 0) rfl rfl rfl rfl (lss_t (by omega)) ?_
    refine r_pick (v := .bool true) rfl rfl rfl ?_
    refine r_move (v := .bool true) rfl rfl rfl ?_
    refine r_skip rfl rfl ?_
    refine r_skip rfl rfl ?_
    refine r_skip rfl rfl ?_
    refine r_pick (v := .bool true) rfl rfl rfl ?_
    refine r_move (v := .bool true) rfl rfl rfl ?_
    refine r_skip rfl rfl ?_
    refine r_skip rfl rfl ?_
    refine r_skip rfl rfl ?_
    refine r_pick (v := .bool true) rfl rfl rfl ?_
    refine r_move (v := .bool true) rfl rfl rfl ?_
    refine r_skip rfl rfl ?_
    refine r_skip rfl rfl ?_
    refine r_skip rfl rfl ?_
    refine r_skip rfl rfl ?_
    refine r_skip rfl rfl ?_
    refine r_skip rfl rfl ?_
    refine r_skip rfl rfl ?_
    refine r_pick (v := .bool true) rfl rfl rfl ?_
    refine r_doneN ?_
    refine x_then ?_
    refine c_true rfl ?_
    refine c_seq ?_
    refine c_reg ?_
    refine r_assign (v := .int .i64 40) rfl rfl rfl ?_
    refine r_doneN ?_
    refine x_then ?_
    refine c_ret ?_
    refine x_thenR ?_
    refine x_end ?_
    rw [show refGoesE kk m old n root ds k = 40 from by unfold refGoesE; rw [if_neg h1, if_neg h2, if_pos h3]]
    exact end_same (v := .int .i64 40) rfl rfl rfl (by simp [keptB, dsR]) rfl
  refine r_bin (v := .bool false) (vx := .int .i64 m) (vy := .int .i64 0) rfl rfl rfl rfl (lss_f (by omega)) ?_
  refine r_pick (v := .bool false) rfl rfl rfl ?_
  refine r_move (v := .bool false) rfl rfl rfl ?_
  refine r_move (v := .int .i64 m) rfl rfl rfl ?_
  refine r_move (v := .int .i64 n) rfl rfl rfl ?_
  by_cases h4 : n < m
  · skip
    refine r_bin (v := .bool true) (vx := .int .i64 m) (vy := .int .i64 n) rfl rfl rfl rfl (gtr_t (by omega)) ?_
    refine r_pick (v := .bool true) rfl rfl rfl ?_
    refine r_move (v := .bool true) rfl rfl rfl ?_
    refine r_skip rfl rfl ?_
    refine r_skip rfl rfl ?_
    refine r_skip rfl rfl ?_
    refine r_pick (v := .bool true) rfl rfl rfl ?_
    refine r_move (v := .bool true) rfl rfl rfl ?_
    refine r_skip rfl rfl ?_
    refine r_skip rfl rfl ?_
    refine r_skip rfl rfl ?_
    refine r_skip rfl rfl ?_
    refine r_skip rfl rfl ?_
    refine r_skip rfl rfl ?_
    refine r_skip rfl rfl ?_
    refine r_pick (v := .bool true) rfl rfl rfl ?_
    refine r_doneN ?_
    refine x_then ?_
    refine c_true rfl ?_
    refine c_seq ?_
    refine c_reg ?_
    refine r_assign (v := .int .i64 40) rfl rfl rfl ?_
    refine r_doneN ?_
    refine x_then ?_
    refine c_ret ?_
    refine x_thenR ?_
    refine x_end ?_
    rw [show refGoesE kk m old n root ds k = 40 from by unfold refGoesE; rw [if_neg h1, if_neg h2, if_neg h3, if_pos h4]]
    exact end_same (v := .int .i64 40) rfl rfl rfl (by simp [keptB, dsR]) rfl
  refine r_bin (v := .bool false) (vx := .int .i64 m) (vy := .int .i64 n) rfl rfl rfl rfl (gtr_f (by omega)) ?_
  refine r_pick (v := .bool false) rfl rfl rfl ?_
  refine r_move (v := .bool false) rfl rfl rfl ?_
  refine r_move (v := slv 0 0 k c) rfl rfl rfl ?_
  refine r_len (p := slv 0 0 k c) (v := .int .i64 (k : Nat)) rfl rfl rfl rfl ?_
  by_cases h5 : 40 < (k : Nat)
  · skip
    refine r_bin (v := .bool true) (vx := .int .i64 (k : Nat)) (vy := .int .i64 40) rfl rfl rfl rfl (gtr_t (by omega)) ?_
    refine r_pick (v := .bool true) rfl rfl rfl ?_
    refine r_move (v := .bool true) rfl rfl rfl ?_
    refine r_skip rfl rfl ?_
    refine r_skip rfl rfl ?_
    refine r_skip rfl rfl ?_
    refine r_skip rfl rfl ?_
    refine r_skip rfl rfl ?_
    refine r_skip rfl rfl ?_
    refine r_skip rfl rfl ?_
    refine r_pick (v := .bool true) rfl rfl rfl ?_
    refine r_doneN ?_
    refine x_then ?_
    refine c_true rfl ?_
    refine c_seq ?_
    refine c_reg ?_
    refine r_assign (v := .int .i64 40) rfl rfl rfl ?_
    refine r_doneN ?_
    refine x_then ?_
    refine c_ret ?_
    refine x_thenR ?_
    refine x_end ?_
    rw [show refGoesE kk m old n root ds k = 40 from by unfold refGoesE; rw [if_neg h1, if_neg h2, if_neg h3, if_neg h4, if_pos h5]]
    exact end_same (v := .int .i64 40) rfl rfl rfl (by simp [keptB, dsR]) rfl
  refine r_bin (v := .bool false) (vx := .int .i64 (k : Nat)) (vy := .int .i64 40) rfl rfl rfl rfl (gtr_f (by omega)) ?_
  refine r_pick (v := .bool false) rfl rfl rfl ?_
  refine r_move (v := .bool false) rfl rfl rfl ?_
  refine r_move (v := .int .i64 m) rfl rfl rfl ?_
  by_cases h6 : m = 0
  · skip
    refine r_bin (v := .bool true) (vx := .int .i64 m) (vy := .int .i64 0) rfl rfl rfl rfl (eql_t (by omega)) ?_
    refine r_move (v := .bool true) rfl rfl rfl ?_
    refine r_move (v := slv 0 0 k c) rfl rfl rfl ?_
    refine r_len (p := slv 0 0 k c) (v := .int .i64 (k : Nat)) rfl rfl rfl rfl ?_
    by_cases h7 : 0 < (k : Nat)
    · skip
      refine r_bin (v := .bool true) (vx := .int .i64 (k : Nat)) (vy := .int .i64 0) rfl rfl rfl rfl (gtr_t (by omega)) ?_
      refine r_pick (v := .bool true) rfl rfl rfl ?_
      refine r_pick (v := .bool true) rfl rfl rfl ?_
      refine r_doneN ?_
      refine x_then ?_
      refine c_true rfl ?_
      refine c_seq ?_
      refine c_reg ?_
      refine r_assign (v := .int .i64 40) rfl rfl rfl ?_
      refine r_doneN ?_
      refine x_then ?_
      refine c_ret ?_
      refine x_thenR ?_
      refine x_end ?_
      rw [show refGoesE kk m old n root ds k = 40 from by unfold refGoesE; rw [if_neg h1, if_neg h2, if_neg h3, if_neg h4, if_neg h5, if_pos h6, if_pos h7]]
      exact end_same (v := .int .i64 40) rfl rfl rfl (by simp [keptB, dsR]) rfl
    refine r_bin (v := .bool false) (vx := .int .i64 (k : Nat)) (vy := .int .i64 0) rfl rfl rfl rfl (gtr_f (by omega)) ?_
    refine r_pick (v := .bool false) rfl rfl rfl ?_
    refine r_pick (v := .bool false) rfl rfl rfl ?_
    refine r_doneN ?_
    refine x_then ?_
    refine c_false rfl ?_
    refine c_skip ?_
    refine x_then ?_
    refine c_seq ?_
    refine c_seq ?_
    refine c_reg ?_
    refine r_move (v := .int .i64 m) rfl rfl rfl ?_
    refine r_bin (v := .bool true) (vx := .int .i64 m) (vy := .int .i64 0) rfl rfl rfl rfl (eql_t (by omega)) ?_
    refine r_doneN ?_
    refine x_then ?_
    refine c_true rfl ?_
    refine c_seq ?_
    refine c_seq ?_
    refine c_draw (by kernel_rfl) ?_
    refine r_load (p := pt 1 0) (v := dgV old) rfl rfl rfl (by kernel_rfl) ?_
    refine r_callP (refSumE_ok (G := G) kk hG0) (vals := [.string ⟨#[]⟩]) (res' := dgV (shaOf kk [])) rfl rfl rfl rfl rfl (by kernel_rfl) ?_
    rcases Bool.eq_false_or_eq_true (sameB 32 old (shaOf kk [])) with h8 | h8
    · skip
      refine r_bin (v := .bool false) (vx := dgV old) (vy := dgV (shaOf kk [])) rfl rfl rfl rfl (Eq.trans (neq_dg (n := 32) (a := old) (b := (shaOf kk [])) (by kernel_rfl) rfl rfl rfl) (by rw [h8]; rfl)) ?_
      refine r_move (v := .bool false) rfl rfl rfl ?_
      refine r_move (v := .int .i64 n) rfl rfl rfl ?_
      by_cases h9 : n = 0
      · skip
        refine r_bin (v := .bool true) (vx := .int .i64 n) (vy := .int .i64 0) rfl rfl rfl rfl (eql_t (by omega)) ?_
        refine r_move (v := .bool true) rfl rfl rfl ?_
        refine r_load (p := pt 2 0) (v := dgV root) rfl rfl rfl (by kernel_rfl) ?_
        refine r_load (p := pt 1 0) (v := dgV old) rfl rfl rfl (by kernel_rfl) ?_
        rcases Bool.eq_false_or_eq_true (sameB 32 root old) with h10 | h10
        · skip
          refine r_bin (v := .bool false) (vx := dgV root) (vy := dgV old) rfl rfl rfl rfl (Eq.trans (neq_dg (n := 32) (a := root) (b := old) (by kernel_rfl) rfl rfl rfl) (by rw [h10]; rfl)) ?_
          refine r_pick (v := .bool false) rfl rfl rfl ?_
          refine r_pick (v := .bool false) rfl rfl rfl ?_
          refine r_doneD (by kernel_rfl) ?_
          refine x_then ?_
          refine c_false rfl ?_
          refine c_skip ?_
          refine x_then ?_
          refine c_seq ?_
          refine c_reg ?_
          refine r_assign (v := .int .i64 0) rfl rfl rfl ?_
          refine r_doneN ?_
          refine x_then ?_
          refine c_ret ?_
          refine x_thenR ?_
          refine x_end ?_
          rw [show refGoesE kk m old n root ds k = 0 from by unfold refGoesE; rw [if_neg h1, if_neg h2, if_neg h3, if_neg h4, if_neg h5, if_pos h6, if_neg h7, if_pos h8, if_pos h9, if_pos h10]]
          exact end_same (v := .int .i64 0) rfl rfl rfl (by simp [keptB, dsR]) rfl
        refine r_bin (v := .bool true) (vx := dgV root) (vy := dgV old) rfl rfl rfl rfl (Eq.trans (neq_dg (n := 32) (a := root) (b := old) (by kernel_rfl) rfl rfl rfl) (by rw [h10]; rfl)) ?_
        refine r_pick (v := .bool true) rfl rfl rfl ?_
        refine r_pick (v := .bool true) rfl rfl rfl ?_
        refine r_doneD (by kernel_rfl) ?_
        refine x_then ?_
        refine c_true rfl ?_
        refine c_seq ?_
        refine c_reg ?_
        refine r_assign (v := .int .i64 41) rfl rfl rfl ?_
        refine r_doneN ?_
        refine x_then ?_
        refine c_ret ?_
        refine x_thenR ?_
        refine x_thenR ?_
        refine x_end ?_
        rw [show refGoesE kk m old n root ds k = 41 from by unfold refGoesE; rw [if_neg h1, if_neg h2, if_neg h3, if_neg h4, if_neg h5, if_pos h6, if_neg h7, if_pos h8, if_pos h9, if_neg (by rw [h10]; decide)]]
        exact end_same (v := .int .i64 41) rfl rfl rfl (by simp [keptB, dsR]) rfl
      refine r_bin (v := .bool false) (vx := .int .i64 n) (vy := .int .i64 0) rfl rfl rfl rfl (eql_f (by omega)) ?_
      refine r_move (v := .bool false) rfl rfl rfl ?_
      refine r_skip rfl rfl ?_
      refine r_skip rfl rfl ?_
      refine r_skip rfl rfl ?_
      refine r_pick (v := .bool false) rfl rfl rfl ?_
      refine r_pick (v := .bool false) rfl rfl rfl ?_
      refine r_doneD (by kernel_rfl) ?_
      refine x_then ?_
      refine c_false rfl ?_
      refine c_skip ?_
      refine x_then ?_
      refine c_seq ?_
      refine c_reg ?_
      refine r_assign (v := .int .i64 0) rfl rfl rfl ?_
      refine r_doneN ?_
      refine x_then ?_
      refine c_ret ?_
      refine x_thenR ?_
      refine x_end ?_
      rw [show refGoesE kk m old n root ds k = 0 from by unfold refGoesE; rw [if_neg h1, if_neg h2, if_neg h3, if_neg h4, if_neg h5, if_pos h6, if_neg h7, if_pos h8, if_neg h9]]
      exact end_same (v := .int .i64 0) rfl rfl rfl (by simp [keptB, dsR]) rfl
    refine r_bin (v := .bool true) (vx := dgV old) (vy := dgV (shaOf kk [])) rfl rfl rfl rfl (Eq.trans (neq_dg (n := 32) (a := old) (b := (shaOf kk [])) (by kernel_rfl) rfl rfl rfl) (by rw [h8]; rfl)) ?_
    refine r_move (v := .bool true) rfl rfl rfl ?_
    refine r_skip rfl rfl ?_
    refine r_skip rfl rfl ?_
    refine r_skip rfl rfl ?_
    refine r_skip rfl rfl ?_
    refine r_skip rfl rfl ?_
    refine r_skip rfl rfl ?_
    refine r_skip rfl rfl ?_
    refine r_pick (v := .bool true) rfl rfl rfl ?_
    refine r_doneD (by kernel_rfl) ?_
    refine x_then ?_
    refine c_true rfl ?_
    refine c_seq ?_
    refine c_reg ?_
    refine r_assign (v := .int .i64 41) rfl rfl rfl ?_
    refine r_doneN ?_
    refine x_then ?_
    refine c_ret ?_
    refine x_thenR ?_
    refine x_thenR ?_
    refine x_end ?_
    rw [show refGoesE kk m old n root ds k = 41 from by unfold refGoesE; rw [if_neg h1, if_neg h2, if_neg h3, if_neg h4, if_neg h5, if_pos h6, if_neg h7, if_neg (by rw [h8]; decide)]]
    exact end_same (v := .int .i64 41) rfl rfl rfl (by simp [keptB, dsR]) rfl
  refine r_bin (v := .bool false) (vx := .int .i64 m) (vy := .int .i64 0) rfl rfl rfl rfl (eql_f (by omega)) ?_
  refine r_move (v := .bool false) rfl rfl rfl ?_
  refine r_skip rfl rfl ?_
  refine r_skip rfl rfl ?_
  refine r_skip rfl rfl ?_
  refine r_pick (v := .bool false) rfl rfl rfl ?_
  refine r_pick (v := .bool false) rfl rfl rfl ?_
  refine r_doneN ?_
  refine x_then ?_
  refine c_false rfl ?_
  refine c_skip ?_
  refine x_then ?_
  refine c_seq ?_
  refine c_seq ?_
  refine c_reg ?_
  refine r_move (v := .int .i64 m) rfl rfl rfl ?_
  refine r_bin (v := .bool false) (vx := .int .i64 m) (vy := .int .i64 0) rfl rfl rfl rfl (eql_f (by omega)) ?_
  refine r_doneN ?_
  refine x_then ?_
  refine c_false rfl ?_
  refine c_skip ?_
  refine x_then ?_
  refine c_seq ?_
  refine c_reg ?_
  refine r_move (v := .int .i64 m) rfl rfl rfl ?_
  refine r_move (v := .int .i64 n) rfl rfl rfl ?_
  refine r_load (p := pt 1 0) (v := dgV old) rfl rfl rfl (by kernel_rfl) ?_
  refine r_move (v := slv 0 0 k c) rfl rfl rfl ?_
  refine r_callN (e := [some (0, 0)]) (nid := 0) (refBoth_ok (G := G) kk hG0 old n.toNat m.toNat n.toNat true ds k c hk (by omega) (by omega) (by omega) (by omega) (by omega) (by omega)) (vals := [.int .i64 m, .int .i64 n, dgV old, .bool true, slv 0 0 k c]) (v := .tuple #[dgV ((bothR kk old n.toNat m.toNat n.toNat true ds k).1), dgV ((bothR kk old n.toNat m.toNat n.toNat true ds k).2.1), .bool ((bothR kk old n.toNat m.toNat n.toNat true ds k).2.2)]) (H' := [dsR ds, dgB old, dgB root, hole, hole]) rfl rfl rfl rfl rfl rfl rfl ⟨⟨(congrArg (Value.int .i64) (by omega)), (congrArg (Value.int .i64) (by omega)), rfl, rfl, ⟨rfl, rfl, rfl, by omega, by omega⟩, trivial⟩, ⟨(emb_dsR rfl), trivial⟩, rfl, rfl, rfl⟩ (by kernel_rfl) (by kernel_rfl) ?_
  refine r_move (v := .tuple #[dgV ((bothR kk old n.toNat m.toNat n.toNat true ds k).1), dgV ((bothR kk old n.toNat m.toNat n.toNat true ds k).2.1), .bool ((bothR kk old n.toNat m.toNat n.toNat true ds k).2.2)]) rfl rfl rfl ?_
  refine r_extract (vs := #[dgV ((bothR kk old n.toNat m.toNat n.toNat true ds k).1), dgV ((bothR kk old n.toNat m.toNat n.toNat true ds k).2.1), .bool ((bothR kk old n.toNat m.toNat n.toNat true ds k).2.2)]) (v := dgV ((bothR kk old n.toNat m.toNat n.toNat true ds k).1)) rfl rfl rfl rfl ?_
  refine r_extract (vs := #[dgV ((bothR kk old n.toNat m.toNat n.toNat true ds k).1), dgV ((bothR kk old n.toNat m.toNat n.toNat true ds k).2.1), .bool ((bothR kk old n.toNat m.toNat n.toNat true ds k).2.2)]) (v := dgV ((bothR kk old n.toNat m.toNat n.toNat true ds k).2.1)) rfl rfl rfl rfl ?_
  refine r_extract (vs := #[dgV ((bothR kk old n.toNat m.toNat n.toNat true ds k).1), dgV ((bothR kk old n.toNat m.toNat n.toNat true ds k).2.1), .bool ((bothR kk old n.toNat m.toNat n.toNat true ds k).2.2)]) (v := .bool ((bothR kk old n.toNat m.toNat n.toNat true ds k).2.2)) rfl rfl rfl rfl ?_
  refine r_alloc (b := dgB dz) (nid := 3) (H' := [dsR ds, dgB old, dgB root, dgB dz, hole]) rfl rfl (by kernel_rfl) (by kernel_rfl) ?_
  refine r_alloc (b := dgB dz) (nid := 4) (H' := [dsR ds, dgB old, dgB root, dgB dz, dgB dz]) rfl rfl (by kernel_rfl) (by kernel_rfl) ?_
  refine r_store (p := pt 3 0) (v := dgV ((bothR kk old n.toNat m.toNat n.toNat true ds k).1)) (b := 3) (blk := dgB ((bothR kk old n.toNat m.toNat n.toNat true ds k).1)) (H' := [dsR ds, dgB old, dgB root, dgB ((bothR kk old n.toNat m.toNat n.toNat true ds k).1), dgB dz]) rfl rfl rfl (by kernel_rfl) (by kernel_rfl) ?_
  refine r_store (p := pt 4 0) (v := dgV ((bothR kk old n.toNat m.toNat n.toNat true ds k).2.1)) (b := 4) (blk := dgB ((bothR kk old n.toNat m.toNat n.toNat true ds k).2.1)) (H' := [dsR ds, dgB old, dgB root, dgB ((bothR kk old n.toNat m.toNat n.toNat true ds k).1), dgB ((bothR kk old n.toNat m.toNat n.toNat true ds k).2.1)]) rfl rfl rfl (by kernel_rfl) (by kernel_rfl) ?_
  refine r_assign (v := .bool ((bothR kk old n.toNat m.toNat n.toNat true ds k).2.2)) rfl rfl rfl ?_
  refine r_doneN ?_
  refine x_then ?_
  refine c_seq ?_
  refine c_seq ?_
  refine c_reg ?_
  refine r_move (v := .bool ((bothR kk old n.toNat m.toNat n.toNat true ds k).2.2)) rfl rfl rfl ?_
  rcases Bool.eq_false_or_eq_true ((bothR kk old n.toNat m.toNat n.toNat true ds k).2.2) with h11 | h11
  · skip
    refine r_un (v := .bool false) (vx := .bool ((bothR kk old n.toNat m.toNat n.toNat true ds k).2.2)) rfl rfl rfl (Eq.trans un_not (congrArg (fun b => some (Value.bool !b)) h11)) ?_
    refine r_doneN ?_
    refine x_then ?_
    refine c_false rfl ?_
    refine c_skip ?_
    refine x_then ?_
    refine c_seq ?_
    refine c_seq ?_
    refine c_reg ?_
    refine r_load (p := pt 3 0) (v := dgV ((bothR kk old n.toNat m.toNat n.toNat true ds k).1)) rfl rfl rfl (by kernel_rfl) ?_
    refine r_load (p := pt 1 0) (v := dgV old) rfl rfl rfl (by kernel_rfl) ?_
    rcases Bool.eq_false_or_eq_true (sameB 32 ((bothR kk old n.toNat m.toNat n.toNat true ds k).1) old) with h12 | h12
    · skip
      refine r_bin (v := .bool false) (vx := dgV ((bothR kk old n.toNat m.toNat n.toNat true ds k).1)) (vy := dgV old) rfl rfl rfl rfl (Eq.trans (neq_dg (n := 32) (a := (bothR kk old n.toNat m.toNat n.toNat true ds k).1) (b := old) (by kernel_rfl) rfl rfl rfl) (by rw [h12]; rfl)) ?_
      refine r_move (v := .bool false) rfl rfl rfl ?_
      refine r_load (p := pt 4 0) (v := dgV ((bothR kk old n.toNat m.toNat n.toNat true ds k).2.1)) rfl rfl rfl (by kernel_rfl) ?_
      refine r_load (p := pt 2 0) (v := dgV root) rfl rfl rfl (by kernel_rfl) ?_
      rcases Bool.eq_false_or_eq_true (sameB 32 ((bothR kk old n.toNat m.toNat n.toNat true ds k).2.1) root) with h13 | h13
      · skip
        refine r_bin (v := .bool false) (vx := dgV ((bothR kk old n.toNat m.toNat n.toNat true ds k).2.1)) (vy := dgV root) rfl rfl rfl rfl (Eq.trans (neq_dg (n := 32) (a := (bothR kk old n.toNat m.toNat n.toNat true ds k).2.1) (b := root) (by kernel_rfl) rfl rfl rfl) (by rw [h13]; rfl)) ?_
        refine r_pick (v := .bool false) rfl rfl rfl ?_
        refine r_doneN ?_
        refine x_then ?_
        refine c_false rfl ?_
        refine c_skip ?_
        refine x_then ?_
        refine c_seq ?_
        refine c_reg ?_
        refine r_assign (v := .int .i64 0) rfl rfl rfl ?_
        refine r_doneN ?_
        refine x_then ?_
        refine c_ret ?_
        refine x_end ?_
        rw [show refGoesE kk m old n root ds k = 0 from by unfold refGoesE; rw [if_neg h1, if_neg h2, if_neg h3, if_neg h4, if_neg h5, if_neg h6, if_pos h11, if_pos h12, if_pos h13]]
        exact end_same (v := .int .i64 0) rfl rfl rfl (by simp [keptB, dsR]) rfl
      refine r_bin (v := .bool true) (vx := dgV ((bothR kk old n.toNat m.toNat n.toNat true ds k).2.1)) (vy := dgV root) rfl rfl rfl rfl (Eq.trans (neq_dg (n := 32) (a := (bothR kk old n.toNat m.toNat n.toNat true ds k).2.1) (b := root) (by kernel_rfl) rfl rfl rfl) (by rw [h13]; rfl)) ?_
      refine r_pick (v := .bool true) rfl rfl rfl ?_
      refine r_doneN ?_
      refine x_then ?_
      refine c_true rfl ?_
      refine c_seq ?_
      refine c_reg ?_
      refine r_assign (v := .int .i64 41) rfl rfl rfl ?_
      refine r_doneN ?_
      refine x_then ?_
      refine c_ret ?_
      refine x_thenR ?_
      refine x_end ?_
      rw [show refGoesE kk m old n root ds k = 41 from by unfold refGoesE; rw [if_neg h1, if_neg h2, if_neg h3, if_neg h4, if_neg h5, if_neg h6, if_pos h11, if_pos h12, if_neg (by rw [h13]; decide)]]
      exact end_same (v := .int .i64 41) rfl rfl rfl (by simp [keptB, dsR]) rfl
    refine r_bin (v := .bool true) (vx := dgV ((bothR kk old n.toNat m.toNat n.toNat true ds k).1)) (vy := dgV old) rfl rfl rfl rfl (Eq.trans (neq_dg (n := 32) (a := (bothR kk old n.toNat m.toNat n.toNat true ds k).1) (b := old) (by kernel_rfl) rfl rfl rfl) (by rw [h12]; rfl)) ?_
    refine r_move (v := .bool true) rfl rfl rfl ?_
    refine r_skip rfl rfl ?_
    refine r_skip rfl rfl ?_
    refine r_skip rfl rfl ?_
    refine r_pick (v := .bool true) rfl rfl rfl ?_
    refine r_doneN ?_
    refine x_then ?_
    refine c_true rfl ?_
    refine c_seq ?_
    refine c_reg ?_
    refine r_assign (v := .int .i64 41) rfl rfl rfl ?_
    refine r_doneN ?_
    refine x_then ?_
    refine c_ret ?_
    refine x_thenR ?_
    refine x_end ?_
    rw [show refGoesE kk m old n root ds k = 41 from by unfold refGoesE; rw [if_neg h1, if_neg h2, if_neg h3, if_neg h4, if_neg h5, if_neg h6, if_pos h11, if_neg (by rw [h12]; decide)]]
    exact end_same (v := .int .i64 41) rfl rfl rfl (by simp [keptB, dsR]) rfl
  refine r_un (v := .bool true) (vx := .bool ((bothR kk old n.toNat m.toNat n.toNat true ds k).2.2)) rfl rfl rfl (Eq.trans un_not (congrArg (fun b => some (Value.bool !b)) h11)) ?_
  refine r_doneN ?_
  refine x_then ?_
  refine c_true rfl ?_
  refine c_seq ?_
  refine c_reg ?_
  refine r_assign (v := .int .i64 40) rfl rfl rfl ?_
  refine r_doneN ?_
  refine x_then ?_
  refine c_ret ?_
  refine x_thenR ?_
  refine x_end ?_
  rw [show refGoesE kk m old n root ds k = 40 from by unfold refGoesE; rw [if_neg h1, if_neg h2, if_neg h3, if_neg h4, if_neg h5, if_neg h6, if_neg (by rw [h11]; decide)]]
  exact end_same (v := .int .i64 40) rfl rfl rfl (by simp [keptB, dsR]) rfl
def pairF (kk : Nat → BitVec 32) (size index : Nat) (leaf : D) (ds : List D) (n : Nat) : ByteArray × Nat × Nat :=
  if (index : Nat) < (((splitN size) : Nat) : Int) then (((one1 ++ (strOf (dgL ((makesF kk (splitN size) index leaf (sub ds 0 (n - 1))).1)))) ++ (strOf (dgL (ds.getD (n - 1) d0)))), (splitN size), index) else
  (((one1 ++ (strOf (dgL (ds.getD (n - 1) d0)))) ++ (strOf (dgL ((makesF kk (size - (splitN size)) (index - (splitN size)) leaf (sub ds 0 (n - 1))).1)))), size - (splitN size), index - (splitN size))
theorem pair_ok (kk : Nat → BitVec 32) (hG0 : G 0 = some (rowE w32 64 kk)) (size index : Nat) (leaf : D) (ds : List D) (n c : Nat) (hn : ds.length = n) (hb : n ≤ 1000) (hc : n ≤ c) (hs : size ≤ 1000000) (hi : index ≤ 1000000) (h1 : 2 ≤ size) (h2 : 1 ≤ n) : CallL Tryd.prog G 34 [.int .i64 (size : Nat), .int .i64 (index : Nat), dgV leaf, slv 0 0 n c] [dsR ds] (.tuple #[.string (pairF kk size index leaf ds n).1, .int .i64 ((pairF kk size index leaf ds n).2.1 : Nat), .int .i64 ((pairF kk size index leaf ds n).2.2 : Nat)]) [dsR ds] := by
  refine walk (fn := Tryd.f34) (nt := 76) rfl rfl rfl rfl ?_
  refine c_hole 3 (H' := [dsR ds, hole, hole, hole]) rfl ?_
  refine c_seq ?_
  refine c_reg ?_
  refine r_box (v := dgV leaf) (b := dgB leaf) (nid := 1) (H' := [dsR ds, dgB leaf, hole, hole]) rfl rfl rfl (by kernel_rfl) (by kernel_rfl) ?_
  refine r_assign (v := .string ⟨#[]⟩) rfl rfl rfl ?_
  refine r_assign (v := .int .i64 0) rfl rfl rfl ?_
  refine r_assign (v := .int .i64 0) rfl rfl rfl ?_
  refine r_doneN ?_
  refine x_then ?_
  refine c_seq ?_
  refine c_reg ?_
  refine r_move (v := slv 0 0 n c) rfl rfl rfl ?_
  refine r_len (p := slv 0 0 n c) (v := .int .i64 (n : Nat)) rfl rfl rfl rfl ?_
  refine r_assign (v := .int .i64 (n : Nat)) rfl rfl rfl ?_
  refine r_doneN ?_
  refine x_then ?_
  refine c_seq ?_
  refine c_reg ?_
  refine r_move (v := .int .i64 (size : Nat)) rfl rfl rfl ?_
  have hs4 := splitN_pos (n := size) (by omega)
  refine r_callP (refSplit_ok2 (G := G) size (by omega) (by omega)) (vals := [.int .i64 (size : Nat)]) (res' := .int .i64 (((splitN size) : Nat) : Int)) rfl rfl rfl rfl rfl rfl ?_
  refine r_assign (v := .int .i64 (((splitN size) : Nat) : Int)) rfl rfl rfl ?_
  refine r_doneN ?_
  refine x_then ?_
  refine c_seq ?_
  refine c_reg ?_
  refine r_move (v := slv 0 0 n c) rfl rfl rfl ?_
  refine r_move (v := .int .i64 (n : Nat)) rfl rfl rfl ?_
  refine r_bin (v := .int .i64 ((n : Nat) - 1)) (vx := .int .i64 (n : Nat)) (vy := .int .i64 1) rfl rfl rfl rfl (bin_sub (by omega) (by omega) (by omega)) ?_
  refine r_idxS (b := 0) (o := 0) (j := (n - 1) * 32) (m := n) (c := c) (sz := 32) (i := (n : Nat) - 1) (k := .i64) rfl rfl rfl rfl rfl (by omega) (by omega) (by omega) ?_
  refine r_load (p := pt 0 ((n - 1) * 32)) (v := dgV (ds.getD (n - 1) d0)) rfl rfl rfl (load_ds rfl rfl rfl (by have := hn; omega) (by omega)) ?_
  refine r_alloc (b := dgB dz) (nid := 2) (H' := [dsR ds, dgB leaf, dgB dz, hole]) rfl rfl (by kernel_rfl) (by kernel_rfl) ?_
  refine r_store (p := pt 2 0) (v := dgV (ds.getD (n - 1) d0)) (b := 2) (blk := dgB (ds.getD (n - 1) d0)) (H' := [dsR ds, dgB leaf, dgB (ds.getD (n - 1) d0), hole]) rfl rfl rfl (by kernel_rfl) (by kernel_rfl) ?_
  refine r_doneN ?_
  refine x_then ?_
  refine c_seq ?_
  refine c_seq ?_
  refine c_reg ?_
  refine r_move (v := .int .i64 (index : Nat)) rfl rfl rfl ?_
  refine r_move (v := .int .i64 (((splitN size) : Nat) : Int)) rfl rfl rfl ?_
  by_cases h1 : (index : Nat) < (((splitN size) : Nat) : Int)
  · skip
    refine r_bin (v := .bool true) (vx := .int .i64 (index : Nat)) (vy := .int .i64 (((splitN size) : Nat) : Int)) rfl rfl rfl rfl (lss_t (by omega)) ?_
    refine r_doneN ?_
    refine x_then ?_
    refine c_true rfl ?_
    refine c_seq ?_
    refine c_draw (by kernel_rfl) ?_
    refine r_move (v := .int .i64 (((splitN size) : Nat) : Int)) rfl rfl rfl ?_
    refine r_move (v := .int .i64 (index : Nat)) rfl rfl rfl ?_
    refine r_load (p := pt 1 0) (v := dgV leaf) rfl rfl rfl (by kernel_rfl) ?_
    refine r_move (v := slv 0 0 n c) rfl rfl rfl ?_
    refine r_move (v := .int .i64 (n : Nat)) rfl rfl rfl ?_
    refine r_bin (v := .int .i64 ((n : Nat) - 1)) (vx := .int .i64 (n : Nat)) (vy := .int .i64 1) rfl rfl rfl rfl (bin_sub (by omega) (by omega) (by omega)) ?_
    refine r_slice (p := slv 0 0 n c) (vl := none) (vh := some (.int .i64 ((n : Nat) - 1))) (v := slv 0 0 (n - 1) c) rfl rfl rfl rfl rfl (slice_hi (h := n - 1) rfl rfl (by omega) (by omega) rfl) ?_
    refine r_callN (e := [some (0, 0)]) (nid := 0) (Makes_ok (G := G) kk hG0 leaf (splitN size) index (sub ds 0 (n - 1)) (n - 1) c (sub_len (by have := hn; omega)) (by omega) (by omega) (by omega) (by omega) (by omega)) (vals := [.int .i64 (((splitN size) : Nat) : Int), .int .i64 (index : Nat), dgV leaf, slv 0 0 (n - 1) c]) (v := .tuple #[dgV ((makesF kk (splitN size) index leaf (sub ds 0 (n - 1))).1), .bool ((makesF kk (splitN size) index leaf (sub ds 0 (n - 1))).2)]) (H' := [dsR ds, dgB leaf, dgB (ds.getD (n - 1) d0), hole]) rfl rfl rfl rfl rfl rfl rfl ⟨⟨rfl, rfl, rfl, ⟨rfl, by omega, rfl, by omega, by omega⟩, trivial⟩, ⟨(emb_sub rfl (.inl rfl) (by have := hn; omega) (by omega)), trivial⟩, rfl, rfl, rfl⟩ (by kernel_rfl) (by kernel_rfl) ?_
    refine r_move (v := .tuple #[dgV ((makesF kk (splitN size) index leaf (sub ds 0 (n - 1))).1), .bool ((makesF kk (splitN size) index leaf (sub ds 0 (n - 1))).2)]) rfl rfl rfl ?_
    refine r_extract (vs := #[dgV ((makesF kk (splitN size) index leaf (sub ds 0 (n - 1))).1), .bool ((makesF kk (splitN size) index leaf (sub ds 0 (n - 1))).2)]) (v := dgV ((makesF kk (splitN size) index leaf (sub ds 0 (n - 1))).1)) rfl rfl rfl rfl ?_
    refine r_extract (vs := #[dgV ((makesF kk (splitN size) index leaf (sub ds 0 (n - 1))).1), .bool ((makesF kk (splitN size) index leaf (sub ds 0 (n - 1))).2)]) (v := .bool ((makesF kk (splitN size) index leaf (sub ds 0 (n - 1))).2)) rfl rfl rfl rfl ?_
    refine r_alloc (b := dgB dz) (nid := 3) (H' := [dsR ds, dgB leaf, dgB (ds.getD (n - 1) d0), dgB dz]) rfl rfl (by kernel_rfl) (by kernel_rfl) ?_
    refine r_store (p := pt 3 0) (v := dgV ((makesF kk (splitN size) index leaf (sub ds 0 (n - 1))).1)) (b := 3) (blk := dgB ((makesF kk (splitN size) index leaf (sub ds 0 (n - 1))).1)) (H' := [dsR ds, dgB leaf, dgB (ds.getD (n - 1) d0), dgB ((makesF kk (splitN size) index leaf (sub ds 0 (n - 1))).1)]) rfl rfl rfl (by kernel_rfl) (by kernel_rfl) ?_
    refine r_assign (v := .bool ((makesF kk (splitN size) index leaf (sub ds 0 (n - 1))).2)) rfl rfl rfl ?_
    refine r_doneD (by kernel_rfl) ?_
    refine x_then ?_
    refine c_seq ?_
    refine c_draw (by kernel_rfl) ?_
    refine r_load (p := pt 3 0) (v := dgV ((makesF kk (splitN size) index leaf (sub ds 0 (n - 1))).1)) rfl rfl rfl (by kernel_rfl) ?_
    refine r_callP (refText_ok (G := G) ((makesF kk (splitN size) index leaf (sub ds 0 (n - 1))).1)) (vals := [dgV ((makesF kk (splitN size) index leaf (sub ds 0 (n - 1))).1)]) (res' := .string (strOf (dgL ((makesF kk (splitN size) index leaf (sub ds 0 (n - 1))).1)))) rfl rfl rfl rfl rfl rfl ?_
    refine r_bin (v := .string (one1 ++ (strOf (dgL ((makesF kk (splitN size) index leaf (sub ds 0 (n - 1))).1))))) (vx := .string one1) (vy := .string (strOf (dgL ((makesF kk (splitN size) index leaf (sub ds 0 (n - 1))).1)))) rfl rfl rfl rfl (bin_cat (by have e1 : one1.size = 1 := rfl; simp only [ByteArray.size_append, strOf_size, dgL_len, e1]; omega)) ?_
    refine r_load (p := pt 2 0) (v := dgV (ds.getD (n - 1) d0)) rfl rfl rfl (by kernel_rfl) ?_
    refine r_callP (refText_ok (G := G) (ds.getD (n - 1) d0)) (vals := [dgV (ds.getD (n - 1) d0)]) (res' := .string (strOf (dgL (ds.getD (n - 1) d0)))) rfl rfl rfl rfl rfl rfl ?_
    refine r_bin (v := .string ((one1 ++ (strOf (dgL ((makesF kk (splitN size) index leaf (sub ds 0 (n - 1))).1)))) ++ (strOf (dgL (ds.getD (n - 1) d0))))) (vx := .string (one1 ++ (strOf (dgL ((makesF kk (splitN size) index leaf (sub ds 0 (n - 1))).1))))) (vy := .string (strOf (dgL (ds.getD (n - 1) d0)))) rfl rfl rfl rfl (bin_cat (by have e1 : one1.size = 1 := rfl; simp only [ByteArray.size_append, strOf_size, dgL_len, e1]; omega)) ?_
    refine r_move (v := .int .i64 (((splitN size) : Nat) : Int)) rfl rfl rfl ?_
    refine r_move (v := .int .i64 (index : Nat)) rfl rfl rfl ?_
    refine r_assign (v := .string ((one1 ++ (strOf (dgL ((makesF kk (splitN size) index leaf (sub ds 0 (n - 1))).1)))) ++ (strOf (dgL (ds.getD (n - 1) d0))))) rfl rfl rfl ?_
    refine r_assign (v := .int .i64 (((splitN size) : Nat) : Int)) rfl rfl rfl ?_
    refine r_assign (v := .int .i64 (index : Nat)) rfl rfl rfl ?_
    refine r_doneD (by kernel_rfl) ?_
    refine x_then ?_
    refine c_ret ?_
    refine x_thenR ?_
    refine x_end ?_
    rw [show pairF kk size index leaf ds n = (((one1 ++ (strOf (dgL ((makesF kk (splitN size) index leaf (sub ds 0 (n - 1))).1)))) ++ (strOf (dgL (ds.getD (n - 1) d0)))), (splitN size), index) from by unfold pairF; rw [if_pos h1]]
    exact end_same (v := .tuple #[.string ((one1 ++ (strOf (dgL ((makesF kk (splitN size) index leaf (sub ds 0 (n - 1))).1)))) ++ (strOf (dgL (ds.getD (n - 1) d0)))), .int .i64 (((splitN size) : Nat) : Int), .int .i64 (index : Nat)]) rfl rfl rfl (by simp [keptB, dsR]) ⟨rfl, rfl, rfl, trivial⟩
  refine r_bin (v := .bool false) (vx := .int .i64 (index : Nat)) (vy := .int .i64 (((splitN size) : Nat) : Int)) rfl rfl rfl rfl (lss_f (by omega)) ?_
  refine r_doneN ?_
  refine x_then ?_
  refine c_false rfl ?_
  refine c_skip ?_
  refine x_then ?_
  refine c_seq ?_
  refine c_draw (by kernel_rfl) ?_
  refine r_move (v := .int .i64 (size : Nat)) rfl rfl rfl ?_
  refine r_move (v := .int .i64 (((splitN size) : Nat) : Int)) rfl rfl rfl ?_
  refine r_bin (v := .int .i64 ((size : Nat) - (((splitN size) : Nat) : Int))) (vx := .int .i64 (size : Nat)) (vy := .int .i64 (((splitN size) : Nat) : Int)) rfl rfl rfl rfl (bin_sub (by omega) (by omega) (by omega)) ?_
  refine r_move (v := .int .i64 (index : Nat)) rfl rfl rfl ?_
  refine r_move (v := .int .i64 (((splitN size) : Nat) : Int)) rfl rfl rfl ?_
  refine r_bin (v := .int .i64 ((index : Nat) - (((splitN size) : Nat) : Int))) (vx := .int .i64 (index : Nat)) (vy := .int .i64 (((splitN size) : Nat) : Int)) rfl rfl rfl rfl (bin_sub (by omega) (by omega) (by omega)) ?_
  refine r_load (p := pt 1 0) (v := dgV leaf) rfl rfl rfl (by kernel_rfl) ?_
  refine r_move (v := slv 0 0 n c) rfl rfl rfl ?_
  refine r_move (v := .int .i64 (n : Nat)) rfl rfl rfl ?_
  refine r_bin (v := .int .i64 ((n : Nat) - 1)) (vx := .int .i64 (n : Nat)) (vy := .int .i64 1) rfl rfl rfl rfl (bin_sub (by omega) (by omega) (by omega)) ?_
  refine r_slice (p := slv 0 0 n c) (vl := none) (vh := some (.int .i64 ((n : Nat) - 1))) (v := slv 0 0 (n - 1) c) rfl rfl rfl rfl rfl (slice_hi (h := n - 1) rfl rfl (by omega) (by omega) rfl) ?_
  refine r_callN (e := [some (0, 0)]) (nid := 0) (Makes_ok (G := G) kk hG0 leaf (size - (splitN size)) (index - (splitN size)) (sub ds 0 (n - 1)) (n - 1) c (sub_len (by have := hn; omega)) (by omega) (by omega) (by omega) (by omega) (by omega)) (vals := [.int .i64 ((size : Nat) - (((splitN size) : Nat) : Int)), .int .i64 ((index : Nat) - (((splitN size) : Nat) : Int)), dgV leaf, slv 0 0 (n - 1) c]) (v := .tuple #[dgV ((makesF kk (size - (splitN size)) (index - (splitN size)) leaf (sub ds 0 (n - 1))).1), .bool ((makesF kk (size - (splitN size)) (index - (splitN size)) leaf (sub ds 0 (n - 1))).2)]) (H' := [dsR ds, dgB leaf, dgB (ds.getD (n - 1) d0), hole]) rfl rfl rfl rfl rfl rfl rfl ⟨⟨(congrArg (Value.int .i64) (by omega)), (congrArg (Value.int .i64) (by omega)), rfl, ⟨rfl, by omega, rfl, by omega, by omega⟩, trivial⟩, ⟨(emb_sub rfl (.inl rfl) (by have := hn; omega) (by omega)), trivial⟩, rfl, rfl, rfl⟩ (by kernel_rfl) (by kernel_rfl) ?_
  refine r_move (v := .tuple #[dgV ((makesF kk (size - (splitN size)) (index - (splitN size)) leaf (sub ds 0 (n - 1))).1), .bool ((makesF kk (size - (splitN size)) (index - (splitN size)) leaf (sub ds 0 (n - 1))).2)]) rfl rfl rfl ?_
  refine r_extract (vs := #[dgV ((makesF kk (size - (splitN size)) (index - (splitN size)) leaf (sub ds 0 (n - 1))).1), .bool ((makesF kk (size - (splitN size)) (index - (splitN size)) leaf (sub ds 0 (n - 1))).2)]) (v := dgV ((makesF kk (size - (splitN size)) (index - (splitN size)) leaf (sub ds 0 (n - 1))).1)) rfl rfl rfl rfl ?_
  refine r_extract (vs := #[dgV ((makesF kk (size - (splitN size)) (index - (splitN size)) leaf (sub ds 0 (n - 1))).1), .bool ((makesF kk (size - (splitN size)) (index - (splitN size)) leaf (sub ds 0 (n - 1))).2)]) (v := .bool ((makesF kk (size - (splitN size)) (index - (splitN size)) leaf (sub ds 0 (n - 1))).2)) rfl rfl rfl rfl ?_
  refine r_alloc (b := dgB dz) (nid := 3) (H' := [dsR ds, dgB leaf, dgB (ds.getD (n - 1) d0), dgB dz]) rfl rfl (by kernel_rfl) (by kernel_rfl) ?_
  refine r_store (p := pt 3 0) (v := dgV ((makesF kk (size - (splitN size)) (index - (splitN size)) leaf (sub ds 0 (n - 1))).1)) (b := 3) (blk := dgB ((makesF kk (size - (splitN size)) (index - (splitN size)) leaf (sub ds 0 (n - 1))).1)) (H' := [dsR ds, dgB leaf, dgB (ds.getD (n - 1) d0), dgB ((makesF kk (size - (splitN size)) (index - (splitN size)) leaf (sub ds 0 (n - 1))).1)]) rfl rfl rfl (by kernel_rfl) (by kernel_rfl) ?_
  refine r_assign (v := .bool ((makesF kk (size - (splitN size)) (index - (splitN size)) leaf (sub ds 0 (n - 1))).2)) rfl rfl rfl ?_
  refine r_doneD (by kernel_rfl) ?_
  refine x_then ?_
  refine c_seq ?_
  refine c_draw (by kernel_rfl) ?_
  refine r_load (p := pt 2 0) (v := dgV (ds.getD (n - 1) d0)) rfl rfl rfl (by kernel_rfl) ?_
  refine r_callP (refText_ok (G := G) (ds.getD (n - 1) d0)) (vals := [dgV (ds.getD (n - 1) d0)]) (res' := .string (strOf (dgL (ds.getD (n - 1) d0)))) rfl rfl rfl rfl rfl rfl ?_
  refine r_bin (v := .string (one1 ++ (strOf (dgL (ds.getD (n - 1) d0))))) (vx := .string one1) (vy := .string (strOf (dgL (ds.getD (n - 1) d0)))) rfl rfl rfl rfl (bin_cat (by have e1 : one1.size = 1 := rfl; simp only [ByteArray.size_append, strOf_size, dgL_len, e1]; omega)) ?_
  refine r_load (p := pt 3 0) (v := dgV ((makesF kk (size - (splitN size)) (index - (splitN size)) leaf (sub ds 0 (n - 1))).1)) rfl rfl rfl (by kernel_rfl) ?_
  refine r_callP (refText_ok (G := G) ((makesF kk (size - (splitN size)) (index - (splitN size)) leaf (sub ds 0 (n - 1))).1)) (vals := [dgV ((makesF kk (size - (splitN size)) (index - (splitN size)) leaf (sub ds 0 (n - 1))).1)]) (res' := .string (strOf (dgL ((makesF kk (size - (splitN size)) (index - (splitN size)) leaf (sub ds 0 (n - 1))).1)))) rfl rfl rfl rfl rfl rfl ?_
  refine r_bin (v := .string ((one1 ++ (strOf (dgL (ds.getD (n - 1) d0)))) ++ (strOf (dgL ((makesF kk (size - (splitN size)) (index - (splitN size)) leaf (sub ds 0 (n - 1))).1))))) (vx := .string (one1 ++ (strOf (dgL (ds.getD (n - 1) d0))))) (vy := .string (strOf (dgL ((makesF kk (size - (splitN size)) (index - (splitN size)) leaf (sub ds 0 (n - 1))).1)))) rfl rfl rfl rfl (bin_cat (by have e1 : one1.size = 1 := rfl; simp only [ByteArray.size_append, strOf_size, dgL_len, e1]; omega)) ?_
  refine r_move (v := .int .i64 (size : Nat)) rfl rfl rfl ?_
  refine r_move (v := .int .i64 (((splitN size) : Nat) : Int)) rfl rfl rfl ?_
  refine r_bin (v := .int .i64 ((size : Nat) - (((splitN size) : Nat) : Int))) (vx := .int .i64 (size : Nat)) (vy := .int .i64 (((splitN size) : Nat) : Int)) rfl rfl rfl rfl (bin_sub (by omega) (by omega) (by omega)) ?_
  refine r_move (v := .int .i64 (index : Nat)) rfl rfl rfl ?_
  refine r_move (v := .int .i64 (((splitN size) : Nat) : Int)) rfl rfl rfl ?_
  refine r_bin (v := .int .i64 ((index : Nat) - (((splitN size) : Nat) : Int))) (vx := .int .i64 (index : Nat)) (vy := .int .i64 (((splitN size) : Nat) : Int)) rfl rfl rfl rfl (bin_sub (by omega) (by omega) (by omega)) ?_
  refine r_assign (v := .string ((one1 ++ (strOf (dgL (ds.getD (n - 1) d0)))) ++ (strOf (dgL ((makesF kk (size - (splitN size)) (index - (splitN size)) leaf (sub ds 0 (n - 1))).1))))) rfl rfl rfl ?_
  refine r_assign (v := .int .i64 ((size : Nat) - (((splitN size) : Nat) : Int))) rfl rfl rfl ?_
  refine r_assign (v := .int .i64 ((index : Nat) - (((splitN size) : Nat) : Int))) rfl rfl rfl ?_
  refine r_doneD (by kernel_rfl) ?_
  refine x_then ?_
  refine c_ret ?_
  refine x_end ?_
  rw [show pairF kk size index leaf ds n = (((one1 ++ (strOf (dgL (ds.getD (n - 1) d0)))) ++ (strOf (dgL ((makesF kk (size - (splitN size)) (index - (splitN size)) leaf (sub ds 0 (n - 1))).1)))), size - (splitN size), index - (splitN size)) from by unfold pairF; rw [if_neg h1]]
  exact end_same (v := .tuple #[.string ((one1 ++ (strOf (dgL (ds.getD (n - 1) d0)))) ++ (strOf (dgL ((makesF kk (size - (splitN size)) (index - (splitN size)) leaf (sub ds 0 (n - 1))).1)))), .int .i64 ((size : Nat) - (((splitN size) : Nat) : Int)), .int .i64 ((index : Nat) - (((splitN size) : Nat) : Int))]) rfl rfl rfl (by simp [keptB, dsR]) ⟨rfl, (congrArg (Value.int .i64) (by dsimp only; omega)), (congrArg (Value.int .i64) (by dsimp only; omega)), trivial⟩
end Go.Flat
