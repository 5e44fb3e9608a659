/- Walks and plain laws: what each theorem says, within the bounds that it names. -/
import Derived.Test.YtajjalickpkkkaaDoorX19
set_option linter.unusedVariables false
set_option linter.unusedSimpArgs false
namespace Go.Flat
open Go.Proofs
variable {G : Glob}
theorem CheckAlone_ok (kk : Nat → BitVec 32) (hG : G 1 = some (rowE w32 64 kk)) (hG1 : G 3 = some (rowE u8N 64 dbF)) (hne : sameB 32 (knotF kk (knotF kk (dg1 2) (dg1 2)) (dg1 3)) (knotF kk (knotF kk (dg1 1) (dg1 2)) (dg1 3)) = false) (root : D) (size index : Int) (leaf : D) (ds : List D) (n c : Nat) (hn : ds.length = n) (hc : n ≤ c) (size1 : -9223372036854775808 ≤ size) (size2 : size ≤ 9223372036854775807) (index1 : -9223372036854775808 ≤ index) (index2 : index ≤ 9223372036854775807) : CallL Tryd.prog G 7 [dgV root, .int .i64 size, .int .i64 index, dgV leaf, slv 0 0 n c] [dsR ds] (.bool true) [dsR ds] := by
  refine walk (fn := Tryd.f7) (nt := 76) rfl rfl rfl rfl ?_
  refine c_hole 2 (H' := [dsR ds, hole, hole]) rfl ?_
  refine c_seq ?_
  refine c_reg ?_
  refine r_box (v := dgV root) (b := dgB root) (nid := 1) (H' := [dsR ds, dgB root, hole]) rfl rfl rfl (by kernel_rfl) (by kernel_rfl) ?_
  refine r_box (v := dgV leaf) (b := dgB leaf) (nid := 2) (H' := [dsR ds, dgB root, dgB leaf]) rfl rfl rfl (by kernel_rfl) (by kernel_rfl) ?_
  refine r_assign (v := .bool false) rfl rfl rfl ?_
  refine r_doneN ?_
  refine x_then ?_
  refine c_seq ?_
  refine c_seq ?_
  refine c_reg ?_
  refine r_move (v := slv 0 0 n c) rfl rfl rfl ?_
  refine r_len (p := slv 0 0 n c) (v := .int .i64 (n : Nat)) rfl rfl rfl rfl ?_
  by_cases h1 : 200 < (n : Nat)
  · skip
    refine r_bin (v := .bool true) (vx := .int .i64 (n : Nat)) (vy := .int .i64 200) rfl rfl rfl rfl (gtr_t (by omega)) ?_
    refine r_doneN ?_
    refine x_then ?_
    refine c_true rfl ?_
    refine c_seq ?_
    refine c_reg ?_
    refine r_assign (v := .bool true) rfl rfl rfl ?_
    refine r_doneN ?_
    refine x_then ?_
    refine c_ret ?_
    refine x_thenR ?_
    refine x_end ?_
    exact end_same (v := .bool true) rfl rfl rfl (by simp [keptB, dsR]) rfl
  refine r_bin (v := .bool false) (vx := .int .i64 (n : Nat)) (vy := .int .i64 200) rfl rfl rfl rfl (gtr_f (by omega)) ?_
  refine r_doneN ?_
  refine x_then ?_
  refine c_false rfl ?_
  refine c_skip ?_
  refine x_then ?_
  refine c_seq ?_
  refine c_draw (by kernel_rfl) ?_
  refine r_load (p := pt 2 0) (v := dgV leaf) rfl rfl rfl (by kernel_rfl) ?_
  refine r_load (p := pt 2 0) (v := dgV leaf) rfl rfl rfl (by kernel_rfl) ?_
  refine r_callN (e := [none]) (nid := 0) ((Included_ok (G := G) kk hG leaf leaf 1 0 [] 0 0 rfl (by omega) (by omega) (by omega) (by omega) (by omega) (by omega)).res (congrArg (Value.int .i64) (by rw [alone_one, if_pos (sameBd_refl _ _)]))) (vals := [dgV leaf, .int .i64 1, .int .i64 0, dgV leaf, .slice none 0 0]) (v := .int .i64 0) (H' := [dsR ds, dgB root, dgB leaf]) rfl rfl rfl rfl rfl rfl rfl ⟨⟨rfl, rfl, rfl, rfl, ⟨rfl, rfl, rfl, rfl⟩, trivial⟩, ⟨⟨rfl, rfl, by show 0 < _; decide⟩, trivial⟩, rfl, rfl, rfl⟩ rfl (by kernel_rfl) ?_
  refine r_bin (v := .bool true) (vx := .int .i64 0) (vy := .int .i64 0) rfl rfl rfl rfl (eql_t (by omega)) ?_
  refine r_move (v := .bool true) rfl rfl rfl ?_
  refine r_load (p := pt 1 0) (v := dgV root) rfl rfl rfl (by kernel_rfl) ?_
  refine r_load (p := pt 2 0) (v := dgV leaf) rfl rfl rfl (by kernel_rfl) ?_
  rcases Bool.eq_false_or_eq_true (sameB 32 root leaf) with h2 | h2
  · skip
    refine r_callN (e := [none]) (nid := 0) ((Included_ok (G := G) kk hG root leaf 1 0 [] 0 0 rfl (by omega) (by omega) (by omega) (by omega) (by omega) (by omega)).res (congrArg (Value.int .i64) (by rw [alone_one, if_pos h2]))) (vals := [dgV root, .int .i64 1, .int .i64 0, dgV leaf, .slice none 0 0]) (v := .int .i64 0) (H' := [dsR ds, dgB root, dgB leaf]) rfl rfl rfl rfl rfl rfl rfl ⟨⟨rfl, rfl, rfl, rfl, ⟨rfl, rfl, rfl, rfl⟩, trivial⟩, ⟨⟨rfl, rfl, by show 0 < _; decide⟩, trivial⟩, rfl, rfl, rfl⟩ rfl (by kernel_rfl) ?_
    refine r_bin (v := .bool true) (vx := .int .i64 0) (vy := .int .i64 0) rfl rfl rfl rfl (eql_t (by omega)) ?_
    refine r_load (p := pt 1 0) (v := dgV root) rfl rfl rfl (by kernel_rfl) ?_
    refine r_load (p := pt 2 0) (v := dgV leaf) rfl rfl rfl (by kernel_rfl) ?_
    refine r_bin (v := .bool true) (vx := dgV root) (vy := dgV leaf) rfl rfl rfl rfl (Eq.trans (eql_dg (n := 32) (a := root) (b := leaf) (by kernel_rfl) rfl rfl rfl) (by rw [h2] <;> rfl)) ?_
    refine r_bin (v := .bool true) (vx := .bool true) (vy := .bool true) rfl rfl rfl rfl (eqlB' rfl rfl rfl) ?_
    refine r_pick (v := .bool true) rfl rfl rfl ?_
    refine r_assign (v := .bool true) rfl rfl rfl ?_
    refine r_doneD (by kernel_rfl) ?_
    refine x_then ?_
    refine c_seq ?_
    refine c_reg ?_
    refine r_move (v := .int .i64 size) rfl rfl rfl ?_
    by_cases h3 : size < 1
    · skip
      refine r_bin (v := .bool true) (vx := .int .i64 size) (vy := .int .i64 1) rfl rfl rfl rfl (lss_t (by omega)) ?_
      refine r_move (v := .bool true) rfl rfl rfl ?_
      refine r_skip rfl rfl ?_
      refine r_skip rfl rfl ?_
      refine r_pick (v := .bool true) rfl rfl rfl ?_
      refine r_move (v := .bool true) rfl rfl rfl ?_
      refine r_skip rfl rfl ?_
      refine r_skip rfl rfl ?_
      refine r_skip rfl rfl ?_
      refine r_skip rfl rfl ?_
      refine r_skip rfl rfl ?_
      refine r_skip rfl rfl ?_
      refine r_pick (v := .bool true) rfl rfl rfl ?_
      refine r_assign (v := .bool true) rfl rfl rfl ?_
      refine r_doneN ?_
      refine x_then ?_
      refine c_seq ?_
      refine c_reg ?_
      refine r_move (v := slv 0 0 n c) rfl rfl rfl ?_
      refine r_len (p := slv 0 0 n c) (v := .int .i64 (n : Nat)) rfl rfl rfl rfl ?_
      by_cases h4 : (n : Nat) ≤ 18
      · skip
        refine r_bin (v := .bool true) (vx := .int .i64 (n : Nat)) (vy := .int .i64 18) rfl rfl rfl rfl (leq_t (by omega)) ?_
        refine r_move (v := .bool true) rfl rfl rfl ?_
        refine r_skip rfl rfl ?_
        refine r_skip rfl rfl ?_
        refine r_skip rfl rfl ?_
        refine r_skip rfl rfl ?_
        refine r_skip rfl rfl ?_
        refine r_skip rfl rfl ?_
        refine r_skip rfl rfl ?_
        refine r_skip rfl rfl ?_
        refine r_skip rfl rfl ?_
        refine r_skip rfl rfl ?_
        refine r_skip rfl rfl ?_
        refine r_skip rfl rfl ?_
        refine r_skip rfl rfl ?_
        refine r_skip rfl rfl ?_
        refine r_skip rfl rfl ?_
        refine r_skip rfl rfl ?_
        refine r_pick (v := .bool true) rfl rfl rfl ?_
        refine r_assign (v := .bool true) rfl rfl rfl ?_
        refine r_doneN ?_
        refine x_then ?_
        refine c_seq ?_
        refine c_reg ?_
        refine r_callP (three05_ok (G := G) kk hG hG1 hne) (vals := []) (res' := .bool true) rfl rfl rfl rfl rfl rfl ?_
        refine r_move (v := .bool true) rfl rfl rfl ?_
        refine r_move (v := .bool true) rfl rfl rfl ?_
        refine r_pick (v := .bool true) rfl rfl rfl ?_
        refine r_move (v := .bool true) rfl rfl rfl ?_
        refine r_move (v := .bool true) rfl rfl rfl ?_
        refine r_pick (v := .bool true) rfl rfl rfl ?_
        refine r_move (v := .bool true) rfl rfl rfl ?_
        refine r_move (v := .bool true) rfl rfl rfl ?_
        refine r_pick (v := .bool true) rfl rfl rfl ?_
        refine r_assign (v := .bool true) rfl rfl rfl ?_
        refine r_doneN ?_
        refine x_then ?_
        refine c_ret ?_
        refine x_end ?_
        exact end_same (v := .bool true) rfl rfl rfl (by simp [keptB, dsR]) rfl
      refine r_bin (v := .bool false) (vx := .int .i64 (n : Nat)) (vy := .int .i64 18) rfl rfl rfl rfl (leq_f (by omega)) ?_
      refine r_move (v := .bool false) rfl rfl rfl ?_
      refine r_load (p := pt 1 0) (v := dgV root) rfl rfl rfl (by kernel_rfl) ?_
      refine r_move (v := .int .i64 size) rfl rfl rfl ?_
      refine r_move (v := .int .i64 index) rfl rfl rfl ?_
      refine r_load (p := pt 2 0) (v := dgV leaf) rfl rfl rfl (by kernel_rfl) ?_
      refine r_move (v := slv 0 0 n c) rfl rfl rfl ?_
      refine r_callN (e := [some (0, 0)]) (nid := 0) ((Included_ok (G := G) kk hG root leaf size index ds n c hn (by omega) (by omega) (by omega) (by omega) (by omega) (by omega)).res (congrArg (Value.int .i64) (inclE_len kk (by rw [hn]; omega)))) (vals := [dgV root, .int .i64 size, .int .i64 index, dgV leaf, slv 0 0 n c]) (v := .int .i64 40) (H' := [dsR ds, dgB root, dgB leaf]) rfl rfl rfl rfl rfl rfl rfl ⟨⟨rfl, rfl, rfl, rfl, ⟨rfl, rfl, rfl, by omega, by omega⟩, trivial⟩, ⟨(emb_dsR rfl), trivial⟩, rfl, rfl, rfl⟩ rfl (by kernel_rfl) ?_
      refine r_bin (v := .bool true) (vx := .int .i64 40) (vy := .int .i64 40) rfl rfl rfl rfl (eql_t (by omega)) ?_
      refine r_move (v := .bool true) rfl rfl rfl ?_
      refine r_move (v := .int .i64 index) rfl rfl rfl ?_
      refine r_load (p := pt 2 0) (v := dgV leaf) rfl rfl rfl (by kernel_rfl) ?_
      refine r_move (v := .int .i64 size) rfl rfl rfl ?_
      refine r_load (p := pt 1 0) (v := dgV root) rfl rfl rfl (by kernel_rfl) ?_
      refine r_move (v := slv 0 0 n c) rfl rfl rfl ?_
      refine r_callN (e := [some (0, 0)]) (nid := 0) ((Consistent_ok (G := G) kk hG index leaf size root ds n c hn (by omega) (by omega) (by omega) (by omega) (by omega) (by omega)).res (congrArg (Value.int .i64) (goesE_len kk (by rw [hn]; omega)))) (vals := [.int .i64 index, dgV leaf, .int .i64 size, dgV root, slv 0 0 n c]) (v := .int .i64 40) (H' := [dsR ds, dgB root, dgB leaf]) rfl rfl rfl rfl rfl rfl rfl ⟨⟨rfl, rfl, rfl, rfl, ⟨rfl, rfl, rfl, by omega, by omega⟩, trivial⟩, ⟨(emb_dsR rfl), trivial⟩, rfl, rfl, rfl⟩ rfl (by kernel_rfl) ?_
      refine r_bin (v := .bool true) (vx := .int .i64 40) (vy := .int .i64 0) rfl rfl rfl rfl (neq_t (by omega)) ?_
      refine r_pick (v := .bool true) rfl rfl rfl ?_
      refine r_pick (v := .bool true) rfl rfl rfl ?_
      refine r_assign (v := .bool true) rfl rfl rfl ?_
      refine r_doneN ?_
      refine x_then ?_
      refine c_seq ?_
      refine c_reg ?_
      refine r_callP (three05_ok (G := G) kk hG hG1 hne) (vals := []) (res' := .bool true) rfl rfl rfl rfl rfl rfl ?_
      refine r_move (v := .bool true) rfl rfl rfl ?_
      refine r_move (v := .bool true) rfl rfl rfl ?_
      refine r_pick (v := .bool true) rfl rfl rfl ?_
      refine r_move (v := .bool true) rfl rfl rfl ?_
      refine r_move (v := .bool true) rfl rfl rfl ?_
      refine r_pick (v := .bool true) rfl rfl rfl ?_
      refine r_move (v := .bool true) rfl rfl rfl ?_
      refine r_move (v := .bool true) rfl rfl rfl ?_
      refine r_pick (v := .bool true) rfl rfl rfl ?_
      refine r_assign (v := .bool true) rfl rfl rfl ?_
      refine r_doneN ?_
      refine x_then ?_
      refine c_ret ?_
      refine x_end ?_
      exact end_same (v := .bool true) rfl rfl rfl (by simp [keptB, dsR]) rfl
    refine r_bin (v := .bool false) (vx := .int .i64 size) (vy := .int .i64 1) rfl rfl rfl rfl (lss_f (by omega)) ?_
    refine r_move (v := .bool false) rfl rfl rfl ?_
    refine r_move (v := .int .i64 size) rfl rfl rfl ?_
    by_cases h5 : 100000 < size
    · skip
      refine r_bin (v := .bool true) (vx := .int .i64 size) (vy := .int .i64 100000) rfl rfl rfl rfl (gtr_t (by omega)) ?_
      refine r_pick (v := .bool true) rfl rfl rfl ?_
      refine r_move (v := .bool true) rfl rfl rfl ?_
      refine r_skip rfl rfl ?_
      refine r_skip rfl rfl ?_
      refine r_skip rfl rfl ?_
      refine r_skip rfl rfl ?_
      refine r_skip rfl rfl ?_
      refine r_skip rfl rfl ?_
      refine r_pick (v := .bool true) rfl rfl rfl ?_
      refine r_assign (v := .bool true) rfl rfl rfl ?_
      refine r_doneN ?_
      refine x_then ?_
      refine c_seq ?_
      refine c_reg ?_
      refine r_move (v := slv 0 0 n c) rfl rfl rfl ?_
      refine r_len (p := slv 0 0 n c) (v := .int .i64 (n : Nat)) rfl rfl rfl rfl ?_
      by_cases h6 : (n : Nat) ≤ 18
      · skip
        refine r_bin (v := .bool true) (vx := .int .i64 (n : Nat)) (vy := .int .i64 18) rfl rfl rfl rfl (leq_t (by omega)) ?_
        refine r_move (v := .bool true) rfl rfl rfl ?_
        refine r_skip rfl rfl ?_
        refine r_skip rfl rfl ?_
        refine r_skip rfl rfl ?_
        refine r_skip rfl rfl ?_
        refine r_skip rfl rfl ?_
        refine r_skip rfl rfl ?_
        refine r_skip rfl rfl ?_
        refine r_skip rfl rfl ?_
        refine r_skip rfl rfl ?_
        refine r_skip rfl rfl ?_
        refine r_skip rfl rfl ?_
        refine r_skip rfl rfl ?_
        refine r_skip rfl rfl ?_
        refine r_skip rfl rfl ?_
        refine r_skip rfl rfl ?_
        refine r_skip rfl rfl ?_
        refine r_pick (v := .bool true) rfl rfl rfl ?_
        refine r_assign (v := .bool true) rfl rfl rfl ?_
        refine r_doneN ?_
        refine x_then ?_
        refine c_seq ?_
        refine c_reg ?_
        refine r_callP (three05_ok (G := G) kk hG hG1 hne) (vals := []) (res' := .bool true) rfl rfl rfl rfl rfl rfl ?_
        refine r_move (v := .bool true) rfl rfl rfl ?_
        refine r_move (v := .bool true) rfl rfl rfl ?_
        refine r_pick (v := .bool true) rfl rfl rfl ?_
        refine r_move (v := .bool true) rfl rfl rfl ?_
        refine r_move (v := .bool true) rfl rfl rfl ?_
        refine r_pick (v := .bool true) rfl rfl rfl ?_
        refine r_move (v := .bool true) rfl rfl rfl ?_
        refine r_move (v := .bool true) rfl rfl rfl ?_
        refine r_pick (v := .bool true) rfl rfl rfl ?_
        refine r_assign (v := .bool true) rfl rfl rfl ?_
        refine r_doneN ?_
        refine x_then ?_
        refine c_ret ?_
        refine x_end ?_
        exact end_same (v := .bool true) rfl rfl rfl (by simp [keptB, dsR]) rfl
      refine r_bin (v := .bool false) (vx := .int .i64 (n : Nat)) (vy := .int .i64 18) rfl rfl rfl rfl (leq_f (by omega)) ?_
      refine r_move (v := .bool false) rfl rfl rfl ?_
      refine r_load (p := pt 1 0) (v := dgV root) rfl rfl rfl (by kernel_rfl) ?_
      refine r_move (v := .int .i64 size) rfl rfl rfl ?_
      refine r_move (v := .int .i64 index) rfl rfl rfl ?_
      refine r_load (p := pt 2 0) (v := dgV leaf) rfl rfl rfl (by kernel_rfl) ?_
      refine r_move (v := slv 0 0 n c) rfl rfl rfl ?_
      refine r_callN (e := [some (0, 0)]) (nid := 0) ((Included_ok (G := G) kk hG root leaf size index ds n c hn (by omega) (by omega) (by omega) (by omega) (by omega) (by omega)).res (congrArg (Value.int .i64) (inclE_len kk (by rw [hn]; omega)))) (vals := [dgV root, .int .i64 size, .int .i64 index, dgV leaf, slv 0 0 n c]) (v := .int .i64 40) (H' := [dsR ds, dgB root, dgB leaf]) rfl rfl rfl rfl rfl rfl rfl ⟨⟨rfl, rfl, rfl, rfl, ⟨rfl, rfl, rfl, by omega, by omega⟩, trivial⟩, ⟨(emb_dsR rfl), trivial⟩, rfl, rfl, rfl⟩ rfl (by kernel_rfl) ?_
      refine r_bin (v := .bool true) (vx := .int .i64 40) (vy := .int .i64 40) rfl rfl rfl rfl (eql_t (by omega)) ?_
      refine r_move (v := .bool true) rfl rfl rfl ?_
      refine r_move (v := .int .i64 index) rfl rfl rfl ?_
      refine r_load (p := pt 2 0) (v := dgV leaf) rfl rfl rfl (by kernel_rfl) ?_
      refine r_move (v := .int .i64 size) rfl rfl rfl ?_
      refine r_load (p := pt 1 0) (v := dgV root) rfl rfl rfl (by kernel_rfl) ?_
      refine r_move (v := slv 0 0 n c) rfl rfl rfl ?_
      refine r_callN (e := [some (0, 0)]) (nid := 0) ((Consistent_ok (G := G) kk hG index leaf size root ds n c hn (by omega) (by omega) (by omega) (by omega) (by omega) (by omega)).res (congrArg (Value.int .i64) (goesE_len kk (by rw [hn]; omega)))) (vals := [.int .i64 index, dgV leaf, .int .i64 size, dgV root, slv 0 0 n c]) (v := .int .i64 40) (H' := [dsR ds, dgB root, dgB leaf]) rfl rfl rfl rfl rfl rfl rfl ⟨⟨rfl, rfl, rfl, rfl, ⟨rfl, rfl, rfl, by omega, by omega⟩, trivial⟩, ⟨(emb_dsR rfl), trivial⟩, rfl, rfl, rfl⟩ rfl (by kernel_rfl) ?_
      refine r_bin (v := .bool true) (vx := .int .i64 40) (vy := .int .i64 0) rfl rfl rfl rfl (neq_t (by omega)) ?_
      refine r_pick (v := .bool true) rfl rfl rfl ?_
      refine r_pick (v := .bool true) rfl rfl rfl ?_
      refine r_assign (v := .bool true) rfl rfl rfl ?_
      refine r_doneN ?_
      refine x_then ?_
      refine c_seq ?_
      refine c_reg ?_
      refine r_callP (three05_ok (G := G) kk hG hG1 hne) (vals := []) (res' := .bool true) rfl rfl rfl rfl rfl rfl ?_
      refine r_move (v := .bool true) rfl rfl rfl ?_
      refine r_move (v := .bool true) rfl rfl rfl ?_
      refine r_pick (v := .bool true) rfl rfl rfl ?_
      refine r_move (v := .bool true) rfl rfl rfl ?_
      refine r_move (v := .bool true) rfl rfl rfl ?_
      refine r_pick (v := .bool true) rfl rfl rfl ?_
      refine r_move (v := .bool true) rfl rfl rfl ?_
      refine r_move (v := .bool true) rfl rfl rfl ?_
      refine r_pick (v := .bool true) rfl rfl rfl ?_
      refine r_assign (v := .bool true) rfl rfl rfl ?_
      refine r_doneN ?_
      refine x_then ?_
      refine c_ret ?_
      refine x_end ?_
      exact end_same (v := .bool true) rfl rfl rfl (by simp [keptB, dsR]) rfl
    refine r_bin (v := .bool false) (vx := .int .i64 size) (vy := .int .i64 100000) rfl rfl rfl rfl (gtr_f (by omega)) ?_
    refine r_pick (v := .bool false) rfl rfl rfl ?_
    refine r_move (v := .bool false) rfl rfl rfl ?_
    refine r_move (v := .int .i64 size) rfl rfl rfl ?_
    refine r_load (p := pt 1 0) (v := dgV root) rfl rfl rfl (by kernel_rfl) ?_
    refine r_move (v := .int .i64 size) rfl rfl rfl ?_
    refine r_load (p := pt 1 0) (v := dgV root) rfl rfl rfl (by kernel_rfl) ?_
    refine r_callN (e := [none]) (nid := 0) ((Consistent_ok (G := G) kk hG size root size root [] 0 0 rfl (by omega) (by omega) (by omega) (by omega) (by omega) (by omega)).res (congrArg (Value.int .i64) (alone_two kk (by omega) (by omega)))) (vals := [.int .i64 size, dgV root, .int .i64 size, dgV root, .slice none 0 0]) (v := .int .i64 0) (H' := [dsR ds, dgB root, dgB leaf]) rfl rfl rfl rfl rfl rfl rfl ⟨⟨rfl, rfl, rfl, rfl, ⟨rfl, rfl, rfl, rfl⟩, trivial⟩, ⟨⟨rfl, rfl, by show 0 < _; decide⟩, trivial⟩, rfl, rfl, rfl⟩ rfl (by kernel_rfl) ?_
    refine r_bin (v := .bool true) (vx := .int .i64 0) (vy := .int .i64 0) rfl rfl rfl rfl (eql_t (by omega)) ?_
    refine r_pick (v := .bool true) rfl rfl rfl ?_
    refine r_assign (v := .bool true) rfl rfl rfl ?_
    refine r_doneN ?_
    refine x_then ?_
    refine c_seq ?_
    refine c_reg ?_
    refine r_move (v := slv 0 0 n c) rfl rfl rfl ?_
    refine r_len (p := slv 0 0 n c) (v := .int .i64 (n : Nat)) rfl rfl rfl rfl ?_
    by_cases h7 : (n : Nat) ≤ 18
    · skip
      refine r_bin (v := .bool true) (vx := .int .i64 (n : Nat)) (vy := .int .i64 18) rfl rfl rfl rfl (leq_t (by omega)) ?_
      refine r_move (v := .bool true) rfl rfl rfl ?_
      refine r_skip rfl rfl ?_
      refine r_skip rfl rfl ?_
      refine r_skip rfl rfl ?_
      refine r_skip rfl rfl ?_
      refine r_skip rfl rfl ?_
      refine r_skip rfl rfl ?_
      refine r_skip rfl rfl ?_
      refine r_skip rfl rfl ?_
      refine r_skip rfl rfl ?_
      refine r_skip rfl rfl ?_
      refine r_skip rfl rfl ?_
      refine r_skip rfl rfl ?_
      refine r_skip rfl rfl ?_
      refine r_skip rfl rfl ?_
      refine r_skip rfl rfl ?_
      refine r_skip rfl rfl ?_
      refine r_pick (v := .bool true) rfl rfl rfl ?_
      refine r_assign (v := .bool true) rfl rfl rfl ?_
      refine r_doneN ?_
      refine x_then ?_
      refine c_seq ?_
      refine c_reg ?_
      refine r_callP (three05_ok (G := G) kk hG hG1 hne) (vals := []) (res' := .bool true) rfl rfl rfl rfl rfl rfl ?_
      refine r_move (v := .bool true) rfl rfl rfl ?_
      refine r_move (v := .bool true) rfl rfl rfl ?_
      refine r_pick (v := .bool true) rfl rfl rfl ?_
      refine r_move (v := .bool true) rfl rfl rfl ?_
      refine r_move (v := .bool true) rfl rfl rfl ?_
      refine r_pick (v := .bool true) rfl rfl rfl ?_
      refine r_move (v := .bool true) rfl rfl rfl ?_
      refine r_move (v := .bool true) rfl rfl rfl ?_
      refine r_pick (v := .bool true) rfl rfl rfl ?_
      refine r_assign (v := .bool true) rfl rfl rfl ?_
      refine r_doneN ?_
      refine x_then ?_
      refine c_ret ?_
      refine x_end ?_
      exact end_same (v := .bool true) rfl rfl rfl (by simp [keptB, dsR]) rfl
    refine r_bin (v := .bool false) (vx := .int .i64 (n : Nat)) (vy := .int .i64 18) rfl rfl rfl rfl (leq_f (by omega)) ?_
    refine r_move (v := .bool false) rfl rfl rfl ?_
    refine r_load (p := pt 1 0) (v := dgV root) rfl rfl rfl (by kernel_rfl) ?_
    refine r_move (v := .int .i64 size) rfl rfl rfl ?_
    refine r_move (v := .int .i64 index) rfl rfl rfl ?_
    refine r_load (p := pt 2 0) (v := dgV leaf) rfl rfl rfl (by kernel_rfl) ?_
    refine r_move (v := slv 0 0 n c) rfl rfl rfl ?_
    refine r_callN (e := [some (0, 0)]) (nid := 0) ((Included_ok (G := G) kk hG root leaf size index ds n c hn (by omega) (by omega) (by omega) (by omega) (by omega) (by omega)).res (congrArg (Value.int .i64) (inclE_len kk (by rw [hn]; omega)))) (vals := [dgV root, .int .i64 size, .int .i64 index, dgV leaf, slv 0 0 n c]) (v := .int .i64 40) (H' := [dsR ds, dgB root, dgB leaf]) rfl rfl rfl rfl rfl rfl rfl ⟨⟨rfl, rfl, rfl, rfl, ⟨rfl, rfl, rfl, by omega, by omega⟩, trivial⟩, ⟨(emb_dsR rfl), trivial⟩, rfl, rfl, rfl⟩ rfl (by kernel_rfl) ?_
    refine r_bin (v := .bool true) (vx := .int .i64 40) (vy := .int .i64 40) rfl rfl rfl rfl (eql_t (by omega)) ?_
    refine r_move (v := .bool true) rfl rfl rfl ?_
    refine r_move (v := .int .i64 index) rfl rfl rfl ?_
    refine r_load (p := pt 2 0) (v := dgV leaf) rfl rfl rfl (by kernel_rfl) ?_
    refine r_move (v := .int .i64 size) rfl rfl rfl ?_
    refine r_load (p := pt 1 0) (v := dgV root) rfl rfl rfl (by kernel_rfl) ?_
    refine r_move (v := slv 0 0 n c) rfl rfl rfl ?_
    refine r_callN (e := [some (0, 0)]) (nid := 0) ((Consistent_ok (G := G) kk hG index leaf size root ds n c hn (by omega) (by omega) (by omega) (by omega) (by omega) (by omega)).res (congrArg (Value.int .i64) (goesE_len kk (by rw [hn]; omega)))) (vals := [.int .i64 index, dgV leaf, .int .i64 size, dgV root, slv 0 0 n c]) (v := .int .i64 40) (H' := [dsR ds, dgB root, dgB leaf]) rfl rfl rfl rfl rfl rfl rfl ⟨⟨rfl, rfl, rfl, rfl, ⟨rfl, rfl, rfl, by omega, by omega⟩, trivial⟩, ⟨(emb_dsR rfl), trivial⟩, rfl, rfl, rfl⟩ rfl (by kernel_rfl) ?_
    refine r_bin (v := .bool true) (vx := .int .i64 40) (vy := .int .i64 0) rfl rfl rfl rfl (neq_t (by omega)) ?_
    refine r_pick (v := .bool true) rfl rfl rfl ?_
    refine r_pick (v := .bool true) rfl rfl rfl ?_
    refine r_assign (v := .bool true) rfl rfl rfl ?_
    refine r_doneN ?_
    refine x_then ?_
    refine c_seq ?_
    refine c_reg ?_
    refine r_callP (three05_ok (G := G) kk hG hG1 hne) (vals := []) (res' := .bool true) rfl rfl rfl rfl rfl rfl ?_
    refine r_move (v := .bool true) rfl rfl rfl ?_
    refine r_move (v := .bool true) rfl rfl rfl ?_
    refine r_pick (v := .bool true) rfl rfl rfl ?_
    refine r_move (v := .bool true) rfl rfl rfl ?_
    refine r_move (v := .bool true) rfl rfl rfl ?_
    refine r_pick (v := .bool true) rfl rfl rfl ?_
    refine r_move (v := .bool true) rfl rfl rfl ?_
    refine r_move (v := .bool true) rfl rfl rfl ?_
    refine r_pick (v := .bool true) rfl rfl rfl ?_
    refine r_assign (v := .bool true) rfl rfl rfl ?_
    refine r_doneN ?_
    refine x_then ?_
    refine c_ret ?_
    refine x_end ?_
    exact end_same (v := .bool true) rfl rfl rfl (by simp [keptB, dsR]) rfl
  refine r_callN (e := [none]) (nid := 0) ((Included_ok (G := G) kk hG root leaf 1 0 [] 0 0 rfl (by omega) (by omega) (by omega) (by omega) (by omega) (by omega)).res (congrArg (Value.int .i64) (by rw [alone_one, if_neg (by rw [h2]; decide)]))) (vals := [dgV root, .int .i64 1, .int .i64 0, dgV leaf, .slice none 0 0]) (v := .int .i64 41) (H' := [dsR ds, dgB root, dgB leaf]) rfl rfl rfl rfl rfl rfl rfl ⟨⟨rfl, rfl, rfl, rfl, ⟨rfl, rfl, rfl, rfl⟩, trivial⟩, ⟨⟨rfl, rfl, by show 0 < _; decide⟩, trivial⟩, rfl, rfl, rfl⟩ rfl (by kernel_rfl) ?_
  refine r_bin (v := .bool false) (vx := .int .i64 41) (vy := .int .i64 0) rfl rfl rfl rfl (eql_f (by omega)) ?_
  refine r_load (p := pt 1 0) (v := dgV root) rfl rfl rfl (by kernel_rfl) ?_
  refine r_load (p := pt 2 0) (v := dgV leaf) rfl rfl rfl (by kernel_rfl) ?_
  refine r_bin (v := .bool false) (vx := dgV root) (vy := dgV leaf) rfl rfl rfl rfl (Eq.trans (eql_dg (n := 32) (a := root) (b := leaf) (by kernel_rfl) rfl rfl rfl) (by rw [h2] <;> rfl)) ?_
  refine r_bin (v := .bool true) (vx := .bool false) (vy := .bool false) rfl rfl rfl rfl (eqlB' rfl rfl rfl) ?_
  refine r_pick (v := .bool true) rfl rfl rfl ?_
  refine r_assign (v := .bool true) rfl rfl rfl ?_
  refine r_doneD (by kernel_rfl) ?_
  refine x_then ?_
  refine c_seq ?_
  refine c_reg ?_
  refine r_move (v := .int .i64 size) rfl rfl rfl ?_
  by_cases h8 : size < 1
  · skip
    refine r_bin (v := .bool true) (vx := .int .i64 size) (vy := .int .i64 1) rfl rfl rfl rfl (lss_t (by omega)) ?_
    refine r_move (v := .bool true) rfl rfl rfl ?_
    refine r_skip rfl rfl ?_
    refine r_skip rfl rfl ?_
    refine r_pick (v := .bool true) rfl rfl rfl ?_
    refine r_move (v := .bool true) rfl rfl rfl ?_
    refine r_skip rfl rfl ?_
    refine r_skip rfl rfl ?_
    refine r_skip rfl rfl ?_
    refine r_skip rfl rfl ?_
    refine r_skip rfl rfl ?_
    refine r_skip rfl rfl ?_
    refine r_pick (v := .bool true) rfl rfl rfl ?_
    refine r_assign (v := .bool true) rfl rfl rfl ?_
    refine r_doneN ?_
    refine x_then ?_
    refine c_seq ?_
    refine c_reg ?_
    refine r_move (v := slv 0 0 n c) rfl rfl rfl ?_
    refine r_len (p := slv 0 0 n c) (v := .int .i64 (n : Nat)) rfl rfl rfl rfl ?_
    by_cases h9 : (n : Nat) ≤ 18
    · skip
      refine r_bin (v := .bool true) (vx := .int .i64 (n : Nat)) (vy := .int .i64 18) rfl rfl rfl rfl (leq_t (by omega)) ?_
      refine r_move (v := .bool true) rfl rfl rfl ?_
      refine r_skip rfl rfl ?_
      refine r_skip rfl rfl ?_
      refine r_skip rfl rfl ?_
      refine r_skip rfl rfl ?_
      refine r_skip rfl rfl ?_
      refine r_skip rfl rfl ?_
      refine r_skip rfl rfl ?_
      refine r_skip rfl rfl ?_
      refine r_skip rfl rfl ?_
      refine r_skip rfl rfl ?_
      refine r_skip rfl rfl ?_
      refine r_skip rfl rfl ?_
      refine r_skip rfl rfl ?_
      refine r_skip rfl rfl ?_
      refine r_skip rfl rfl ?_
      refine r_skip rfl rfl ?_
      refine r_pick (v := .bool true) rfl rfl rfl ?_
      refine r_assign (v := .bool true) rfl rfl rfl ?_
      refine r_doneN ?_
      refine x_then ?_
      refine c_seq ?_
      refine c_reg ?_
      refine r_callP (three05_ok (G := G) kk hG hG1 hne) (vals := []) (res' := .bool true) rfl rfl rfl rfl rfl rfl ?_
      refine r_move (v := .bool true) rfl rfl rfl ?_
      refine r_move (v := .bool true) rfl rfl rfl ?_
      refine r_pick (v := .bool true) rfl rfl rfl ?_
      refine r_move (v := .bool true) rfl rfl rfl ?_
      refine r_move (v := .bool true) rfl rfl rfl ?_
      refine r_pick (v := .bool true) rfl rfl rfl ?_
      refine r_move (v := .bool true) rfl rfl rfl ?_
      refine r_move (v := .bool true) rfl rfl rfl ?_
      refine r_pick (v := .bool true) rfl rfl rfl ?_
      refine r_assign (v := .bool true) rfl rfl rfl ?_
      refine r_doneN ?_
      refine x_then ?_
      refine c_ret ?_
      refine x_end ?_
      exact end_same (v := .bool true) rfl rfl rfl (by simp [keptB, dsR]) rfl
    refine r_bin (v := .bool false) (vx := .int .i64 (n : Nat)) (vy := .int .i64 18) rfl rfl rfl rfl (leq_f (by omega)) ?_
    refine r_move (v := .bool false) rfl rfl rfl ?_
    refine r_load (p := pt 1 0) (v := dgV root) rfl rfl rfl (by kernel_rfl) ?_
    refine r_move (v := .int .i64 size) rfl rfl rfl ?_
    refine r_move (v := .int .i64 index) rfl rfl rfl ?_
    refine r_load (p := pt 2 0) (v := dgV leaf) rfl rfl rfl (by kernel_rfl) ?_
    refine r_move (v := slv 0 0 n c) rfl rfl rfl ?_
    refine r_callN (e := [some (0, 0)]) (nid := 0) ((Included_ok (G := G) kk hG root leaf size index ds n c hn (by omega) (by omega) (by omega) (by omega) (by omega) (by omega)).res (congrArg (Value.int .i64) (inclE_len kk (by rw [hn]; omega)))) (vals := [dgV root, .int .i64 size, .int .i64 index, dgV leaf, slv 0 0 n c]) (v := .int .i64 40) (H' := [dsR ds, dgB root, dgB leaf]) rfl rfl rfl rfl rfl rfl rfl ⟨⟨rfl, rfl, rfl, rfl, ⟨rfl, rfl, rfl, by omega, by omega⟩, trivial⟩, ⟨(emb_dsR rfl), trivial⟩, rfl, rfl, rfl⟩ rfl (by kernel_rfl) ?_
    refine r_bin (v := .bool true) (vx := .int .i64 40) (vy := .int .i64 40) rfl rfl rfl rfl (eql_t (by omega)) ?_
    refine r_move (v := .bool true) rfl rfl rfl ?_
    refine r_move (v := .int .i64 index) rfl rfl rfl ?_
    refine r_load (p := pt 2 0) (v := dgV leaf) rfl rfl rfl (by kernel_rfl) ?_
    refine r_move (v := .int .i64 size) rfl rfl rfl ?_
    refine r_load (p := pt 1 0) (v := dgV root) rfl rfl rfl (by kernel_rfl) ?_
    refine r_move (v := slv 0 0 n c) rfl rfl rfl ?_
    refine r_callN (e := [some (0, 0)]) (nid := 0) ((Consistent_ok (G := G) kk hG index leaf size root ds n c hn (by omega) (by omega) (by omega) (by omega) (by omega) (by omega)).res (congrArg (Value.int .i64) (goesE_len kk (by rw [hn]; omega)))) (vals := [.int .i64 index, dgV leaf, .int .i64 size, dgV root, slv 0 0 n c]) (v := .int .i64 40) (H' := [dsR ds, dgB root, dgB leaf]) rfl rfl rfl rfl rfl rfl rfl ⟨⟨rfl, rfl, rfl, rfl, ⟨rfl, rfl, rfl, by omega, by omega⟩, trivial⟩, ⟨(emb_dsR rfl), trivial⟩, rfl, rfl, rfl⟩ rfl (by kernel_rfl) ?_
    refine r_bin (v := .bool true) (vx := .int .i64 40) (vy := .int .i64 0) rfl rfl rfl rfl (neq_t (by omega)) ?_
    refine r_pick (v := .bool true) rfl rfl rfl ?_
    refine r_pick (v := .bool true) rfl rfl rfl ?_
    refine r_assign (v := .bool true) rfl rfl rfl ?_
    refine r_doneN ?_
    refine x_then ?_
    refine c_seq ?_
    refine c_reg ?_
    refine r_callP (three05_ok (G := G) kk hG hG1 hne) (vals := []) (res' := .bool true) rfl rfl rfl rfl rfl rfl ?_
    refine r_move (v := .bool true) rfl rfl rfl ?_
    refine r_move (v := .bool true) rfl rfl rfl ?_
    refine r_pick (v := .bool true) rfl rfl rfl ?_
    refine r_move (v := .bool true) rfl rfl rfl ?_
    refine r_move (v := .bool true) rfl rfl rfl ?_
    refine r_pick (v := .bool true) rfl rfl rfl ?_
    refine r_move (v := .bool true) rfl rfl rfl ?_
    refine r_move (v := .bool true) rfl rfl rfl ?_
    refine r_pick (v := .bool true) rfl rfl rfl ?_
    refine r_assign (v := .bool true) rfl rfl rfl ?_
    refine r_doneN ?_
    refine x_then ?_
    refine c_ret ?_
    refine x_end ?_
    exact end_same (v := .bool true) rfl rfl rfl (by simp [keptB, dsR]) rfl
  refine r_bin (v := .bool false) (vx := .int .i64 size) (vy := .int .i64 1) rfl rfl rfl rfl (lss_f (by omega)) ?_
  refine r_move (v := .bool false) rfl rfl rfl ?_
  refine r_move (v := .int .i64 size) rfl rfl rfl ?_
  by_cases h10 : 100000 < size
  · skip
    refine r_bin (v := .bool true) (vx := .int .i64 size) (vy := .int .i64 100000) rfl rfl rfl rfl (gtr_t (by omega)) ?_
    refine r_pick (v := .bool true) rfl rfl rfl ?_
    refine r_move (v := .bool true) rfl rfl rfl ?_
    refine r_skip rfl rfl ?_
    refine r_skip rfl rfl ?_
    refine r_skip rfl rfl ?_
    refine r_skip rfl rfl ?_
    refine r_skip rfl rfl ?_
    refine r_skip rfl rfl ?_
    refine r_pick (v := .bool true) rfl rfl rfl ?_
    refine r_assign (v := .bool true) rfl rfl rfl ?_
    refine r_doneN ?_
    refine x_then ?_
    refine c_seq ?_
    refine c_reg ?_
    refine r_move (v := slv 0 0 n c) rfl rfl rfl ?_
    refine r_len (p := slv 0 0 n c) (v := .int .i64 (n : Nat)) rfl rfl rfl rfl ?_
    by_cases h11 : (n : Nat) ≤ 18
    · skip
      refine r_bin (v := .bool true) (vx := .int .i64 (n : Nat)) (vy := .int .i64 18) rfl rfl rfl rfl (leq_t (by omega)) ?_
      refine r_move (v := .bool true) rfl rfl rfl ?_
      refine r_skip rfl rfl ?_
      refine r_skip rfl rfl ?_
      refine r_skip rfl rfl ?_
      refine r_skip rfl rfl ?_
      refine r_skip rfl rfl ?_
      refine r_skip rfl rfl ?_
      refine r_skip rfl rfl ?_
      refine r_skip rfl rfl ?_
      refine r_skip rfl rfl ?_
      refine r_skip rfl rfl ?_
      refine r_skip rfl rfl ?_
      refine r_skip rfl rfl ?_
      refine r_skip rfl rfl ?_
      refine r_skip rfl rfl ?_
      refine r_skip rfl rfl ?_
      refine r_skip rfl rfl ?_
      refine r_pick (v := .bool true) rfl rfl rfl ?_
      refine r_assign (v := .bool true) rfl rfl rfl ?_
      refine r_doneN ?_
      refine x_then ?_
      refine c_seq ?_
      refine c_reg ?_
      refine r_callP (three05_ok (G := G) kk hG hG1 hne) (vals := []) (res' := .bool true) rfl rfl rfl rfl rfl rfl ?_
      refine r_move (v := .bool true) rfl rfl rfl ?_
      refine r_move (v := .bool true) rfl rfl rfl ?_
      refine r_pick (v := .bool true) rfl rfl rfl ?_
      refine r_move (v := .bool true) rfl rfl rfl ?_
      refine r_move (v := .bool true) rfl rfl rfl ?_
      refine r_pick (v := .bool true) rfl rfl rfl ?_
      refine r_move (v := .bool true) rfl rfl rfl ?_
      refine r_move (v := .bool true) rfl rfl rfl ?_
      refine r_pick (v := .bool true) rfl rfl rfl ?_
      refine r_assign (v := .bool true) rfl rfl rfl ?_
      refine r_doneN ?_
      refine x_then ?_
      refine c_ret ?_
      refine x_end ?_
      exact end_same (v := .bool true) rfl rfl rfl (by simp [keptB, dsR]) rfl
    refine r_bin (v := .bool false) (vx := .int .i64 (n : Nat)) (vy := .int .i64 18) rfl rfl rfl rfl (leq_f (by omega)) ?_
    refine r_move (v := .bool false) rfl rfl rfl ?_
    refine r_load (p := pt 1 0) (v := dgV root) rfl rfl rfl (by kernel_rfl) ?_
    refine r_move (v := .int .i64 size) rfl rfl rfl ?_
    refine r_move (v := .int .i64 index) rfl rfl rfl ?_
    refine r_load (p := pt 2 0) (v := dgV leaf) rfl rfl rfl (by kernel_rfl) ?_
    refine r_move (v := slv 0 0 n c) rfl rfl rfl ?_
    refine r_callN (e := [some (0, 0)]) (nid := 0) ((Included_ok (G := G) kk hG root leaf size index ds n c hn (by omega) (by omega) (by omega) (by omega) (by omega) (by omega)).res (congrArg (Value.int .i64) (inclE_len kk (by rw [hn]; omega)))) (vals := [dgV root, .int .i64 size, .int .i64 index, dgV leaf, slv 0 0 n c]) (v := .int .i64 40) (H' := [dsR ds, dgB root, dgB leaf]) rfl rfl rfl rfl rfl rfl rfl ⟨⟨rfl, rfl, rfl, rfl, ⟨rfl, rfl, rfl, by omega, by omega⟩, trivial⟩, ⟨(emb_dsR rfl), trivial⟩, rfl, rfl, rfl⟩ rfl (by kernel_rfl) ?_
    refine r_bin (v := .bool true) (vx := .int .i64 40) (vy := .int .i64 40) rfl rfl rfl rfl (eql_t (by omega)) ?_
    refine r_move (v := .bool true) rfl rfl rfl ?_
    refine r_move (v := .int .i64 index) rfl rfl rfl ?_
    refine r_load (p := pt 2 0) (v := dgV leaf) rfl rfl rfl (by kernel_rfl) ?_
    refine r_move (v := .int .i64 size) rfl rfl rfl ?_
    refine r_load (p := pt 1 0) (v := dgV root) rfl rfl rfl (by kernel_rfl) ?_
    refine r_move (v := slv 0 0 n c) rfl rfl rfl ?_
    refine r_callN (e := [some (0, 0)]) (nid := 0) ((Consistent_ok (G := G) kk hG index leaf size root ds n c hn (by omega) (by omega) (by omega) (by omega) (by omega) (by omega)).res (congrArg (Value.int .i64) (goesE_len kk (by rw [hn]; omega)))) (vals := [.int .i64 index, dgV leaf, .int .i64 size, dgV root, slv 0 0 n c]) (v := .int .i64 40) (H' := [dsR ds, dgB root, dgB leaf]) rfl rfl rfl rfl rfl rfl rfl ⟨⟨rfl, rfl, rfl, rfl, ⟨rfl, rfl, rfl, by omega, by omega⟩, trivial⟩, ⟨(emb_dsR rfl), trivial⟩, rfl, rfl, rfl⟩ rfl (by kernel_rfl) ?_
    refine r_bin (v := .bool true) (vx := .int .i64 40) (vy := .int .i64 0) rfl rfl rfl rfl (neq_t (by omega)) ?_
    refine r_pick (v := .bool true) rfl rfl rfl ?_
    refine r_pick (v := .bool true) rfl rfl rfl ?_
    refine r_assign (v := .bool true) rfl rfl rfl ?_
    refine r_doneN ?_
    refine x_then ?_
    refine c_seq ?_
    refine c_reg ?_
    refine r_callP (three05_ok (G := G) kk hG hG1 hne) (vals := []) (res' := .bool true) rfl rfl rfl rfl rfl rfl ?_
    refine r_move (v := .bool true) rfl rfl rfl ?_
    refine r_move (v := .bool true) rfl rfl rfl ?_
    refine r_pick (v := .bool true) rfl rfl rfl ?_
    refine r_move (v := .bool true) rfl rfl rfl ?_
    refine r_move (v := .bool true) rfl rfl rfl ?_
    refine r_pick (v := .bool true) rfl rfl rfl ?_
    refine r_move (v := .bool true) rfl rfl rfl ?_
    refine r_move (v := .bool true) rfl rfl rfl ?_
    refine r_pick (v := .bool true) rfl rfl rfl ?_
    refine r_assign (v := .bool true) rfl rfl rfl ?_
    refine r_doneN ?_
    refine x_then ?_
    refine c_ret ?_
    refine x_end ?_
    exact end_same (v := .bool true) rfl rfl rfl (by simp [keptB, dsR]) rfl
  refine r_bin (v := .bool false) (vx := .int .i64 size) (vy := .int .i64 100000) rfl rfl rfl rfl (gtr_f (by omega)) ?_
  refine r_pick (v := .bool false) rfl rfl rfl ?_
  refine r_move (v := .bool false) rfl rfl rfl ?_
  refine r_move (v := .int .i64 size) rfl rfl rfl ?_
  refine r_load (p := pt 1 0) (v := dgV root) rfl rfl rfl (by kernel_rfl) ?_
  refine r_move (v := .int .i64 size) rfl rfl rfl ?_
  refine r_load (p := pt 1 0) (v := dgV root) rfl rfl rfl (by kernel_rfl) ?_
  refine r_callN (e := [none]) (nid := 0) ((Consistent_ok (G := G) kk hG size root size root [] 0 0 rfl (by omega) (by omega) (by omega) (by omega) (by omega) (by omega)).res (congrArg (Value.int .i64) (alone_two kk (by omega) (by omega)))) (vals := [.int .i64 size, dgV root, .int .i64 size, dgV root, .slice none 0 0]) (v := .int .i64 0) (H' := [dsR ds, dgB root, dgB leaf]) rfl rfl rfl rfl rfl rfl rfl ⟨⟨rfl, rfl, rfl, rfl, ⟨rfl, rfl, rfl, rfl⟩, trivial⟩, ⟨⟨rfl, rfl, by show 0 < _; decide⟩, trivial⟩, rfl, rfl, rfl⟩ rfl (by kernel_rfl) ?_
  refine r_bin (v := .bool true) (vx := .int .i64 0) (vy := .int .i64 0) rfl rfl rfl rfl (eql_t (by omega)) ?_
  refine r_pick (v := .bool true) rfl rfl rfl ?_
  refine r_assign (v := .bool true) rfl rfl rfl ?_
  refine r_doneN ?_
  refine x_then ?_
  refine c_seq ?_
  refine c_reg ?_
  refine r_move (v := slv 0 0 n c) rfl rfl rfl ?_
  refine r_len (p := slv 0 0 n c) (v := .int .i64 (n : Nat)) rfl rfl rfl rfl ?_
  by_cases h12 : (n : Nat) ≤ 18
  · skip
    refine r_bin (v := .bool true) (vx := .int .i64 (n : Nat)) (vy := .int .i64 18) rfl rfl rfl rfl (leq_t (by omega)) ?_
    refine r_move (v := .bool true) rfl rfl rfl ?_
    refine r_skip rfl rfl ?_
    refine r_skip rfl rfl ?_
    refine r_skip rfl rfl ?_
    refine r_skip rfl rfl ?_
    refine r_skip rfl rfl ?_
    refine r_skip rfl rfl ?_
    refine r_skip rfl rfl ?_
    refine r_skip rfl rfl ?_
    refine r_skip rfl rfl ?_
    refine r_skip rfl rfl ?_
    refine r_skip rfl rfl ?_
    refine r_skip rfl rfl ?_
    refine r_skip rfl rfl ?_
    refine r_skip rfl rfl ?_
    refine r_skip rfl rfl ?_
    refine r_skip rfl rfl ?_
    refine r_pick (v := .bool true) rfl rfl rfl ?_
    refine r_assign (v := .bool true) rfl rfl rfl ?_
    refine r_doneN ?_
    refine x_then ?_
    refine c_seq ?_
    refine c_reg ?_
    refine r_callP (three05_ok (G := G) kk hG hG1 hne) (vals := []) (res' := .bool true) rfl rfl rfl rfl rfl rfl ?_
    refine r_move (v := .bool true) rfl rfl rfl ?_
    refine r_move (v := .bool true) rfl rfl rfl ?_
    refine r_pick (v := .bool true) rfl rfl rfl ?_
    refine r_move (v := .bool true) rfl rfl rfl ?_
    refine r_move (v := .bool true) rfl rfl rfl ?_
    refine r_pick (v := .bool true) rfl rfl rfl ?_
    refine r_move (v := .bool true) rfl rfl rfl ?_
    refine r_move (v := .bool true) rfl rfl rfl ?_
    refine r_pick (v := .bool true) rfl rfl rfl ?_
    refine r_assign (v := .bool true) rfl rfl rfl ?_
    refine r_doneN ?_
    refine x_then ?_
    refine c_ret ?_
    refine x_end ?_
    exact end_same (v := .bool true) rfl rfl rfl (by simp [keptB, dsR]) rfl
  refine r_bin (v := .bool false) (vx := .int .i64 (n : Nat)) (vy := .int .i64 18) rfl rfl rfl rfl (leq_f (by omega)) ?_
  refine r_move (v := .bool false) rfl rfl rfl ?_
  refine r_load (p := pt 1 0) (v := dgV root) rfl rfl rfl (by kernel_rfl) ?_
  refine r_move (v := .int .i64 size) rfl rfl rfl ?_
  refine r_move (v := .int .i64 index) rfl rfl rfl ?_
  refine r_load (p := pt 2 0) (v := dgV leaf) rfl rfl rfl (by kernel_rfl) ?_
  refine r_move (v := slv 0 0 n c) rfl rfl rfl ?_
  refine r_callN (e := [some (0, 0)]) (nid := 0) ((Included_ok (G := G) kk hG root leaf size index ds n c hn (by omega) (by omega) (by omega) (by omega) (by omega) (by omega)).res (congrArg (Value.int .i64) (inclE_len kk (by rw [hn]; omega)))) (vals := [dgV root, .int .i64 size, .int .i64 index, dgV leaf, slv 0 0 n c]) (v := .int .i64 40) (H' := [dsR ds, dgB root, dgB leaf]) rfl rfl rfl rfl rfl rfl rfl ⟨⟨rfl, rfl, rfl, rfl, ⟨rfl, rfl, rfl, by omega, by omega⟩, trivial⟩, ⟨(emb_dsR rfl), trivial⟩, rfl, rfl, rfl⟩ rfl (by kernel_rfl) ?_
  refine r_bin (v := .bool true) (vx := .int .i64 40) (vy := .int .i64 40) rfl rfl rfl rfl (eql_t (by omega)) ?_
  refine r_move (v := .bool true) rfl rfl rfl ?_
  refine r_move (v := .int .i64 index) rfl rfl rfl ?_
  refine r_load (p := pt 2 0) (v := dgV leaf) rfl rfl rfl (by kernel_rfl) ?_
  refine r_move (v := .int .i64 size) rfl rfl rfl ?_
  refine r_load (p := pt 1 0) (v := dgV root) rfl rfl rfl (by kernel_rfl) ?_
  refine r_move (v := slv 0 0 n c) rfl rfl rfl ?_
  refine r_callN (e := [some (0, 0)]) (nid := 0) ((Consistent_ok (G := G) kk hG index leaf size root ds n c hn (by omega) (by omega) (by omega) (by omega) (by omega) (by omega)).res (congrArg (Value.int .i64) (goesE_len kk (by rw [hn]; omega)))) (vals := [.int .i64 index, dgV leaf, .int .i64 size, dgV root, slv 0 0 n c]) (v := .int .i64 40) (H' := [dsR ds, dgB root, dgB leaf]) rfl rfl rfl rfl rfl rfl rfl ⟨⟨rfl, rfl, rfl, rfl, ⟨rfl, rfl, rfl, by omega, by omega⟩, trivial⟩, ⟨(emb_dsR rfl), trivial⟩, rfl, rfl, rfl⟩ rfl (by kernel_rfl) ?_
  refine r_bin (v := .bool true) (vx := .int .i64 40) (vy := .int .i64 0) rfl rfl rfl rfl (neq_t (by omega)) ?_
  refine r_pick (v := .bool true) rfl rfl rfl ?_
  refine r_pick (v := .bool true) rfl rfl rfl ?_
  refine r_assign (v := .bool true) rfl rfl rfl ?_
  refine r_doneN ?_
  refine x_then ?_
  refine c_seq ?_
  refine c_reg ?_
  refine r_callP (three05_ok (G := G) kk hG hG1 hne) (vals := []) (res' := .bool true) rfl rfl rfl rfl rfl rfl ?_
  refine r_move (v := .bool true) rfl rfl rfl ?_
  refine r_move (v := .bool true) rfl rfl rfl ?_
  refine r_pick (v := .bool true) rfl rfl rfl ?_
  refine r_move (v := .bool true) rfl rfl rfl ?_
  refine r_move (v := .bool true) rfl rfl rfl ?_
  refine r_pick (v := .bool true) rfl rfl rfl ?_
  refine r_move (v := .bool true) rfl rfl rfl ?_
  refine r_move (v := .bool true) rfl rfl rfl ?_
  refine r_pick (v := .bool true) rfl rfl rfl ?_
  refine r_assign (v := .bool true) rfl rfl rfl ?_
  refine r_doneN ?_
  refine x_then ?_
  refine c_ret ?_
  refine x_end ?_
  exact end_same (v := .bool true) rfl rfl rfl (by simp [keptB, dsR]) rfl
end Go.Flat
