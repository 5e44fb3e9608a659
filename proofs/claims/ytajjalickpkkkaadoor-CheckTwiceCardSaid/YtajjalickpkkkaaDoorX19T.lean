/- Walks and plain laws: what each theorem says, within the bounds that it names. -/
import Derived.Test.YtajjalickpkkkaaDoorX19
set_option linter.unusedVariables false
set_option linter.unusedSimpArgs false
namespace Go.Flat
open Go.Proofs
variable {G : Glob}
theorem CheckTwice_ok (kk : Nat → BitVec 32) (hG : G 1 = some (rowE w32 64 kk)) (hG1 : G 3 = some (rowE u8N 64 dbF)) (hne : sameB 32 (knotF kk (knotF kk (dg1 2) (dg1 2)) (dg1 3)) (knotF kk (knotF kk (dg1 1) (dg1 2)) (dg1 3)) = false) (ds : List D) (i k : Int) (n c : Nat) (hn : ds.length = n) (hc : n ≤ c) (i1 : -9223372036854775808 ≤ i) (i2 : i ≤ 9223372036854775807) (k1 : -9223372036854775808 ≤ k) (k2 : k ≤ 9223372036854775807) : CallL Tryd.prog G 8 [slv 0 0 n c, .int .i64 i, .int .i64 k] [dsR ds] (.bool true) [dsR ds] := by
  refine walk (fn := Tryd.f8) (nt := 106) rfl rfl rfl rfl ?_
  refine c_hole 6 (H' := [dsR ds, hole, hole, hole, hole, hole, hole]) rfl ?_
  refine c_seq ?_
  refine c_reg ?_
  refine r_assign (v := .bool false) rfl rfl rfl ?_
  refine r_doneN ?_
  refine x_then ?_
  refine c_seq ?_
  refine c_seq ?_
  refine c_reg ?_
  refine r_move (v := slv 0 0 n c) rfl rfl rfl ?_
  refine r_len (p := slv 0 0 n c) (v := .int .i64 (n : Nat)) rfl rfl rfl rfl ?_
  by_cases h1 : 200 < (n : Nat)
  · skip
    refine r_bin (v := .bool true) (vx := .int .i64 (n : Nat)) (vy := .int .i64 200) rfl rfl rfl rfl (gtr_t (by omega)) ?_
    refine r_move (v := .bool true) rfl rfl rfl ?_
    refine r_skip rfl rfl ?_
    refine r_skip rfl rfl ?_
    refine r_pick (v := .bool true) rfl rfl rfl ?_
    refine r_move (v := .bool true) rfl rfl rfl ?_
    refine r_skip rfl rfl ?_
    refine r_skip rfl rfl ?_
    refine r_skip rfl rfl ?_
    refine r_pick (v := .bool true) rfl rfl rfl ?_
    refine r_move (v := .bool true) rfl rfl rfl ?_
    refine r_skip rfl rfl ?_
    refine r_skip rfl rfl ?_
    refine r_skip rfl rfl ?_
    refine r_skip rfl rfl ?_
    refine r_pick (v := .bool true) rfl rfl rfl ?_
    refine r_doneN ?_
    refine x_then ?_
    refine c_true rfl ?_
    refine c_seq ?_
    refine c_reg ?_
    refine r_assign (v := .bool true) rfl rfl rfl ?_
    refine r_doneN ?_
    refine x_then ?_
    refine c_ret ?_
    refine x_thenR ?_
    refine x_end ?_
    exact end_same (v := .bool true) rfl rfl rfl (by simp [keptB, dsR]) rfl
  refine r_bin (v := .bool false) (vx := .int .i64 (n : Nat)) (vy := .int .i64 200) rfl rfl rfl rfl (gtr_f (by omega)) ?_
  refine r_move (v := .bool false) rfl rfl rfl ?_
  refine r_move (v := .int .i64 i) rfl rfl rfl ?_
  by_cases h2 : i < 0
  · skip
    refine r_bin (v := .bool true) (vx := .int .i64 i) (vy := .int .i64 0) rfl rfl rfl rfl (lss_t (by omega)) ?_
    refine r_pick (v := .bool true) rfl rfl rfl ?_
    refine r_move (v := .bool true) rfl rfl rfl ?_
    refine r_skip rfl rfl ?_
    refine r_skip rfl rfl ?_
    refine r_skip rfl rfl ?_
    refine r_pick (v := .bool true) rfl rfl rfl ?_
    refine r_move (v := .bool true) rfl rfl rfl ?_
    refine r_skip rfl rfl ?_
    refine r_skip rfl rfl ?_
    refine r_skip rfl rfl ?_
    refine r_skip rfl rfl ?_
    refine r_pick (v := .bool true) rfl rfl rfl ?_
    refine r_doneN ?_
    refine x_then ?_
    refine c_true rfl ?_
    refine c_seq ?_
    refine c_reg ?_
    refine r_assign (v := .bool true) rfl rfl rfl ?_
    refine r_doneN ?_
    refine x_then ?_
    refine c_ret ?_
    refine x_thenR ?_
    refine x_end ?_
    exact end_same (v := .bool true) rfl rfl rfl (by simp [keptB, dsR]) rfl
  refine r_bin (v := .bool false) (vx := .int .i64 i) (vy := .int .i64 0) rfl rfl rfl rfl (lss_f (by omega)) ?_
  refine r_pick (v := .bool false) rfl rfl rfl ?_
  refine r_move (v := .bool false) rfl rfl rfl ?_
  refine r_move (v := .int .i64 k) rfl rfl rfl ?_
  refine r_move (v := .int .i64 i) rfl rfl rfl ?_
  by_cases h3 : k < i
  · skip
    refine r_bin (v := .bool true) (vx := .int .i64 k) (vy := .int .i64 i) rfl rfl rfl rfl (lss_t (by omega)) ?_
    refine r_pick (v := .bool true) rfl rfl rfl ?_
    refine r_move (v := .bool true) rfl rfl rfl ?_
    refine r_skip rfl rfl ?_
    refine r_skip rfl rfl ?_
    refine r_skip rfl rfl ?_
    refine r_skip rfl rfl ?_
    refine r_pick (v := .bool true) rfl rfl rfl ?_
    refine r_doneN ?_
    refine x_then ?_
    refine c_true rfl ?_
    refine c_seq ?_
    refine c_reg ?_
    refine r_assign (v := .bool true) rfl rfl rfl ?_
    refine r_doneN ?_
    refine x_then ?_
    refine c_ret ?_
    refine x_thenR ?_
    refine x_end ?_
    exact end_same (v := .bool true) rfl rfl rfl (by simp [keptB, dsR]) rfl
  refine r_bin (v := .bool false) (vx := .int .i64 k) (vy := .int .i64 i) rfl rfl rfl rfl (lss_f (by omega)) ?_
  refine r_pick (v := .bool false) rfl rfl rfl ?_
  refine r_move (v := .bool false) rfl rfl rfl ?_
  refine r_move (v := .int .i64 k) rfl rfl rfl ?_
  refine r_move (v := slv 0 0 n c) rfl rfl rfl ?_
  refine r_len (p := slv 0 0 n c) (v := .int .i64 (n : Nat)) rfl rfl rfl rfl ?_
  by_cases h4 : (n : Nat) < k
  · skip
    refine r_bin (v := .bool true) (vx := .int .i64 k) (vy := .int .i64 (n : Nat)) rfl rfl rfl rfl (gtr_t (by omega)) ?_
    refine r_pick (v := .bool true) rfl rfl rfl ?_
    refine r_doneN ?_
    refine x_then ?_
    refine c_true rfl ?_
    refine c_seq ?_
    refine c_reg ?_
    refine r_assign (v := .bool true) rfl rfl rfl ?_
    refine r_doneN ?_
    refine x_then ?_
    refine c_ret ?_
    refine x_thenR ?_
    refine x_end ?_
    exact end_same (v := .bool true) rfl rfl rfl (by simp [keptB, dsR]) rfl
  refine r_bin (v := .bool false) (vx := .int .i64 k) (vy := .int .i64 (n : Nat)) rfl rfl rfl rfl (gtr_f (by omega)) ?_
  refine r_pick (v := .bool false) rfl rfl rfl ?_
  refine r_doneN ?_
  refine x_then ?_
  refine c_false rfl ?_
  refine c_skip ?_
  refine x_then ?_
  refine c_seq ?_
  obtain ⟨j, rfl⟩ : ∃ x0 : Nat, i = (x0 : Int) := ⟨i.toNat, by omega⟩
  obtain ⟨q, rfl⟩ : ∃ x0 : Nat, k = (x0 : Int) := ⟨k.toNat, by omega⟩
  refine c_reg ?_
  refine r_move (v := slv 0 0 n c) rfl rfl rfl ?_
  refine r_move (v := .int .i64 (q : Nat)) rfl rfl rfl ?_
  refine r_slice (p := slv 0 0 n c) (vl := none) (vh := some (.int .i64 (q : Nat))) (v := slv 0 0 q c) rfl rfl rfl rfl rfl (slice_hi (h := q) rfl rfl (by omega) (by omega) rfl) ?_
  refine r_move (v := .int .i64 (j : Nat)) rfl rfl rfl ?_
  by_cases h5 : (j : Nat) = 0
  · skip
    refine r_callN (e := [some (0, 0)]) (nid := 0) (Cons_zero (G := G) (sub ds 0 q) c q (sub_len (by have := hn; omega))) (vals := [slv 0 0 q c, .int .i64 (j : Nat)]) (v := .tuple #[.slice none 0 0, .int .i64 0]) (H' := [dsR ds, hole, hole, hole, hole, hole, hole]) rfl rfl rfl rfl rfl rfl rfl ⟨⟨⟨rfl, by omega, rfl, by omega, by omega⟩, (congrArg (Value.int .i64) (by omega)), trivial⟩, ⟨(emb_sub rfl (.inl rfl) (by have := hn; omega) (by omega)), trivial⟩, rfl, rfl, rfl⟩ (by kernel_rfl) (by kernel_rfl) ?_
    refine r_move (v := .tuple #[.slice none 0 0, .int .i64 0]) rfl rfl rfl ?_
    refine r_extract (vs := #[.slice none 0 0, .int .i64 0]) (v := .slice none 0 0) rfl rfl rfl rfl ?_
    refine r_extract (vs := #[.slice none 0 0, .int .i64 0]) (v := .int .i64 0) rfl rfl rfl rfl ?_
    refine r_assign (v := .slice none 0 0) rfl rfl rfl ?_
    refine r_assign (v := .int .i64 0) rfl rfl rfl ?_
    refine r_doneN ?_
    refine x_then ?_
    refine c_seq ?_
    refine c_reg ?_
    refine r_move (v := slv 0 0 n c) rfl rfl rfl ?_
    refine r_move (v := .int .i64 (q : Nat)) rfl rfl rfl ?_
    by_cases h6 : (q : Nat) = 0
    · skip
      refine r_callN (e := [some (0, 0)]) (nid := 0) (Cons_zero (G := G) ds c n hn) (vals := [slv 0 0 n c, .int .i64 (q : Nat)]) (v := .tuple #[.slice none 0 0, .int .i64 0]) (H' := [dsR ds, hole, hole, hole, hole, hole, hole]) rfl rfl rfl rfl rfl rfl rfl ⟨⟨⟨rfl, rfl, rfl, by omega, by omega⟩, (congrArg (Value.int .i64) (by omega)), trivial⟩, ⟨(emb_dsR rfl), trivial⟩, rfl, rfl, rfl⟩ (by kernel_rfl) (by kernel_rfl) ?_
      refine r_move (v := .tuple #[.slice none 0 0, .int .i64 0]) rfl rfl rfl ?_
      refine r_extract (vs := #[.slice none 0 0, .int .i64 0]) (v := .slice none 0 0) rfl rfl rfl rfl ?_
      refine r_extract (vs := #[.slice none 0 0, .int .i64 0]) (v := .int .i64 0) rfl rfl rfl rfl ?_
      refine r_assign (v := .slice none 0 0) rfl rfl rfl ?_
      refine r_assign (v := .int .i64 0) rfl rfl rfl ?_
      refine r_doneN ?_
      refine x_then ?_
      refine c_seq ?_
      refine c_reg ?_
      refine r_move (v := slv 0 0 n c) rfl rfl rfl ?_
      refine r_move (v := .int .i64 (j : Nat)) rfl rfl rfl ?_
      refine r_callN (e := [some (0, 0)]) (nid := 0) (Cons_zero (G := G) ds c n hn) (vals := [slv 0 0 n c, .int .i64 (j : Nat)]) (v := .tuple #[.slice none 0 0, .int .i64 0]) (H' := [dsR ds, hole, hole, hole, hole, hole, hole]) rfl rfl rfl rfl rfl rfl rfl ⟨⟨⟨rfl, rfl, rfl, by omega, by omega⟩, (congrArg (Value.int .i64) (by omega)), trivial⟩, ⟨(emb_dsR rfl), trivial⟩, rfl, rfl, rfl⟩ (by kernel_rfl) (by kernel_rfl) ?_
      refine r_move (v := .tuple #[.slice none 0 0, .int .i64 0]) rfl rfl rfl ?_
      refine r_extract (vs := #[.slice none 0 0, .int .i64 0]) (v := .slice none 0 0) rfl rfl rfl rfl ?_
      refine r_extract (vs := #[.slice none 0 0, .int .i64 0]) (v := .int .i64 0) rfl rfl rfl rfl ?_
      refine r_assign (v := .slice none 0 0) rfl rfl rfl ?_
      refine r_assign (v := .int .i64 0) rfl rfl rfl ?_
      refine r_doneN ?_
      refine x_then ?_
      refine c_seq ?_
      refine c_reg ?_
      refine r_move (v := slv 0 0 n c) rfl rfl rfl ?_
      refine r_move (v := .int .i64 (j : Nat)) rfl rfl rfl ?_
      refine r_slice (p := slv 0 0 n c) (vl := none) (vh := some (.int .i64 (j : Nat))) (v := slv 0 0 j c) rfl rfl rfl rfl rfl (slice_hi (h := j) rfl rfl (by omega) (by omega) rfl) ?_
      refine r_callN (e := [some (0, 0)]) (nid := 0) (Root_ok' (G := G) kk hG hG1 (sub ds 0 j) (c := c) (n := j) (sub_len (by have := hn; omega)) (by omega) (by omega) rfl) (vals := [slv 0 0 j c]) (v := dgV (rootI kk (sub ds 0 j))) (H' := [dsR ds, hole, hole, hole, hole, hole, hole]) rfl rfl rfl rfl rfl rfl rfl ⟨⟨⟨rfl, by omega, rfl, by omega, by omega⟩, trivial⟩, ⟨(emb_sub rfl (.inl rfl) (by have := hn; omega) (by omega)), trivial⟩, rfl, rfl, rfl⟩ (by kernel_rfl) (by kernel_rfl) ?_
      refine r_alloc (b := dgB dz) (nid := 1) (H' := [dsR ds, dgB dz, hole, hole, hole, hole, hole]) rfl rfl (by kernel_rfl) (by kernel_rfl) ?_
      refine r_store (p := pt 1 0) (v := dgV (rootI kk (sub ds 0 j))) (b := 1) (blk := dgB (rootI kk (sub ds 0 j))) (H' := [dsR ds, dgB (rootI kk (sub ds 0 j)), hole, hole, hole, hole, hole]) rfl rfl rfl (by kernel_rfl) (by kernel_rfl) ?_
      refine r_doneN ?_
      refine x_then ?_
      refine c_seq ?_
      refine c_reg ?_
      refine r_move (v := slv 0 0 n c) rfl rfl rfl ?_
      refine r_move (v := .int .i64 (q : Nat)) rfl rfl rfl ?_
      refine r_slice (p := slv 0 0 n c) (vl := none) (vh := some (.int .i64 (q : Nat))) (v := slv 0 0 q c) rfl rfl rfl rfl rfl (slice_hi (h := q) rfl rfl (by omega) (by omega) rfl) ?_
      refine r_callN (e := [some (0, 0)]) (nid := 0) (Root_ok' (G := G) kk hG hG1 (sub ds 0 q) (c := c) (n := q) (sub_len (by have := hn; omega)) (by omega) (by omega) rfl) (vals := [slv 0 0 q c]) (v := dgV (rootI kk (sub ds 0 q))) (H' := [dsR ds, dgB (rootI kk (sub ds 0 j)), hole, hole, hole, hole, hole]) rfl rfl rfl rfl rfl rfl rfl ⟨⟨⟨rfl, by omega, rfl, by omega, by omega⟩, trivial⟩, ⟨(emb_sub rfl (.inl rfl) (by have := hn; omega) (by omega)), trivial⟩, rfl, rfl, rfl⟩ (by kernel_rfl) (by kernel_rfl) ?_
      refine r_alloc (b := dgB dz) (nid := 2) (H' := [dsR ds, dgB (rootI kk (sub ds 0 j)), dgB dz, hole, hole, hole, hole]) rfl rfl (by kernel_rfl) (by kernel_rfl) ?_
      refine r_store (p := pt 2 0) (v := dgV (rootI kk (sub ds 0 q))) (b := 2) (blk := dgB (rootI kk (sub ds 0 q))) (H' := [dsR ds, dgB (rootI kk (sub ds 0 j)), dgB (rootI kk (sub ds 0 q)), hole, hole, hole, hole]) rfl rfl rfl (by kernel_rfl) (by kernel_rfl) ?_
      refine r_doneN ?_
      refine x_then ?_
      refine c_seq ?_
      refine c_reg ?_
      refine r_move (v := slv 0 0 n c) rfl rfl rfl ?_
      refine r_callN (e := [some (0, 0)]) (nid := 0) (Root_ok' (G := G) kk hG hG1 ds (c := c) (n := n) hn (by omega) (by omega) rfl) (vals := [slv 0 0 n c]) (v := dgV (rootI kk ds)) (H' := [dsR ds, dgB (rootI kk (sub ds 0 j)), dgB (rootI kk (sub ds 0 q)), hole, hole, hole, hole]) rfl rfl rfl rfl rfl rfl rfl ⟨⟨⟨rfl, rfl, rfl, by omega, by omega⟩, trivial⟩, ⟨(emb_dsR rfl), trivial⟩, rfl, rfl, rfl⟩ (by kernel_rfl) (by kernel_rfl) ?_
      refine r_alloc (b := dgB dz) (nid := 3) (H' := [dsR ds, dgB (rootI kk (sub ds 0 j)), dgB (rootI kk (sub ds 0 q)), dgB dz, hole, hole, hole]) rfl rfl (by kernel_rfl) (by kernel_rfl) ?_
      refine r_store (p := pt 3 0) (v := dgV (rootI kk ds)) (b := 3) (blk := dgB (rootI kk ds)) (H' := [dsR ds, dgB (rootI kk (sub ds 0 j)), dgB (rootI kk (sub ds 0 q)), dgB (rootI kk ds), hole, hole, hole]) rfl rfl rfl (by kernel_rfl) (by kernel_rfl) ?_
      refine r_doneN ?_
      refine x_then ?_
      refine c_seq ?_
      refine c_reg ?_
      refine r_callP (three05_ok (G := G) kk hG hG1 hne) (vals := []) (res' := .bool true) rfl rfl rfl rfl rfl rfl ?_
      refine r_move (v := .bool true) rfl rfl rfl ?_
      refine r_move (v := .int .i64 0) rfl rfl rfl ?_
      refine r_bin (v := .bool true) (vx := .int .i64 0) (vy := .int .i64 0) rfl rfl rfl rfl (eql_t (by omega)) ?_
      refine r_pick (v := .bool true) rfl rfl rfl ?_
      refine r_move (v := .bool true) rfl rfl rfl ?_
      refine r_move (v := .int .i64 0) rfl rfl rfl ?_
      refine r_bin (v := .bool true) (vx := .int .i64 0) (vy := .int .i64 0) rfl rfl rfl rfl (eql_t (by omega)) ?_
      refine r_pick (v := .bool true) rfl rfl rfl ?_
      refine r_move (v := .bool true) rfl rfl rfl ?_
      refine r_move (v := .int .i64 0) rfl rfl rfl ?_
      refine r_bin (v := .bool true) (vx := .int .i64 0) (vy := .int .i64 0) rfl rfl rfl rfl (eql_t (by omega)) ?_
      refine r_pick (v := .bool true) rfl rfl rfl ?_
      refine r_move (v := .bool true) rfl rfl rfl ?_
      refine r_move (v := .int .i64 (j : Nat)) rfl rfl rfl ?_
      refine r_load (p := pt 1 0) (v := dgV (rootI kk (sub ds 0 j))) rfl rfl rfl (by kernel_rfl) ?_
      refine r_move (v := .int .i64 (q : Nat)) rfl rfl rfl ?_
      refine r_load (p := pt 2 0) (v := dgV (rootI kk (sub ds 0 q))) rfl rfl rfl (by kernel_rfl) ?_
      refine r_move (v := .slice none 0 0) rfl rfl rfl ?_
      refine r_callN (e := [none]) (nid := 0) ((Consistent_ok (G := G) kk hG (j : Nat) (rootI kk (sub ds 0 j)) (q : Nat) (rootI kk (sub ds 0 q)) [] 0 0 rfl (by omega) (by omega) (by omega) (by omega) (by omega) (by omega)).res (congrArg (Value.int .i64) (goes_zero' kk (X := (sub ds 0 q)) (by omega) (root_subz kk (by omega)) rfl (by omega) (sub_len (by omega))))) (vals := [.int .i64 (j : Nat), dgV (rootI kk (sub ds 0 j)), .int .i64 (q : Nat), dgV (rootI kk (sub ds 0 q)), .slice none 0 0]) (v := .int .i64 0) (H' := [dsR ds, dgB (rootI kk (sub ds 0 j)), dgB (rootI kk (sub ds 0 q)), dgB (rootI kk ds), hole, hole, hole]) rfl rfl rfl rfl rfl rfl rfl ⟨⟨rfl, rfl, rfl, rfl, ⟨rfl, rfl, rfl, rfl⟩, trivial⟩, ⟨⟨rfl, rfl, by show 0 < _; decide⟩, trivial⟩, rfl, rfl, rfl⟩ rfl (by kernel_rfl) ?_
      refine r_bin (v := .bool true) (vx := .int .i64 0) (vy := .int .i64 0) rfl rfl rfl rfl (eql_t (by omega)) ?_
      refine r_pick (v := .bool true) rfl rfl rfl ?_
      refine r_move (v := .bool true) rfl rfl rfl ?_
      refine r_move (v := .int .i64 (q : Nat)) rfl rfl rfl ?_
      refine r_load (p := pt 2 0) (v := dgV (rootI kk (sub ds 0 q))) rfl rfl rfl (by kernel_rfl) ?_
      refine r_move (v := slv 0 0 n c) rfl rfl rfl ?_
      refine r_len (p := slv 0 0 n c) (v := .int .i64 (n : Nat)) rfl rfl rfl rfl ?_
      refine r_load (p := pt 3 0) (v := dgV (rootI kk ds)) rfl rfl rfl (by kernel_rfl) ?_
      refine r_move (v := .slice none 0 0) rfl rfl rfl ?_
      refine r_callN (e := [none]) (nid := 0) ((Consistent_ok (G := G) kk hG (q : Nat) (rootI kk (sub ds 0 q)) (n : Nat) (rootI kk ds) [] 0 0 rfl (by omega) (by omega) (by omega) (by omega) (by omega) (by omega)).res (congrArg (Value.int .i64) (goes_zero' kk (X := ds) (by omega) (root_subz kk (by omega)) rfl (by omega) hn))) (vals := [.int .i64 (q : Nat), dgV (rootI kk (sub ds 0 q)), .int .i64 (n : Nat), dgV (rootI kk ds), .slice none 0 0]) (v := .int .i64 0) (H' := [dsR ds, dgB (rootI kk (sub ds 0 j)), dgB (rootI kk (sub ds 0 q)), dgB (rootI kk ds), hole, hole, hole]) rfl rfl rfl rfl rfl rfl rfl ⟨⟨rfl, rfl, rfl, rfl, ⟨rfl, rfl, rfl, rfl⟩, trivial⟩, ⟨⟨rfl, rfl, by show 0 < _; decide⟩, trivial⟩, rfl, rfl, rfl⟩ rfl (by kernel_rfl) ?_
      refine r_bin (v := .bool true) (vx := .int .i64 0) (vy := .int .i64 0) rfl rfl rfl rfl (eql_t (by omega)) ?_
      refine r_pick (v := .bool true) rfl rfl rfl ?_
      refine r_move (v := .bool true) rfl rfl rfl ?_
      refine r_move (v := .int .i64 (j : Nat)) rfl rfl rfl ?_
      refine r_load (p := pt 1 0) (v := dgV (rootI kk (sub ds 0 j))) rfl rfl rfl (by kernel_rfl) ?_
      refine r_move (v := slv 0 0 n c) rfl rfl rfl ?_
      refine r_len (p := slv 0 0 n c) (v := .int .i64 (n : Nat)) rfl rfl rfl rfl ?_
      refine r_load (p := pt 3 0) (v := dgV (rootI kk ds)) rfl rfl rfl (by kernel_rfl) ?_
      refine r_move (v := .slice none 0 0) rfl rfl rfl ?_
      refine r_callN (e := [none]) (nid := 0) ((Consistent_ok (G := G) kk hG (j : Nat) (rootI kk (sub ds 0 j)) (n : Nat) (rootI kk ds) [] 0 0 rfl (by omega) (by omega) (by omega) (by omega) (by omega) (by omega)).res (congrArg (Value.int .i64) (goes_zero' kk (X := ds) (by omega) (root_subz kk (by omega)) rfl (by omega) hn))) (vals := [.int .i64 (j : Nat), dgV (rootI kk (sub ds 0 j)), .int .i64 (n : Nat), dgV (rootI kk ds), .slice none 0 0]) (v := .int .i64 0) (H' := [dsR ds, dgB (rootI kk (sub ds 0 j)), dgB (rootI kk (sub ds 0 q)), dgB (rootI kk ds), hole, hole, hole]) rfl rfl rfl rfl rfl rfl rfl ⟨⟨rfl, rfl, rfl, rfl, ⟨rfl, rfl, rfl, rfl⟩, trivial⟩, ⟨⟨rfl, rfl, by show 0 < _; decide⟩, trivial⟩, rfl, rfl, rfl⟩ rfl (by kernel_rfl) ?_
      refine r_bin (v := .bool true) (vx := .int .i64 0) (vy := .int .i64 0) rfl rfl rfl rfl (eql_t (by omega)) ?_
      refine r_pick (v := .bool true) rfl rfl rfl ?_
      refine r_assign (v := .bool true) rfl rfl rfl ?_
      refine r_doneN ?_
      refine x_then ?_
      refine c_ret ?_
      refine x_end ?_
      exact end_same (v := .bool true) rfl rfl rfl (by simp [keptB, dsR]) rfl
    refine r_callN (e := [some (0, 0)]) (nid := 1) (Cons_ok (G := G) kk hG hG1 ds c q (n := n) hn (by omega) (by omega) (by omega) (by omega) rfl) (vals := [slv 0 0 n c, .int .i64 (q : Nat)]) (v := .tuple #[slv 1 0 ((consP kk ds q).length) ((consP kk ds q).length), .int .i64 0]) (H' := [dsR ds, dsB (consP kk ds q), hole, hole, hole, hole, hole]) rfl rfl rfl rfl rfl rfl rfl ⟨⟨⟨rfl, rfl, rfl, by omega, by omega⟩, rfl, trivial⟩, ⟨(emb_dsR rfl), trivial⟩, rfl, rfl, rfl⟩ (by kernel_rfl) (by kernel_rfl) ?_
    refine r_move (v := .tuple #[slv 1 0 ((consP kk ds q).length) ((consP kk ds q).length), .int .i64 0]) rfl rfl rfl ?_
    refine r_extract (vs := #[slv 1 0 ((consP kk ds q).length) ((consP kk ds q).length), .int .i64 0]) (v := slv 1 0 ((consP kk ds q).length) ((consP kk ds q).length)) rfl rfl rfl rfl ?_
    refine r_extract (vs := #[slv 1 0 ((consP kk ds q).length) ((consP kk ds q).length), .int .i64 0]) (v := .int .i64 0) rfl rfl rfl rfl ?_
    refine r_assign (v := slv 1 0 ((consP kk ds q).length) ((consP kk ds q).length)) rfl rfl rfl ?_
    refine r_assign (v := .int .i64 0) rfl rfl rfl ?_
    refine r_doneN ?_
    refine x_then ?_
    refine c_seq ?_
    refine c_reg ?_
    refine r_move (v := slv 0 0 n c) rfl rfl rfl ?_
    refine r_move (v := .int .i64 (j : Nat)) rfl rfl rfl ?_
    refine r_callN (e := [some (0, 0)]) (nid := 0) (Cons_zero (G := G) ds c n hn) (vals := [slv 0 0 n c, .int .i64 (j : Nat)]) (v := .tuple #[.slice none 0 0, .int .i64 0]) (H' := [dsR ds, dsB (consP kk ds q), hole, hole, hole, hole, hole]) rfl rfl rfl rfl rfl rfl rfl ⟨⟨⟨rfl, rfl, rfl, by omega, by omega⟩, (congrArg (Value.int .i64) (by omega)), trivial⟩, ⟨(emb_dsR rfl), trivial⟩, rfl, rfl, rfl⟩ (by kernel_rfl) (by kernel_rfl) ?_
    refine r_move (v := .tuple #[.slice none 0 0, .int .i64 0]) rfl rfl rfl ?_
    refine r_extract (vs := #[.slice none 0 0, .int .i64 0]) (v := .slice none 0 0) rfl rfl rfl rfl ?_
    refine r_extract (vs := #[.slice none 0 0, .int .i64 0]) (v := .int .i64 0) rfl rfl rfl rfl ?_
    refine r_assign (v := .slice none 0 0) rfl rfl rfl ?_
    refine r_assign (v := .int .i64 0) rfl rfl rfl ?_
    refine r_doneN ?_
    refine x_then ?_
    refine c_seq ?_
    refine c_reg ?_
    refine r_move (v := slv 0 0 n c) rfl rfl rfl ?_
    refine r_move (v := .int .i64 (j : Nat)) rfl rfl rfl ?_
    refine r_slice (p := slv 0 0 n c) (vl := none) (vh := some (.int .i64 (j : Nat))) (v := slv 0 0 j c) rfl rfl rfl rfl rfl (slice_hi (h := j) rfl rfl (by omega) (by omega) rfl) ?_
    refine r_callN (e := [some (0, 0)]) (nid := 0) (Root_ok' (G := G) kk hG hG1 (sub ds 0 j) (c := c) (n := j) (sub_len (by have := hn; omega)) (by omega) (by omega) rfl) (vals := [slv 0 0 j c]) (v := dgV (rootI kk (sub ds 0 j))) (H' := [dsR ds, dsB (consP kk ds q), hole, hole, hole, hole, hole]) rfl rfl rfl rfl rfl rfl rfl ⟨⟨⟨rfl, by omega, rfl, by omega, by omega⟩, trivial⟩, ⟨(emb_sub rfl (.inl rfl) (by have := hn; omega) (by omega)), trivial⟩, rfl, rfl, rfl⟩ (by kernel_rfl) (by kernel_rfl) ?_
    refine r_alloc (b := dgB dz) (nid := 2) (H' := [dsR ds, dsB (consP kk ds q), dgB dz, hole, hole, hole, hole]) rfl rfl (by kernel_rfl) (by kernel_rfl) ?_
    refine r_store (p := pt 2 0) (v := dgV (rootI kk (sub ds 0 j))) (b := 2) (blk := dgB (rootI kk (sub ds 0 j))) (H' := [dsR ds, dsB (consP kk ds q), dgB (rootI kk (sub ds 0 j)), hole, hole, hole, hole]) rfl rfl rfl (by kernel_rfl) (by kernel_rfl) ?_
    refine r_doneN ?_
    refine x_then ?_
    refine c_seq ?_
    refine c_reg ?_
    refine r_move (v := slv 0 0 n c) rfl rfl rfl ?_
    refine r_move (v := .int .i64 (q : Nat)) rfl rfl rfl ?_
    refine r_slice (p := slv 0 0 n c) (vl := none) (vh := some (.int .i64 (q : Nat))) (v := slv 0 0 q c) rfl rfl rfl rfl rfl (slice_hi (h := q) rfl rfl (by omega) (by omega) rfl) ?_
    refine r_callN (e := [some (0, 0)]) (nid := 0) (Root_ok' (G := G) kk hG hG1 (sub ds 0 q) (c := c) (n := q) (sub_len (by have := hn; omega)) (by omega) (by omega) rfl) (vals := [slv 0 0 q c]) (v := dgV (rootI kk (sub ds 0 q))) (H' := [dsR ds, dsB (consP kk ds q), dgB (rootI kk (sub ds 0 j)), hole, hole, hole, hole]) rfl rfl rfl rfl rfl rfl rfl ⟨⟨⟨rfl, by omega, rfl, by omega, by omega⟩, trivial⟩, ⟨(emb_sub rfl (.inl rfl) (by have := hn; omega) (by omega)), trivial⟩, rfl, rfl, rfl⟩ (by kernel_rfl) (by kernel_rfl) ?_
    refine r_alloc (b := dgB dz) (nid := 3) (H' := [dsR ds, dsB (consP kk ds q), dgB (rootI kk (sub ds 0 j)), dgB dz, hole, hole, hole]) rfl rfl (by kernel_rfl) (by kernel_rfl) ?_
    refine r_store (p := pt 3 0) (v := dgV (rootI kk (sub ds 0 q))) (b := 3) (blk := dgB (rootI kk (sub ds 0 q))) (H' := [dsR ds, dsB (consP kk ds q), dgB (rootI kk (sub ds 0 j)), dgB (rootI kk (sub ds 0 q)), hole, hole, hole]) rfl rfl rfl (by kernel_rfl) (by kernel_rfl) ?_
    refine r_doneN ?_
    refine x_then ?_
    refine c_seq ?_
    refine c_reg ?_
    refine r_move (v := slv 0 0 n c) rfl rfl rfl ?_
    refine r_callN (e := [some (0, 0)]) (nid := 0) (Root_ok' (G := G) kk hG hG1 ds (c := c) (n := n) hn (by omega) (by omega) rfl) (vals := [slv 0 0 n c]) (v := dgV (rootI kk ds)) (H' := [dsR ds, dsB (consP kk ds q), dgB (rootI kk (sub ds 0 j)), dgB (rootI kk (sub ds 0 q)), hole, hole, hole]) rfl rfl rfl rfl rfl rfl rfl ⟨⟨⟨rfl, rfl, rfl, by omega, by omega⟩, trivial⟩, ⟨(emb_dsR rfl), trivial⟩, rfl, rfl, rfl⟩ (by kernel_rfl) (by kernel_rfl) ?_
    refine r_alloc (b := dgB dz) (nid := 4) (H' := [dsR ds, dsB (consP kk ds q), dgB (rootI kk (sub ds 0 j)), dgB (rootI kk (sub ds 0 q)), dgB dz, hole, hole]) rfl rfl (by kernel_rfl) (by kernel_rfl) ?_
    refine r_store (p := pt 4 0) (v := dgV (rootI kk ds)) (b := 4) (blk := dgB (rootI kk ds)) (H' := [dsR ds, dsB (consP kk ds q), dgB (rootI kk (sub ds 0 j)), dgB (rootI kk (sub ds 0 q)), dgB (rootI kk ds), hole, hole]) rfl rfl rfl (by kernel_rfl) (by kernel_rfl) ?_
    refine r_doneN ?_
    refine x_then ?_
    refine c_seq ?_
    refine c_reg ?_
    refine r_callP (three05_ok (G := G) kk hG hG1 hne) (vals := []) (res' := .bool true) rfl rfl rfl rfl rfl rfl ?_
    refine r_move (v := .bool true) rfl rfl rfl ?_
    refine r_move (v := .int .i64 0) rfl rfl rfl ?_
    refine r_bin (v := .bool true) (vx := .int .i64 0) (vy := .int .i64 0) rfl rfl rfl rfl (eql_t (by omega)) ?_
    refine r_pick (v := .bool true) rfl rfl rfl ?_
    refine r_move (v := .bool true) rfl rfl rfl ?_
    refine r_move (v := .int .i64 0) rfl rfl rfl ?_
    refine r_bin (v := .bool true) (vx := .int .i64 0) (vy := .int .i64 0) rfl rfl rfl rfl (eql_t (by omega)) ?_
    refine r_pick (v := .bool true) rfl rfl rfl ?_
    refine r_move (v := .bool true) rfl rfl rfl ?_
    refine r_move (v := .int .i64 0) rfl rfl rfl ?_
    refine r_bin (v := .bool true) (vx := .int .i64 0) (vy := .int .i64 0) rfl rfl rfl rfl (eql_t (by omega)) ?_
    refine r_pick (v := .bool true) rfl rfl rfl ?_
    refine r_move (v := .bool true) rfl rfl rfl ?_
    refine r_move (v := .int .i64 (j : Nat)) rfl rfl rfl ?_
    refine r_load (p := pt 2 0) (v := dgV (rootI kk (sub ds 0 j))) rfl rfl rfl (by kernel_rfl) ?_
    refine r_move (v := .int .i64 (q : Nat)) rfl rfl rfl ?_
    refine r_load (p := pt 3 0) (v := dgV (rootI kk (sub ds 0 q))) rfl rfl rfl (by kernel_rfl) ?_
    refine r_move (v := .slice none 0 0) rfl rfl rfl ?_
    refine r_callN (e := [none]) (nid := 0) ((Consistent_ok (G := G) kk hG (j : Nat) (rootI kk (sub ds 0 j)) (q : Nat) (rootI kk (sub ds 0 q)) [] 0 0 rfl (by omega) (by omega) (by omega) (by omega) (by omega) (by omega)).res (congrArg (Value.int .i64) (goes_zero' kk (X := (sub ds 0 q)) (by omega) (root_subz kk (by omega)) rfl (by omega) (sub_len (by omega))))) (vals := [.int .i64 (j : Nat), dgV (rootI kk (sub ds 0 j)), .int .i64 (q : Nat), dgV (rootI kk (sub ds 0 q)), .slice none 0 0]) (v := .int .i64 0) (H' := [dsR ds, dsB (consP kk ds q), dgB (rootI kk (sub ds 0 j)), dgB (rootI kk (sub ds 0 q)), dgB (rootI kk ds), hole, hole]) rfl rfl rfl rfl rfl rfl rfl ⟨⟨rfl, rfl, rfl, rfl, ⟨rfl, rfl, rfl, rfl⟩, trivial⟩, ⟨⟨rfl, rfl, by show 0 < _; decide⟩, trivial⟩, rfl, rfl, rfl⟩ rfl (by kernel_rfl) ?_
    refine r_bin (v := .bool true) (vx := .int .i64 0) (vy := .int .i64 0) rfl rfl rfl rfl (eql_t (by omega)) ?_
    refine r_pick (v := .bool true) rfl rfl rfl ?_
    refine r_move (v := .bool true) rfl rfl rfl ?_
    refine r_move (v := .int .i64 (q : Nat)) rfl rfl rfl ?_
    refine r_load (p := pt 3 0) (v := dgV (rootI kk (sub ds 0 q))) rfl rfl rfl (by kernel_rfl) ?_
    refine r_move (v := slv 0 0 n c) rfl rfl rfl ?_
    refine r_len (p := slv 0 0 n c) (v := .int .i64 (n : Nat)) rfl rfl rfl rfl ?_
    refine r_load (p := pt 4 0) (v := dgV (rootI kk ds)) rfl rfl rfl (by kernel_rfl) ?_
    refine r_move (v := slv 1 0 ((consP kk ds q).length) ((consP kk ds q).length)) rfl rfl rfl ?_
    refine r_callN (e := [some (1, 0)]) (nid := 0) ((Consistent_ok (G := G) kk hG (q : Nat) (rootI kk (sub ds 0 q)) (n : Nat) (rootI kk ds) (consP kk ds q) ((consP kk ds q).length) ((consP kk ds q).length) rfl (Nat.le_trans (consP_short kk 8 ds _ (by omega) (by rw [hn]; omega)) (by decide)) (by omega) (by omega) (by omega) (by omega) (by omega)).res (congrArg (Value.int .i64) (finds_goes' kk (l := ds) hn (by omega) (by omega) (by omega) (sub_eqt ds _).symm rfl))) (vals := [.int .i64 (q : Nat), dgV (rootI kk (sub ds 0 q)), .int .i64 (n : Nat), dgV (rootI kk ds), slv 1 0 ((consP kk ds q).length) ((consP kk ds q).length)]) (v := .int .i64 0) (H' := [dsR ds, dsB (consP kk ds q), dgB (rootI kk (sub ds 0 j)), dgB (rootI kk (sub ds 0 q)), dgB (rootI kk ds), hole, hole]) rfl rfl rfl rfl rfl rfl rfl ⟨⟨rfl, rfl, rfl, rfl, ⟨rfl, rfl, rfl, by omega, by omega⟩, trivial⟩, ⟨(emb_dsB rfl), trivial⟩, rfl, rfl, rfl⟩ rfl (by kernel_rfl) ?_
    refine r_bin (v := .bool true) (vx := .int .i64 0) (vy := .int .i64 0) rfl rfl rfl rfl (eql_t (by omega)) ?_
    refine r_pick (v := .bool true) rfl rfl rfl ?_
    refine r_move (v := .bool true) rfl rfl rfl ?_
    refine r_move (v := .int .i64 (j : Nat)) rfl rfl rfl ?_
    refine r_load (p := pt 2 0) (v := dgV (rootI kk (sub ds 0 j))) rfl rfl rfl (by kernel_rfl) ?_
    refine r_move (v := slv 0 0 n c) rfl rfl rfl ?_
    refine r_len (p := slv 0 0 n c) (v := .int .i64 (n : Nat)) rfl rfl rfl rfl ?_
    refine r_load (p := pt 4 0) (v := dgV (rootI kk ds)) rfl rfl rfl (by kernel_rfl) ?_
    refine r_move (v := .slice none 0 0) rfl rfl rfl ?_
    refine r_callN (e := [none]) (nid := 0) ((Consistent_ok (G := G) kk hG (j : Nat) (rootI kk (sub ds 0 j)) (n : Nat) (rootI kk ds) [] 0 0 rfl (by omega) (by omega) (by omega) (by omega) (by omega) (by omega)).res (congrArg (Value.int .i64) (goes_zero' kk (X := ds) (by omega) (root_subz kk (by omega)) rfl (by omega) hn))) (vals := [.int .i64 (j : Nat), dgV (rootI kk (sub ds 0 j)), .int .i64 (n : Nat), dgV (rootI kk ds), .slice none 0 0]) (v := .int .i64 0) (H' := [dsR ds, dsB (consP kk ds q), dgB (rootI kk (sub ds 0 j)), dgB (rootI kk (sub ds 0 q)), dgB (rootI kk ds), hole, hole]) rfl rfl rfl rfl rfl rfl rfl ⟨⟨rfl, rfl, rfl, rfl, ⟨rfl, rfl, rfl, rfl⟩, trivial⟩, ⟨⟨rfl, rfl, by show 0 < _; decide⟩, trivial⟩, rfl, rfl, rfl⟩ rfl (by kernel_rfl) ?_
    refine r_bin (v := .bool true) (vx := .int .i64 0) (vy := .int .i64 0) rfl rfl rfl rfl (eql_t (by omega)) ?_
    refine r_pick (v := .bool true) rfl rfl rfl ?_
    refine r_assign (v := .bool true) rfl rfl rfl ?_
    refine r_doneN ?_
    refine x_then ?_
    refine c_ret ?_
    refine x_end ?_
    exact end_same (v := .bool true) rfl rfl rfl (by simp [keptB, dsR]) rfl
  refine r_callN (e := [some (0, 0)]) (nid := 1) (Cons_ok (G := G) kk hG hG1 (sub ds 0 q) c j (n := q) (sub_len (by have := hn; omega)) (by omega) (by omega) (by omega) (by omega) rfl) (vals := [slv 0 0 q c, .int .i64 (j : Nat)]) (v := .tuple #[slv 1 0 ((consP kk (sub ds 0 q) j).length) ((consP kk (sub ds 0 q) j).length), .int .i64 0]) (H' := [dsR ds, dsB (consP kk (sub ds 0 q) j), hole, hole, hole, hole, hole]) rfl rfl rfl rfl rfl rfl rfl ⟨⟨⟨rfl, by omega, rfl, by omega, by omega⟩, rfl, trivial⟩, ⟨(emb_sub rfl (.inl rfl) (by have := hn; omega) (by omega)), trivial⟩, rfl, rfl, rfl⟩ (by kernel_rfl) (by kernel_rfl) ?_
  refine r_move (v := .tuple #[slv 1 0 ((consP kk (sub ds 0 q) j).length) ((consP kk (sub ds 0 q) j).length), .int .i64 0]) rfl rfl rfl ?_
  refine r_extract (vs := #[slv 1 0 ((consP kk (sub ds 0 q) j).length) ((consP kk (sub ds 0 q) j).length), .int .i64 0]) (v := slv 1 0 ((consP kk (sub ds 0 q) j).length) ((consP kk (sub ds 0 q) j).length)) rfl rfl rfl rfl ?_
  refine r_extract (vs := #[slv 1 0 ((consP kk (sub ds 0 q) j).length) ((consP kk (sub ds 0 q) j).length), .int .i64 0]) (v := .int .i64 0) rfl rfl rfl rfl ?_
  refine r_assign (v := slv 1 0 ((consP kk (sub ds 0 q) j).length) ((consP kk (sub ds 0 q) j).length)) rfl rfl rfl ?_
  refine r_assign (v := .int .i64 0) rfl rfl rfl ?_
  refine r_doneN ?_
  refine x_then ?_
  refine c_seq ?_
  refine c_reg ?_
  refine r_move (v := slv 0 0 n c) rfl rfl rfl ?_
  refine r_move (v := .int .i64 (q : Nat)) rfl rfl rfl ?_
  refine r_callN (e := [some (0, 0)]) (nid := 2) (Cons_ok (G := G) kk hG hG1 ds c q (n := n) hn (by omega) (by omega) (by omega) (by omega) rfl) (vals := [slv 0 0 n c, .int .i64 (q : Nat)]) (v := .tuple #[slv 2 0 ((consP kk ds q).length) ((consP kk ds q).length), .int .i64 0]) (H' := [dsR ds, dsB (consP kk (sub ds 0 q) j), dsB (consP kk ds q), hole, hole, hole, hole]) rfl rfl rfl rfl rfl rfl rfl ⟨⟨⟨rfl, rfl, rfl, by omega, by omega⟩, rfl, trivial⟩, ⟨(emb_dsR rfl), trivial⟩, rfl, rfl, rfl⟩ (by kernel_rfl) (by kernel_rfl) ?_
  refine r_move (v := .tuple #[slv 2 0 ((consP kk ds q).length) ((consP kk ds q).length), .int .i64 0]) rfl rfl rfl ?_
  refine r_extract (vs := #[slv 2 0 ((consP kk ds q).length) ((consP kk ds q).length), .int .i64 0]) (v := slv 2 0 ((consP kk ds q).length) ((consP kk ds q).length)) rfl rfl rfl rfl ?_
  refine r_extract (vs := #[slv 2 0 ((consP kk ds q).length) ((consP kk ds q).length), .int .i64 0]) (v := .int .i64 0) rfl rfl rfl rfl ?_
  refine r_assign (v := slv 2 0 ((consP kk ds q).length) ((consP kk ds q).length)) rfl rfl rfl ?_
  refine r_assign (v := .int .i64 0) rfl rfl rfl ?_
  refine r_doneN ?_
  refine x_then ?_
  refine c_seq ?_
  refine c_reg ?_
  refine r_move (v := slv 0 0 n c) rfl rfl rfl ?_
  refine r_move (v := .int .i64 (j : Nat)) rfl rfl rfl ?_
  refine r_callN (e := [some (0, 0)]) (nid := 3) (Cons_ok (G := G) kk hG hG1 ds c j (n := n) hn (by omega) (by omega) (by omega) (by omega) rfl) (vals := [slv 0 0 n c, .int .i64 (j : Nat)]) (v := .tuple #[slv 3 0 ((consP kk ds j).length) ((consP kk ds j).length), .int .i64 0]) (H' := [dsR ds, dsB (consP kk (sub ds 0 q) j), dsB (consP kk ds q), dsB (consP kk ds j), hole, hole, hole]) rfl rfl rfl rfl rfl rfl rfl ⟨⟨⟨rfl, rfl, rfl, by omega, by omega⟩, rfl, trivial⟩, ⟨(emb_dsR rfl), trivial⟩, rfl, rfl, rfl⟩ (by kernel_rfl) (by kernel_rfl) ?_
  refine r_move (v := .tuple #[slv 3 0 ((consP kk ds j).length) ((consP kk ds j).length), .int .i64 0]) rfl rfl rfl ?_
  refine r_extract (vs := #[slv 3 0 ((consP kk ds j).length) ((consP kk ds j).length), .int .i64 0]) (v := slv 3 0 ((consP kk ds j).length) ((consP kk ds j).length)) rfl rfl rfl rfl ?_
  refine r_extract (vs := #[slv 3 0 ((consP kk ds j).length) ((consP kk ds j).length), .int .i64 0]) (v := .int .i64 0) rfl rfl rfl rfl ?_
  refine r_assign (v := slv 3 0 ((consP kk ds j).length) ((consP kk ds j).length)) rfl rfl rfl ?_
  refine r_assign (v := .int .i64 0) rfl rfl rfl ?_
  refine r_doneN ?_
  refine x_then ?_
  refine c_seq ?_
  refine c_reg ?_
  refine r_move (v := slv 0 0 n c) rfl rfl rfl ?_
  refine r_move (v := .int .i64 (j : Nat)) rfl rfl rfl ?_
  refine r_slice (p := slv 0 0 n c) (vl := none) (vh := some (.int .i64 (j : Nat))) (v := slv 0 0 j c) rfl rfl rfl rfl rfl (slice_hi (h := j) rfl rfl (by omega) (by omega) rfl) ?_
  refine r_callN (e := [some (0, 0)]) (nid := 0) (Root_ok' (G := G) kk hG hG1 (sub ds 0 j) (c := c) (n := j) (sub_len (by have := hn; omega)) (by omega) (by omega) rfl) (vals := [slv 0 0 j c]) (v := dgV (rootI kk (sub ds 0 j))) (H' := [dsR ds, dsB (consP kk (sub ds 0 q) j), dsB (consP kk ds q), dsB (consP kk ds j), hole, hole, hole]) rfl rfl rfl rfl rfl rfl rfl ⟨⟨⟨rfl, by omega, rfl, by omega, by omega⟩, trivial⟩, ⟨(emb_sub rfl (.inl rfl) (by have := hn; omega) (by omega)), trivial⟩, rfl, rfl, rfl⟩ (by kernel_rfl) (by kernel_rfl) ?_
  refine r_alloc (b := dgB dz) (nid := 4) (H' := [dsR ds, dsB (consP kk (sub ds 0 q) j), dsB (consP kk ds q), dsB (consP kk ds j), dgB dz, hole, hole]) rfl rfl (by kernel_rfl) (by kernel_rfl) ?_
  refine r_store (p := pt 4 0) (v := dgV (rootI kk (sub ds 0 j))) (b := 4) (blk := dgB (rootI kk (sub ds 0 j))) (H' := [dsR ds, dsB (consP kk (sub ds 0 q) j), dsB (consP kk ds q), dsB (consP kk ds j), dgB (rootI kk (sub ds 0 j)), hole, hole]) rfl rfl rfl (by kernel_rfl) (by kernel_rfl) ?_
  refine r_doneN ?_
  refine x_then ?_
  refine c_seq ?_
  refine c_reg ?_
  refine r_move (v := slv 0 0 n c) rfl rfl rfl ?_
  refine r_move (v := .int .i64 (q : Nat)) rfl rfl rfl ?_
  refine r_slice (p := slv 0 0 n c) (vl := none) (vh := some (.int .i64 (q : Nat))) (v := slv 0 0 q c) rfl rfl rfl rfl rfl (slice_hi (h := q) rfl rfl (by omega) (by omega) rfl) ?_
  refine r_callN (e := [some (0, 0)]) (nid := 0) (Root_ok' (G := G) kk hG hG1 (sub ds 0 q) (c := c) (n := q) (sub_len (by have := hn; omega)) (by omega) (by omega) rfl) (vals := [slv 0 0 q c]) (v := dgV (rootI kk (sub ds 0 q))) (H' := [dsR ds, dsB (consP kk (sub ds 0 q) j), dsB (consP kk ds q), dsB (consP kk ds j), dgB (rootI kk (sub ds 0 j)), hole, hole]) rfl rfl rfl rfl rfl rfl rfl ⟨⟨⟨rfl, by omega, rfl, by omega, by omega⟩, trivial⟩, ⟨(emb_sub rfl (.inl rfl) (by have := hn; omega) (by omega)), trivial⟩, rfl, rfl, rfl⟩ (by kernel_rfl) (by kernel_rfl) ?_
  refine r_alloc (b := dgB dz) (nid := 5) (H' := [dsR ds, dsB (consP kk (sub ds 0 q) j), dsB (consP kk ds q), dsB (consP kk ds j), dgB (rootI kk (sub ds 0 j)), dgB dz, hole]) rfl rfl (by kernel_rfl) (by kernel_rfl) ?_
  refine r_store (p := pt 5 0) (v := dgV (rootI kk (sub ds 0 q))) (b := 5) (blk := dgB (rootI kk (sub ds 0 q))) (H' := [dsR ds, dsB (consP kk (sub ds 0 q) j), dsB (consP kk ds q), dsB (consP kk ds j), dgB (rootI kk (sub ds 0 j)), dgB (rootI kk (sub ds 0 q)), hole]) rfl rfl rfl (by kernel_rfl) (by kernel_rfl) ?_
  refine r_doneN ?_
  refine x_then ?_
  refine c_seq ?_
  refine c_reg ?_
  refine r_move (v := slv 0 0 n c) rfl rfl rfl ?_
  refine r_callN (e := [some (0, 0)]) (nid := 0) (Root_ok' (G := G) kk hG hG1 ds (c := c) (n := n) hn (by omega) (by omega) rfl) (vals := [slv 0 0 n c]) (v := dgV (rootI kk ds)) (H' := [dsR ds, dsB (consP kk (sub ds 0 q) j), dsB (consP kk ds q), dsB (consP kk ds j), dgB (rootI kk (sub ds 0 j)), dgB (rootI kk (sub ds 0 q)), hole]) rfl rfl rfl rfl rfl rfl rfl ⟨⟨⟨rfl, rfl, rfl, by omega, by omega⟩, trivial⟩, ⟨(emb_dsR rfl), trivial⟩, rfl, rfl, rfl⟩ (by kernel_rfl) (by kernel_rfl) ?_
  refine r_alloc (b := dgB dz) (nid := 6) (H' := [dsR ds, dsB (consP kk (sub ds 0 q) j), dsB (consP kk ds q), dsB (consP kk ds j), dgB (rootI kk (sub ds 0 j)), dgB (rootI kk (sub ds 0 q)), dgB dz]) rfl rfl (by kernel_rfl) (by kernel_rfl) ?_
  refine r_store (p := pt 6 0) (v := dgV (rootI kk ds)) (b := 6) (blk := dgB (rootI kk ds)) (H' := [dsR ds, dsB (consP kk (sub ds 0 q) j), dsB (consP kk ds q), dsB (consP kk ds j), dgB (rootI kk (sub ds 0 j)), dgB (rootI kk (sub ds 0 q)), dgB (rootI kk ds)]) rfl rfl rfl (by kernel_rfl) (by kernel_rfl) ?_
  refine r_doneN ?_
  refine x_then ?_
  refine c_seq ?_
  refine c_reg ?_
  refine r_callP (three05_ok (G := G) kk hG hG1 hne) (vals := []) (res' := .bool true) rfl rfl rfl rfl rfl rfl ?_
  refine r_move (v := .bool true) rfl rfl rfl ?_
  refine r_move (v := .int .i64 0) rfl rfl rfl ?_
  refine r_bin (v := .bool true) (vx := .int .i64 0) (vy := .int .i64 0) rfl rfl rfl rfl (eql_t (by omega)) ?_
  refine r_pick (v := .bool true) rfl rfl rfl ?_
  refine r_move (v := .bool true) rfl rfl rfl ?_
  refine r_move (v := .int .i64 0) rfl rfl rfl ?_
  refine r_bin (v := .bool true) (vx := .int .i64 0) (vy := .int .i64 0) rfl rfl rfl rfl (eql_t (by omega)) ?_
  refine r_pick (v := .bool true) rfl rfl rfl ?_
  refine r_move (v := .bool true) rfl rfl rfl ?_
  refine r_move (v := .int .i64 0) rfl rfl rfl ?_
  refine r_bin (v := .bool true) (vx := .int .i64 0) (vy := .int .i64 0) rfl rfl rfl rfl (eql_t (by omega)) ?_
  refine r_pick (v := .bool true) rfl rfl rfl ?_
  refine r_move (v := .bool true) rfl rfl rfl ?_
  refine r_move (v := .int .i64 (j : Nat)) rfl rfl rfl ?_
  refine r_load (p := pt 4 0) (v := dgV (rootI kk (sub ds 0 j))) rfl rfl rfl (by kernel_rfl) ?_
  refine r_move (v := .int .i64 (q : Nat)) rfl rfl rfl ?_
  refine r_load (p := pt 5 0) (v := dgV (rootI kk (sub ds 0 q))) rfl rfl rfl (by kernel_rfl) ?_
  refine r_move (v := slv 1 0 ((consP kk (sub ds 0 q) j).length) ((consP kk (sub ds 0 q) j).length)) rfl rfl rfl ?_
  refine r_callN (e := [some (1, 0)]) (nid := 0) ((Consistent_ok (G := G) kk hG (j : Nat) (rootI kk (sub ds 0 j)) (q : Nat) (rootI kk (sub ds 0 q)) (consP kk (sub ds 0 q) j) ((consP kk (sub ds 0 q) j).length) ((consP kk (sub ds 0 q) j).length) rfl (Nat.le_trans (consP_short kk 8 (sub ds 0 q) _ (by omega) (by rw [(sub_len (by omega))]; omega)) (by decide)) (by omega) (by omega) (by omega) (by omega) (by omega)).res (congrArg (Value.int .i64) (finds_goes' kk (l := (sub ds 0 q)) (sub_len (by omega)) (by omega) (by omega) (by omega) (take_sub (by omega)) rfl))) (vals := [.int .i64 (j : Nat), dgV (rootI kk (sub ds 0 j)), .int .i64 (q : Nat), dgV (rootI kk (sub ds 0 q)), slv 1 0 ((consP kk (sub ds 0 q) j).length) ((consP kk (sub ds 0 q) j).length)]) (v := .int .i64 0) (H' := [dsR ds, dsB (consP kk (sub ds 0 q) j), dsB (consP kk ds q), dsB (consP kk ds j), dgB (rootI kk (sub ds 0 j)), dgB (rootI kk (sub ds 0 q)), dgB (rootI kk ds)]) rfl rfl rfl rfl rfl rfl rfl ⟨⟨rfl, rfl, rfl, rfl, ⟨rfl, rfl, rfl, by omega, by omega⟩, trivial⟩, ⟨(emb_dsB rfl), trivial⟩, rfl, rfl, rfl⟩ rfl (by kernel_rfl) ?_
  refine r_bin (v := .bool true) (vx := .int .i64 0) (vy := .int .i64 0) rfl rfl rfl rfl (eql_t (by omega)) ?_
  refine r_pick (v := .bool true) rfl rfl rfl ?_
  refine r_move (v := .bool true) rfl rfl rfl ?_
  refine r_move (v := .int .i64 (q : Nat)) rfl rfl rfl ?_
  refine r_load (p := pt 5 0) (v := dgV (rootI kk (sub ds 0 q))) rfl rfl rfl (by kernel_rfl) ?_
  refine r_move (v := slv 0 0 n c) rfl rfl rfl ?_
  refine r_len (p := slv 0 0 n c) (v := .int .i64 (n : Nat)) rfl rfl rfl rfl ?_
  refine r_load (p := pt 6 0) (v := dgV (rootI kk ds)) rfl rfl rfl (by kernel_rfl) ?_
  refine r_move (v := slv 2 0 ((consP kk ds q).length) ((consP kk ds q).length)) rfl rfl rfl ?_
  refine r_callN (e := [some (2, 0)]) (nid := 0) ((Consistent_ok (G := G) kk hG (q : Nat) (rootI kk (sub ds 0 q)) (n : Nat) (rootI kk ds) (consP kk ds q) ((consP kk ds q).length) ((consP kk ds q).length) rfl (Nat.le_trans (consP_short kk 8 ds _ (by omega) (by rw [hn]; omega)) (by decide)) (by omega) (by omega) (by omega) (by omega) (by omega)).res (congrArg (Value.int .i64) (finds_goes' kk (l := ds) hn (by omega) (by omega) (by omega) (sub_eqt ds _).symm rfl))) (vals := [.int .i64 (q : Nat), dgV (rootI kk (sub ds 0 q)), .int .i64 (n : Nat), dgV (rootI kk ds), slv 2 0 ((consP kk ds q).length) ((consP kk ds q).length)]) (v := .int .i64 0) (H' := [dsR ds, dsB (consP kk (sub ds 0 q) j), dsB (consP kk ds q), dsB (consP kk ds j), dgB (rootI kk (sub ds 0 j)), dgB (rootI kk (sub ds 0 q)), dgB (rootI kk ds)]) rfl rfl rfl rfl rfl rfl rfl ⟨⟨rfl, rfl, rfl, rfl, ⟨rfl, rfl, rfl, by omega, by omega⟩, trivial⟩, ⟨(emb_dsB rfl), trivial⟩, rfl, rfl, rfl⟩ rfl (by kernel_rfl) ?_
  refine r_bin (v := .bool true) (vx := .int .i64 0) (vy := .int .i64 0) rfl rfl rfl rfl (eql_t (by omega)) ?_
  refine r_pick (v := .bool true) rfl rfl rfl ?_
  refine r_move (v := .bool true) rfl rfl rfl ?_
  refine r_move (v := .int .i64 (j : Nat)) rfl rfl rfl ?_
  refine r_load (p := pt 4 0) (v := dgV (rootI kk (sub ds 0 j))) rfl rfl rfl (by kernel_rfl) ?_
  refine r_move (v := slv 0 0 n c) rfl rfl rfl ?_
  refine r_len (p := slv 0 0 n c) (v := .int .i64 (n : Nat)) rfl rfl rfl rfl ?_
  refine r_load (p := pt 6 0) (v := dgV (rootI kk ds)) rfl rfl rfl (by kernel_rfl) ?_
  refine r_move (v := slv 3 0 ((consP kk ds j).length) ((consP kk ds j).length)) rfl rfl rfl ?_
  refine r_callN (e := [some (3, 0)]) (nid := 0) ((Consistent_ok (G := G) kk hG (j : Nat) (rootI kk (sub ds 0 j)) (n : Nat) (rootI kk ds) (consP kk ds j) ((consP kk ds j).length) ((consP kk ds j).length) rfl (Nat.le_trans (consP_short kk 8 ds _ (by omega) (by rw [hn]; omega)) (by decide)) (by omega) (by omega) (by omega) (by omega) (by omega)).res (congrArg (Value.int .i64) (finds_goes' kk (l := ds) hn (by omega) (by omega) (by omega) (sub_eqt ds _).symm rfl))) (vals := [.int .i64 (j : Nat), dgV (rootI kk (sub ds 0 j)), .int .i64 (n : Nat), dgV (rootI kk ds), slv 3 0 ((consP kk ds j).length) ((consP kk ds j).length)]) (v := .int .i64 0) (H' := [dsR ds, dsB (consP kk (sub ds 0 q) j), dsB (consP kk ds q), dsB (consP kk ds j), dgB (rootI kk (sub ds 0 j)), dgB (rootI kk (sub ds 0 q)), dgB (rootI kk ds)]) rfl rfl rfl rfl rfl rfl rfl ⟨⟨rfl, rfl, rfl, rfl, ⟨rfl, rfl, rfl, by omega, by omega⟩, trivial⟩, ⟨(emb_dsB rfl), trivial⟩, rfl, rfl, rfl⟩ rfl (by kernel_rfl) ?_
  refine r_bin (v := .bool true) (vx := .int .i64 0) (vy := .int .i64 0) rfl rfl rfl rfl (eql_t (by omega)) ?_
  refine r_pick (v := .bool true) rfl rfl rfl ?_
  refine r_assign (v := .bool true) rfl rfl rfl ?_
  refine r_doneN ?_
  refine x_then ?_
  refine c_ret ?_
  refine x_end ?_
  exact end_same (v := .bool true) rfl rfl rfl (by simp [keptB, dsR]) rfl
end Go.Flat
