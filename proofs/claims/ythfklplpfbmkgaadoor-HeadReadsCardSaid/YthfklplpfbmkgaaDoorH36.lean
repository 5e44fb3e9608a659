/- Walks and plain laws: what each theorem says, within the bounds that it names. -/
import Derived.Test.YthfklplpfbmkgaaDoorH35
import Derived.Test.YthfklplpfbmkgaaDoorH25
import Derived.Test.YthfklplpfbmkgaaDoorH21
set_option linter.unusedVariables false
set_option linter.unusedSimpArgs false
set_option maxRecDepth 20000
namespace Go.Flat
open Go.Proofs
variable {G : Glob}
theorem HeadReads_ok (kk : Nat → BitVec 32) (hG : G 0 = some (rowE w32 64 kk)) (hne : sameB 32 (tagT kk dz oneH 1) (tagT kk dz oneH 2) = false) (b : Bs) (c : Nat) (hc : b.length ≤ c) (hcc : c ≤ 9223372036854775807) : CallL Tryd.prog G 7 [slv 0 0 b.length c] [rdB b] (.bool true) [rdB b] := by
  refine walk (fn := Tryd.f7) (nt := 101) rfl rfl rfl rfl ?_
  refine c_hole 7 (H' := [rdB b, hole, hole, hole, hole, hole, hole, hole]) rfl ?_
  refine c_seq (c_reg ?_)
  refine r_assign (v := .bool false) rfl rfl rfl ?_
  refine r_doneN (x_then (c_seq (c_seq (c_reg ?_))))
  refine r_move (v := slv 0 0 b.length c) rfl rfl rfl ?_
  refine r_len (p := slv 0 0 b.length c) (v := .int .i64 (b.length : Nat)) rfl rfl rfl rfl ?_
  by_cases h1 : 16384 < (b.length : Nat)
  refine r_bin (v := .bool true) (vx := .int .i64 (b.length : Nat)) (vy := .int .i64 16384) rfl rfl rfl rfl (gtr_t (by omega)) ?_
  refine r_doneN (x_then (c_true rfl (c_seq (c_reg ?_))))
  refine r_assign (v := .bool true) rfl rfl rfl ?_
  refine r_doneN (x_then (c_ret (x_thenR (x_end ?_))))
  exact end_map [0] (v := .bool true) rfl (by kernel_rfl) rfl rfl (by decide) (by simp [keptB, rdB]) rfl
  refine r_bin (v := .bool false) (vx := .int .i64 (b.length : Nat)) (vy := .int .i64 16384) rfl rfl rfl rfl (gtr_f (by omega)) ?_
  refine r_doneN (x_then (c_false rfl (c_skip (x_then (c_seq (c_reg ?_))))))
  refine r_move (v := slv 0 0 b.length c) rfl rfl rfl ?_
  refine r_callN (e := [some (0, 0)]) (nid := 1) (Lent_ok (G := G) b b.length c rfl hc (by omega)) (vals := [slv 0 0 b.length c]) (v := slv 1 0 b.length (b.length + 7)) (H' := [rdB b, rowB (b ++ List.replicate 7 195#8), hole, hole, hole, hole, hole, hole]) rfl rfl rfl rfl rfl rfl rfl ⟨⟨⟨rfl, rfl, rfl, by omega, by omega⟩, trivial⟩, ⟨(emb_rd rfl), trivial⟩, rfl, rfl, rfl⟩ (by kernel_rfl) (by kernel_rfl) ?_
  refine r_assign (v := slv 1 0 b.length (b.length + 7)) rfl rfl rfl ?_
  refine r_doneN (x_then (c_seq (c_reg ?_)))
  refine r_move (v := slv 1 0 b.length (b.length + 7)) rfl rfl rfl ?_
  refine r_callN (e := [some (1, 0)]) (nid := 0) (HGet_x (G := G) b b.length (b.length + 7) rfl (by omega) (by omega)) (vals := [slv 1 0 b.length (b.length + 7)]) (v := .tuple #[headV ((getH b).1), .int .i64 (((getH b).2))]) (H' := [rdB b, rowB (b ++ List.replicate 7 195#8), hole, hole, hole, hole, hole, hole]) rfl rfl rfl rfl rfl rfl rfl ⟨⟨⟨rfl, by omega, rfl, by omega, by omega⟩, trivial⟩, ⟨(emb_rdS rfl (.inr rfl) (by have := (pad_len (b := b) rfl); omega)), trivial⟩, rfl, rfl, rfl⟩ (by kernel_rfl) (by kernel_rfl) ?_
  refine r_move (v := .tuple #[headV ((getH b).1), .int .i64 (((getH b).2))]) rfl rfl rfl ?_
  refine r_extract (vs := #[headV ((getH b).1), .int .i64 (((getH b).2))]) (v := headV ((getH b).1)) rfl rfl rfl rfl ?_
  refine r_extract (vs := #[headV ((getH b).1), .int .i64 (((getH b).2))]) (v := .int .i64 (((getH b).2))) rfl rfl rfl rfl ?_
  refine r_alloc (b := bxB 36 (headC (⟨0, 0, 0, dz, 0⟩ : Head))) (nid := 2) (H' := [rdB b, rowB (b ++ List.replicate 7 195#8), bxB 36 (headC (⟨0, 0, 0, dz, 0⟩ : Head)), hole, hole, hole, hole, hole]) rfl rfl (by kernel_rfl) (by kernel_rfl) ?_
  refine r_store (p := pt 2 0) (v := headV ((getH b).1)) (b := 2) (blk := bxB 36 (headC ((getH b).1))) (H' := [rdB b, rowB (b ++ List.replicate 7 195#8), bxB 36 (headC ((getH b).1)), hole, hole, hole, hole, hole]) rfl rfl rfl (by kernel_rfl) (by kernel_rfl) ?_
  refine r_assign (v := .int .i64 (((getH b).2))) rfl rfl rfl ?_
  refine r_doneN (x_then (c_seq (c_reg ?_)))
  refine r_move (v := slv 0 0 b.length c) rfl rfl rfl ?_
  refine r_callN (e := [some (0, 0)]) (nid := 0) (rHGet_ok' (G := G) b b.length c rfl (by omega) (by omega) (by omega)) (vals := [slv 0 0 b.length c]) (v := .tuple #[headV ((getH b).1), .int .i64 (((getH b).2))]) (H' := [rdB b, rowB (b ++ List.replicate 7 195#8), bxB 36 (headC ((getH b).1)), hole, hole, hole, hole, hole]) rfl rfl rfl rfl rfl rfl rfl ⟨⟨⟨rfl, rfl, rfl, by first | omega | exact Nat.le_refl _, by first | omega | exact Nat.le_refl _⟩, trivial⟩, ⟨(emb_rd rfl), trivial⟩, rfl, rfl, rfl⟩ (by kernel_rfl) (by kernel_rfl) ?_
  refine r_move (v := .tuple #[headV ((getH b).1), .int .i64 (((getH b).2))]) rfl rfl rfl ?_
  refine r_extract (vs := #[headV ((getH b).1), .int .i64 (((getH b).2))]) (v := headV ((getH b).1)) rfl rfl rfl rfl ?_
  refine r_extract (vs := #[headV ((getH b).1), .int .i64 (((getH b).2))]) (v := .int .i64 (((getH b).2))) rfl rfl rfl rfl ?_
  refine r_alloc (b := bxB 36 (headC (⟨0, 0, 0, dz, 0⟩ : Head))) (nid := 3) (H' := [rdB b, rowB (b ++ List.replicate 7 195#8), bxB 36 (headC ((getH b).1)), bxB 36 (headC (⟨0, 0, 0, dz, 0⟩ : Head)), hole, hole, hole, hole]) rfl rfl (by kernel_rfl) (by kernel_rfl) ?_
  refine r_store (p := pt 3 0) (v := headV ((getH b).1)) (b := 3) (blk := bxB 36 (headC ((getH b).1))) (H' := [rdB b, rowB (b ++ List.replicate 7 195#8), bxB 36 (headC ((getH b).1)), bxB 36 (headC ((getH b).1)), hole, hole, hole, hole]) rfl rfl rfl (by kernel_rfl) (by kernel_rfl) ?_
  refine r_assign (v := .int .i64 (((getH b).2))) rfl rfl rfl ?_
  refine r_doneN (x_then (c_seq (c_reg ?_)))
  refine r_move (v := slv 1 0 b.length (b.length + 7)) rfl rfl rfl ?_
  refine r_callN (e := [some (1, 0)]) (nid := 0) (HGetSigned_x (G := G) b b.length (b.length + 7) rfl (by omega) (by omega)) (vals := [slv 1 0 b.length (b.length + 7)]) (v := .tuple #[signedV ((getS b).1), .int .i64 (((getS b).2))]) (H' := [rdB b, rowB (b ++ List.replicate 7 195#8), bxB 36 (headC ((getH b).1)), bxB 36 (headC ((getH b).1)), hole, hole, hole, hole]) rfl rfl rfl rfl rfl rfl rfl ⟨⟨⟨rfl, by omega, rfl, by omega, by omega⟩, trivial⟩, ⟨(emb_rdS rfl (.inr rfl) (by have := (pad_len (b := b) rfl); omega)), trivial⟩, rfl, rfl, rfl⟩ (by kernel_rfl) (by kernel_rfl) ?_
  refine r_move (v := .tuple #[signedV ((getS b).1), .int .i64 (((getS b).2))]) rfl rfl rfl ?_
  refine r_extract (vs := #[signedV ((getS b).1), .int .i64 (((getS b).2))]) (v := signedV ((getS b).1)) rfl rfl rfl rfl ?_
  refine r_extract (vs := #[signedV ((getS b).1), .int .i64 (((getS b).2))]) (v := .int .i64 (((getS b).2))) rfl rfl rfl rfl ?_
  refine r_alloc (b := bxB 69 (signedC (⟨(⟨0, 0, 0, dz, 0⟩ : Head), 0, dz⟩ : Signed))) (nid := 4) (H' := [rdB b, rowB (b ++ List.replicate 7 195#8), bxB 36 (headC ((getH b).1)), bxB 36 (headC ((getH b).1)), bxB 69 (signedC (⟨(⟨0, 0, 0, dz, 0⟩ : Head), 0, dz⟩ : Signed)), hole, hole, hole]) rfl rfl (by kernel_rfl) (by kernel_rfl) ?_
  refine r_store (p := pt 4 0) (v := signedV ((getS b).1)) (b := 4) (blk := bxB 69 (signedC ((getS b).1))) (H' := [rdB b, rowB (b ++ List.replicate 7 195#8), bxB 36 (headC ((getH b).1)), bxB 36 (headC ((getH b).1)), bxB 69 (signedC ((getS b).1)), hole, hole, hole]) rfl rfl rfl (by kernel_rfl) (by kernel_rfl) ?_
  refine r_assign (v := .int .i64 (((getS b).2))) rfl rfl rfl ?_
  refine r_doneN (x_then (c_seq (c_reg ?_)))
  refine r_move (v := slv 0 0 b.length c) rfl rfl rfl ?_
  refine r_callN (e := [some (0, 0)]) (nid := 0) (rHGetSigned_ok (G := G) b c hc (by omega) hcc) (vals := [slv 0 0 b.length c]) (v := .tuple #[signedV ((getS b).1), .int .i64 (((getS b).2))]) (H' := [rdB b, rowB (b ++ List.replicate 7 195#8), bxB 36 (headC ((getH b).1)), bxB 36 (headC ((getH b).1)), bxB 69 (signedC ((getS b).1)), hole, hole, hole]) rfl rfl rfl rfl rfl rfl rfl ⟨⟨⟨rfl, rfl, rfl, by first | omega | exact Nat.le_refl _, by first | omega | exact Nat.le_refl _⟩, trivial⟩, ⟨(emb_rd rfl), trivial⟩, rfl, rfl, rfl⟩ (by kernel_rfl) (by kernel_rfl) ?_
  refine r_move (v := .tuple #[signedV ((getS b).1), .int .i64 (((getS b).2))]) rfl rfl rfl ?_
  refine r_extract (vs := #[signedV ((getS b).1), .int .i64 (((getS b).2))]) (v := signedV ((getS b).1)) rfl rfl rfl rfl ?_
  refine r_extract (vs := #[signedV ((getS b).1), .int .i64 (((getS b).2))]) (v := .int .i64 (((getS b).2))) rfl rfl rfl rfl ?_
  refine r_alloc (b := bxB 69 (signedC (⟨(⟨0, 0, 0, dz, 0⟩ : Head), 0, dz⟩ : Signed))) (nid := 5) (H' := [rdB b, rowB (b ++ List.replicate 7 195#8), bxB 36 (headC ((getH b).1)), bxB 36 (headC ((getH b).1)), bxB 69 (signedC ((getS b).1)), bxB 69 (signedC (⟨(⟨0, 0, 0, dz, 0⟩ : Head), 0, dz⟩ : Signed)), hole, hole]) rfl rfl (by kernel_rfl) (by kernel_rfl) ?_
  refine r_store (p := pt 5 0) (v := signedV ((getS b).1)) (b := 5) (blk := bxB 69 (signedC ((getS b).1))) (H' := [rdB b, rowB (b ++ List.replicate 7 195#8), bxB 36 (headC ((getH b).1)), bxB 36 (headC ((getH b).1)), bxB 69 (signedC ((getS b).1)), bxB 69 (signedC ((getS b).1)), hole, hole]) rfl rfl rfl (by kernel_rfl) (by kernel_rfl) ?_
  refine r_assign (v := .int .i64 (((getS b).2))) rfl rfl rfl ?_
  refine r_doneN (x_then (c_seq (c_seq (c_reg ?_))))
  refine r_load (p := pt 2 0) (v := headV ((getH b).1)) rfl rfl rfl (by kernel_rfl) ?_
  refine r_load (p := pt 3 0) (v := headV ((getH b).1)) rfl rfl rfl (by kernel_rfl) ?_
  refine r_bin (v := .bool false) (vx := headV ((getH b).1)) (vy := headV ((getH b).1)) rfl rfl rfl rfl (Eq.trans (neq_Head ((getH b).1) ((getH b).1)) (by rw [(eqHead_refl _)] <;> rfl)) ?_
  refine r_move (v := .bool false) rfl rfl rfl ?_
  refine r_move (v := .int .i64 (((getH b).2))) rfl rfl rfl ?_
  refine r_move (v := .int .i64 (((getH b).2))) rfl rfl rfl ?_
  refine r_bin (v := .bool false) (vx := .int .i64 (((getH b).2))) (vy := .int .i64 (((getH b).2))) rfl rfl rfl rfl (neq_f (by omega)) ?_
  refine r_pick (v := .bool false) rfl rfl rfl ?_
  refine r_move (v := .bool false) rfl rfl rfl ?_
  refine r_load (p := pt 4 0) (v := signedV ((getS b).1)) rfl rfl rfl (by kernel_rfl) ?_
  refine r_load (p := pt 5 0) (v := signedV ((getS b).1)) rfl rfl rfl (by kernel_rfl) ?_
  refine r_bin (v := .bool false) (vx := signedV ((getS b).1)) (vy := signedV ((getS b).1)) rfl rfl rfl rfl (Eq.trans (neq_Signed ((getS b).1) ((getS b).1)) (by rw [(eqSigned_refl _)] <;> rfl)) ?_
  refine r_pick (v := .bool false) rfl rfl rfl ?_
  refine r_move (v := .bool false) rfl rfl rfl ?_
  refine r_move (v := .int .i64 (((getS b).2))) rfl rfl rfl ?_
  refine r_move (v := .int .i64 (((getS b).2))) rfl rfl rfl ?_
  refine r_bin (v := .bool false) (vx := .int .i64 (((getS b).2))) (vy := .int .i64 (((getS b).2))) rfl rfl rfl rfl (neq_f (by omega)) ?_
  refine r_pick (v := .bool false) rfl rfl rfl ?_
  refine r_move (v := .bool false) rfl rfl rfl ?_
  refine r_move (v := slv 1 0 b.length (b.length + 7)) rfl rfl rfl ?_
  refine r_move (v := slv 0 0 b.length c) rfl rfl rfl ?_
  refine r_callN (e := [some (1, 0), some (0, 0)]) (nid := 0) (Kept_ok (G := G) b b.length c rfl hc (by omega)) (vals := [slv 1 0 b.length (b.length + 7), slv 0 0 b.length c]) (v := .bool true) (H' := [rdB b, rowB (b ++ List.replicate 7 195#8), bxB 36 (headC ((getH b).1)), bxB 36 (headC ((getH b).1)), bxB 69 (signedC ((getS b).1)), bxB 69 (signedC ((getS b).1)), hole, hole]) rfl rfl rfl rfl rfl rfl rfl ⟨⟨⟨rfl, rfl, rfl, by omega, by omega⟩, ⟨rfl, rfl, rfl, by omega, by omega⟩, trivial⟩, ⟨(emb_rdW rfl), (emb_rd rfl), trivial⟩, rfl, rfl, rfl⟩ rfl (by kernel_rfl) ?_
  refine r_un (v := .bool false) (vx := .bool true) rfl rfl rfl un_not ?_
  refine r_pick (v := .bool false) rfl rfl rfl ?_
  refine r_doneN (x_then (c_false rfl (c_skip (x_then (c_seq (c_reg ?_))))))
  refine r_load (p := pt 2 0) (v := headV ((getH b).1)) rfl rfl rfl (by kernel_rfl) ?_
  have hpe11 := putH_snd ((getH b).1)
  have hpl11 := putH_len ((getH b).1)
  refine r_callN (e := []) (nid := 6) (Put_ok (G := G) ((getH b).1)) (vals := [headV ((getH b).1)]) (v := .tuple #[slv 6 0 ((putH ((getH b).1)).1.length) ((putH ((getH b).1)).1.length), .int .i64 (((putH ((getH b).1)).2))]) (H' := [rdB b, rowB (b ++ List.replicate 7 195#8), bxB 36 (headC ((getH b).1)), bxB 36 (headC ((getH b).1)), bxB 69 (signedC ((getS b).1)), bxB 69 (signedC ((getS b).1)), rowB ((putH ((getH b).1)).1), hole]) rfl rfl rfl rfl rfl rfl rfl ⟨⟨rfl, trivial⟩, trivial, rfl, rfl, rfl⟩ (by kernel_rfl) (by kernel_rfl) ?_
  refine r_move (v := .tuple #[slv 6 0 ((putH ((getH b).1)).1.length) ((putH ((getH b).1)).1.length), .int .i64 (((putH ((getH b).1)).2))]) rfl rfl rfl ?_
  refine r_extract (vs := #[slv 6 0 ((putH ((getH b).1)).1.length) ((putH ((getH b).1)).1.length), .int .i64 (((putH ((getH b).1)).2))]) (v := slv 6 0 ((putH ((getH b).1)).1.length) ((putH ((getH b).1)).1.length)) rfl rfl rfl rfl ?_
  refine r_extract (vs := #[slv 6 0 ((putH ((getH b).1)).1.length) ((putH ((getH b).1)).1.length), .int .i64 (((putH ((getH b).1)).2))]) (v := .int .i64 (((putH ((getH b).1)).2))) rfl rfl rfl rfl ?_
  refine r_assign (v := slv 6 0 ((putH ((getH b).1)).1.length) ((putH ((getH b).1)).1.length)) rfl rfl rfl ?_
  refine r_assign (v := .int .i64 (((putH ((getH b).1)).2))) rfl rfl rfl ?_
  refine r_doneN (x_then (c_seq (c_reg ?_)))
  refine r_load (p := pt 4 0) (v := signedV ((getS b).1)) rfl rfl rfl (by kernel_rfl) ?_
  refine r_callN (e := []) (nid := 7) (PutSigned_ok (G := G) ((getS b).1)) (vals := [signedV ((getS b).1)]) (v := .tuple #[slv 7 0 ((putSF ((getS b).1)).1.length) ((putSF ((getS b).1)).1.length), .int .i64 (((putSF ((getS b).1)).2))]) (H' := [rdB b, rowB (b ++ List.replicate 7 195#8), bxB 36 (headC ((getH b).1)), bxB 36 (headC ((getH b).1)), bxB 69 (signedC ((getS b).1)), bxB 69 (signedC ((getS b).1)), rowB ((putH ((getH b).1)).1), rowB ((putSF ((getS b).1)).1)]) rfl rfl rfl rfl rfl rfl rfl ⟨⟨rfl, trivial⟩, trivial, rfl, rfl, rfl⟩ (by kernel_rfl) (by kernel_rfl) ?_
  refine r_move (v := .tuple #[slv 7 0 ((putSF ((getS b).1)).1.length) ((putSF ((getS b).1)).1.length), .int .i64 (((putSF ((getS b).1)).2))]) rfl rfl rfl ?_
  refine r_extract (vs := #[slv 7 0 ((putSF ((getS b).1)).1.length) ((putSF ((getS b).1)).1.length), .int .i64 (((putSF ((getS b).1)).2))]) (v := slv 7 0 ((putSF ((getS b).1)).1.length) ((putSF ((getS b).1)).1.length)) rfl rfl rfl rfl ?_
  refine r_extract (vs := #[slv 7 0 ((putSF ((getS b).1)).1.length) ((putSF ((getS b).1)).1.length), .int .i64 (((putSF ((getS b).1)).2))]) (v := .int .i64 (((putSF ((getS b).1)).2))) rfl rfl rfl rfl ?_
  refine r_assign (v := slv 7 0 ((putSF ((getS b).1)).1.length) ((putSF ((getS b).1)).1.length)) rfl rfl rfl ?_
  refine r_assign (v := .int .i64 (((putSF ((getS b).1)).2))) rfl rfl rfl ?_
  refine r_doneN (x_then (c_seq (c_reg ?_)))
  refine r_callP (lays_ok (G := G)) (vals := []) (res' := .bool true) rfl rfl rfl rfl rfl rfl ?_
  refine r_move (v := .bool true) rfl rfl rfl ?_
  refine r_callP (signs_ok (G := G) kk hG hne) (vals := []) (res' := .bool true) rfl rfl rfl rfl rfl rfl ?_
  refine r_pick (v := .bool true) rfl rfl rfl ?_
  refine r_move (v := .bool true) rfl rfl rfl ?_
  refine r_move (v := .int .i64 (((getH b).2))) rfl rfl rfl ?_
  by_cases h2 : (((getH b).2)) ≠ 0
  refine r_bin (v := .bool true) (vx := .int .i64 (((getH b).2))) (vy := .int .i64 0) rfl rfl rfl rfl (neq_t (by omega)) ?_
  refine r_move (v := .bool true) rfl rfl rfl ?_
  refine r_skip rfl rfl (r_skip rfl rfl (r_skip rfl rfl (r_skip rfl rfl (r_skip rfl rfl ?_))))
  refine r_pick (v := .bool true) rfl rfl rfl ?_
  refine r_pick (v := .bool true) rfl rfl rfl ?_
  refine r_move (v := .bool true) rfl rfl rfl ?_
  refine r_move (v := .int .i64 (((getS b).2))) rfl rfl rfl ?_
  by_cases h3 : (((getS b).2)) ≠ 0
  refine r_bin (v := .bool true) (vx := .int .i64 (((getS b).2))) (vy := .int .i64 0) rfl rfl rfl rfl (neq_t (by omega)) ?_
  refine r_move (v := .bool true) rfl rfl rfl ?_
  refine r_skip rfl rfl (r_skip rfl rfl (r_skip rfl rfl (r_skip rfl rfl (r_skip rfl rfl ?_))))
  refine r_pick (v := .bool true) rfl rfl rfl ?_
  refine r_pick (v := .bool true) rfl rfl rfl ?_
  refine r_assign (v := .bool true) rfl rfl rfl ?_
  refine r_doneN (x_then (c_ret (x_end ?_)))
  exact end_map [0] (v := .bool true) rfl (by kernel_rfl) rfl rfl (by decide) (by simp [keptB, rdB]) rfl
  refine r_bin (v := .bool false) (vx := .int .i64 (((getS b).2))) (vy := .int .i64 0) rfl rfl rfl rfl (neq_f (by omega)) ?_
  refine r_move (v := .bool false) rfl rfl rfl ?_
  refine r_move (v := slv 7 0 ((putSF ((getS b).1)).1.length) ((putSF ((getS b).1)).1.length)) rfl rfl rfl ?_
  refine r_str (p := slv 7 0 ((putSF ((getS b).1)).1.length) ((putSF ((getS b).1)).1.length)) (v := .string (strOf ((putSF ((getS b).1)).1))) rfl rfl rfl (str_whole rfl rfl rfl rfl rfl (by omega)) ?_
  refine r_move (v := slv 0 0 b.length c) rfl rfl rfl ?_
  refine r_str (p := slv 0 0 b.length c) (v := .string (strOf b)) rfl rfl rfl (str_whole rfl rfl rfl rfl rfl (by omega)) ?_
  rcases Bool.eq_false_or_eq_true (sameT (strOf ((putSF ((getS b).1)).1)) (strOf b)) with h4 | h4
  refine r_bin (v := .bool true) (vx := .string (strOf ((putSF ((getS b).1)).1))) (vy := .string (strOf b)) rfl rfl rfl rfl (Eq.trans (eql_str _ _) (by rw [h4] <;> rfl)) ?_
  refine r_pick (v := .bool true) rfl rfl rfl ?_
  refine r_pick (v := .bool true) rfl rfl rfl ?_
  refine r_assign (v := .bool true) rfl rfl rfl ?_
  refine r_doneN (x_then (c_ret (x_end ?_)))
  exact end_map [0] (v := .bool true) rfl (by kernel_rfl) rfl rfl (by decide) (by simp [keptB, rdB]) rfl
  refine r_bin (v := .bool false) (vx := .string (strOf ((putSF ((getS b).1)).1))) (vy := .string (strOf b)) rfl rfl rfl rfl (Eq.trans (eql_str _ _) (by rw [h4] <;> rfl)) ?_
  refine r_pick (v := .bool false) rfl rfl rfl ?_
  refine r_pick (v := .bool false) rfl rfl rfl ?_
  refine r_assign (v := .bool false) rfl rfl rfl ?_
  refine r_doneN (x_then (c_ret (x_end ?_)))
  exfalso
  · first | (have i1 := reads_H (b := b) (by omega); simp_all; done) | (have i1 := reads_S (b := b) (by omega); simp_all; done)
  refine r_bin (v := .bool false) (vx := .int .i64 (((getH b).2))) (vy := .int .i64 0) rfl rfl rfl rfl (neq_f (by omega)) ?_
  refine r_move (v := .bool false) rfl rfl rfl ?_
  refine r_move (v := slv 6 0 ((putH ((getH b).1)).1.length) ((putH ((getH b).1)).1.length)) rfl rfl rfl ?_
  refine r_str (p := slv 6 0 ((putH ((getH b).1)).1.length) ((putH ((getH b).1)).1.length)) (v := .string (strOf ((putH ((getH b).1)).1))) rfl rfl rfl (str_whole rfl rfl rfl rfl rfl (by omega)) ?_
  refine r_move (v := slv 0 0 b.length c) rfl rfl rfl ?_
  refine r_str (p := slv 0 0 b.length c) (v := .string (strOf b)) rfl rfl rfl (str_whole rfl rfl rfl rfl rfl (by omega)) ?_
  rcases Bool.eq_false_or_eq_true (sameT (strOf ((putH ((getH b).1)).1)) (strOf b)) with h5 | h5
  refine r_bin (v := .bool true) (vx := .string (strOf ((putH ((getH b).1)).1))) (vy := .string (strOf b)) rfl rfl rfl rfl (Eq.trans (eql_str _ _) (by rw [h5] <;> rfl)) ?_
  refine r_pick (v := .bool true) rfl rfl rfl ?_
  refine r_pick (v := .bool true) rfl rfl rfl ?_
  refine r_move (v := .bool true) rfl rfl rfl ?_
  refine r_move (v := .int .i64 (((getS b).2))) rfl rfl rfl ?_
  by_cases h6 : (((getS b).2)) ≠ 0
  refine r_bin (v := .bool true) (vx := .int .i64 (((getS b).2))) (vy := .int .i64 0) rfl rfl rfl rfl (neq_t (by omega)) ?_
  refine r_move (v := .bool true) rfl rfl rfl ?_
  refine r_skip rfl rfl (r_skip rfl rfl (r_skip rfl rfl (r_skip rfl rfl (r_skip rfl rfl ?_))))
  refine r_pick (v := .bool true) rfl rfl rfl ?_
  refine r_pick (v := .bool true) rfl rfl rfl ?_
  refine r_assign (v := .bool true) rfl rfl rfl ?_
  refine r_doneN (x_then (c_ret (x_end ?_)))
  exact end_map [0] (v := .bool true) rfl (by kernel_rfl) rfl rfl (by decide) (by simp [keptB, rdB]) rfl
  refine r_bin (v := .bool false) (vx := .int .i64 (((getS b).2))) (vy := .int .i64 0) rfl rfl rfl rfl (neq_f (by omega)) ?_
  refine r_move (v := .bool false) rfl rfl rfl ?_
  refine r_move (v := slv 7 0 ((putSF ((getS b).1)).1.length) ((putSF ((getS b).1)).1.length)) rfl rfl rfl ?_
  refine r_str (p := slv 7 0 ((putSF ((getS b).1)).1.length) ((putSF ((getS b).1)).1.length)) (v := .string (strOf ((putSF ((getS b).1)).1))) rfl rfl rfl (str_whole rfl rfl rfl rfl rfl (by omega)) ?_
  refine r_move (v := slv 0 0 b.length c) rfl rfl rfl ?_
  refine r_str (p := slv 0 0 b.length c) (v := .string (strOf b)) rfl rfl rfl (str_whole rfl rfl rfl rfl rfl (by omega)) ?_
  rcases Bool.eq_false_or_eq_true (sameT (strOf ((putSF ((getS b).1)).1)) (strOf b)) with h7 | h7
  refine r_bin (v := .bool true) (vx := .string (strOf ((putSF ((getS b).1)).1))) (vy := .string (strOf b)) rfl rfl rfl rfl (Eq.trans (eql_str _ _) (by rw [h7] <;> rfl)) ?_
  refine r_pick (v := .bool true) rfl rfl rfl ?_
  refine r_pick (v := .bool true) rfl rfl rfl ?_
  refine r_assign (v := .bool true) rfl rfl rfl ?_
  refine r_doneN (x_then (c_ret (x_end ?_)))
  exact end_map [0] (v := .bool true) rfl (by kernel_rfl) rfl rfl (by decide) (by simp [keptB, rdB]) rfl
  refine r_bin (v := .bool false) (vx := .string (strOf ((putSF ((getS b).1)).1))) (vy := .string (strOf b)) rfl rfl rfl rfl (Eq.trans (eql_str _ _) (by rw [h7] <;> rfl)) ?_
  refine r_pick (v := .bool false) rfl rfl rfl ?_
  refine r_pick (v := .bool false) rfl rfl rfl ?_
  refine r_assign (v := .bool false) rfl rfl rfl ?_
  refine r_doneN (x_then (c_ret (x_end ?_)))
  exfalso
  · first | (have i1 := reads_H (b := b) (by omega); simp_all; done) | (have i1 := reads_S (b := b) (by omega); simp_all; done)
  refine r_bin (v := .bool false) (vx := .string (strOf ((putH ((getH b).1)).1))) (vy := .string (strOf b)) rfl rfl rfl rfl (Eq.trans (eql_str _ _) (by rw [h5] <;> rfl)) ?_
  refine r_pick (v := .bool false) rfl rfl rfl ?_
  refine r_pick (v := .bool false) rfl rfl rfl ?_
  refine r_move (v := .bool false) rfl rfl rfl ?_
  refine r_skip rfl rfl (r_skip rfl rfl (r_skip rfl rfl (r_skip rfl rfl (r_skip rfl rfl (r_skip rfl rfl (r_skip rfl rfl (r_skip rfl rfl (r_skip rfl rfl ?_))))))))
  refine r_pick (v := .bool false) rfl rfl rfl ?_
  refine r_assign (v := .bool false) rfl rfl rfl ?_
  refine r_doneN (x_then (c_ret (x_end ?_)))
  exfalso
  · first | (have i1 := reads_H (b := b) (by omega); simp_all; done) | (have i1 := reads_S (b := b) (by omega); simp_all; done)
theorem HeadReads_rw (kk : Nat → BitVec 32) (hG : G 0 = some (rowE w32 64 kk)) (hne : sameB 32 (tagT kk dz oneH 1) (tagT kk dz oneH 2) = false) (b : Bs) (c : Nat) (hc : b.length ≤ c) (hcc : c ≤ 9223372036854775807) : CallL Tryd.prog G 7 [slv 0 0 b.length c] [rwR cU8 b] (.bool true) [rwR cU8 b] := by
  rw [rwR_u8]; exact HeadReads_ok kk hG hne b c hc hcc
end Go.Flat
