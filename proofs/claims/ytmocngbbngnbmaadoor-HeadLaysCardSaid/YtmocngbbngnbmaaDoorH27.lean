/- Walks and plain laws: what each theorem says, within the bounds that it names. -/
import Derived.Test.YtmocngbbngnbmaaDoorH26
set_option linter.unusedVariables false
set_option linter.unusedSimpArgs false
set_option maxRecDepth 20000
namespace Go.Flat
open Go.Proofs
variable {G : Glob}
theorem getS_of {s : Signed} (h : (putSF s).2 = 0) : (getS (putSF s).1).2 = 0 ∧ eqSigned (getS (putSF s).1).1 s = true := by
  rw [putSF_pos (may_of h)]; exact getS_putS (may_of h)
theorem putSF_len (s : Signed) : (putSF s).1.length ≤ 1000 := by
  by_cases hm : mayS s
  · rw [putSF_pos hm]
    have := layF_len (rowF 0 (signedL s)) 0 []
    have h1 := numS_size s.node
    have h2 := bytesH_len s.head
    simp only [signedL, rowF, sumF, strOf_size, dgL_len, List.length_nil] at this
    show (layF (rowF 0 (signedL s)) 0 []).1.length ≤ 1000
    simp only [signedL, rowF]
    omega
  · rw [putSF_neg hm]; exact Nat.zero_le _
theorem HeadLays_ok (kk : Nat → BitVec 32) (hG : G 0 = some (rowE w32 64 kk)) (hne : sameB 32 (tagT kk dz oneH 1) (tagT kk dz oneH 2) = false) (s : Signed) : CallL Tryd.prog G 6 [signedV s] [] (.bool true) [] := by
  refine walk (fn := Tryd.f6) (nt := 53) rfl rfl rfl rfl ?_
  refine c_hole 4 (H' := [hole, hole, hole, hole]) rfl ?_
  refine c_seq ?_
  refine c_reg ?_
  refine r_box (v := signedV s) (b := bxB 69 (signedC s)) (nid := 0) (H' := [bxB 69 (signedC s), hole, hole, hole]) rfl rfl rfl (by kernel_rfl) (by kernel_rfl) ?_
  refine r_assign (v := .bool false) rfl rfl rfl ?_
  refine r_doneN ?_
  refine x_then ?_
  refine c_seq ?_
  refine c_reg ?_
  refine r_load (p := pt 0 0) (v := signedV s) rfl rfl rfl (by kernel_rfl) ?_
  refine r_callN (e := []) (nid := 1) (PutSigned_ok (G := G) s) (vals := [signedV s]) (v := .tuple #[slv 1 0 ((putSF s).1.length) ((putSF s).1.length), .int .i64 (((putSF s).2))]) (H' := [bxB 69 (signedC s), rowB ((putSF s).1), hole, hole]) rfl rfl rfl rfl rfl rfl rfl ⟨⟨rfl, trivial⟩, trivial, rfl, rfl, rfl⟩ (by kernel_rfl) (by kernel_rfl) ?_
  refine r_move (v := .tuple #[slv 1 0 ((putSF s).1.length) ((putSF s).1.length), .int .i64 (((putSF s).2))]) rfl rfl rfl ?_
  refine r_extract (vs := #[slv 1 0 ((putSF s).1.length) ((putSF s).1.length), .int .i64 (((putSF s).2))]) (v := slv 1 0 ((putSF s).1.length) ((putSF s).1.length)) rfl rfl rfl rfl ?_
  refine r_extract (vs := #[slv 1 0 ((putSF s).1.length) ((putSF s).1.length), .int .i64 (((putSF s).2))]) (v := .int .i64 (((putSF s).2))) rfl rfl rfl rfl ?_
  refine r_assign (v := slv 1 0 ((putSF s).1.length) ((putSF s).1.length)) rfl rfl rfl ?_
  refine r_assign (v := .int .i64 (((putSF s).2))) rfl rfl rfl ?_
  refine r_doneN ?_
  refine x_then ?_
  refine c_seq ?_
  refine c_reg ?_
  refine r_load (p := pt 0 0) (v := signedV s) rfl rfl rfl (by kernel_rfl) ?_
  refine r_callN (e := []) (nid := 2) (refPutSigned_ok (G := G) s) (vals := [signedV s]) (v := .tuple #[slv 2 0 ((putSF s).1.length) ((putSF s).1.length), .int .i64 (((putSF s).2))]) (H' := [bxB 69 (signedC s), rowB ((putSF s).1), rowB ((putSF s).1), hole]) rfl rfl rfl rfl rfl rfl rfl ⟨⟨rfl, trivial⟩, trivial, rfl, rfl, rfl⟩ (by kernel_rfl) (by kernel_rfl) ?_
  refine r_move (v := .tuple #[slv 2 0 ((putSF s).1.length) ((putSF s).1.length), .int .i64 (((putSF s).2))]) rfl rfl rfl ?_
  refine r_extract (vs := #[slv 2 0 ((putSF s).1.length) ((putSF s).1.length), .int .i64 (((putSF s).2))]) (v := slv 2 0 ((putSF s).1.length) ((putSF s).1.length)) rfl rfl rfl rfl ?_
  refine r_extract (vs := #[slv 2 0 ((putSF s).1.length) ((putSF s).1.length), .int .i64 (((putSF s).2))]) (v := .int .i64 (((putSF s).2))) rfl rfl rfl rfl ?_
  refine r_assign (v := slv 2 0 ((putSF s).1.length) ((putSF s).1.length)) rfl rfl rfl ?_
  refine r_assign (v := .int .i64 (((putSF s).2))) rfl rfl rfl ?_
  refine r_doneN ?_
  refine x_then ?_
  refine c_seq ?_
  refine c_seq ?_
  refine c_reg ?_
  refine r_move (v := .int .i64 (((putSF s).2))) rfl rfl rfl ?_
  refine r_move (v := .int .i64 (((putSF s).2))) rfl rfl rfl ?_
  refine r_bin (v := .bool false) (vx := .int .i64 (((putSF s).2))) (vy := .int .i64 (((putSF s).2))) rfl rfl rfl rfl (neq_f (by omega)) ?_
  refine r_move (v := .bool false) rfl rfl rfl ?_
  refine r_move (v := slv 1 0 ((putSF s).1.length) ((putSF s).1.length)) rfl rfl rfl ?_
  refine r_str (p := slv 1 0 ((putSF s).1.length) ((putSF s).1.length)) (v := .string (strOf ((putSF s).1))) rfl rfl rfl (str_whole rfl rfl rfl rfl rfl (by omega)) ?_
  refine r_move (v := slv 2 0 ((putSF s).1.length) ((putSF s).1.length)) rfl rfl rfl ?_
  refine r_str (p := slv 2 0 ((putSF s).1.length) ((putSF s).1.length)) (v := .string (strOf ((putSF s).1))) rfl rfl rfl (str_whole rfl rfl rfl rfl rfl (by omega)) ?_
  refine r_bin (v := .bool false) (vx := .string (strOf ((putSF s).1))) (vy := .string (strOf ((putSF s).1))) rfl rfl rfl rfl (Eq.trans (neq_str _ _) (by rw [(sameT_refl _)] <;> rfl)) ?_
  refine r_pick (v := .bool false) rfl rfl rfl ?_
  refine r_doneN ?_
  refine x_then ?_
  refine c_false rfl ?_
  refine c_skip ?_
  refine x_then ?_
  refine c_seq ?_
  refine c_seq ?_
  refine c_reg ?_
  refine r_move (v := .int .i64 (((putSF s).2))) rfl rfl rfl ?_
  by_cases h1 : (((putSF s).2)) ≠ 0
  · skip
    refine r_bin (v := .bool true) (vx := .int .i64 (((putSF s).2))) (vy := .int .i64 0) rfl rfl rfl rfl (neq_t (by omega)) ?_
    refine r_doneN ?_
    refine x_then ?_
    refine c_true rfl ?_
    refine c_seq ?_
    refine c_reg ?_
    refine r_callP (lays_ok (G := G)) (vals := []) (res' := .bool true) rfl rfl rfl rfl rfl rfl ?_
    refine r_move (v := .bool true) rfl rfl rfl ?_
    refine r_callP (signs_ok (G := G) kk hG hne) (vals := []) (res' := .bool true) rfl rfl rfl rfl rfl rfl ?_
    refine r_pick (v := .bool true) rfl rfl rfl ?_
    refine r_assign (v := .bool true) rfl rfl rfl ?_
    refine r_doneN ?_
    refine x_then ?_
    refine c_ret ?_
    refine x_thenR ?_
    refine x_end ?_
    exact end_pv (v := .bool true) rfl rfl rfl
  refine r_bin (v := .bool false) (vx := .int .i64 (((putSF s).2))) (vy := .int .i64 0) rfl rfl rfl rfl (neq_f (by omega)) ?_
  refine r_doneN ?_
  refine x_then ?_
  refine c_false rfl ?_
  refine c_skip ?_
  refine x_then ?_
  refine c_seq ?_
  refine c_reg ?_
  refine r_move (v := slv 1 0 ((putSF s).1.length) ((putSF s).1.length)) rfl rfl rfl ?_
  have hgs3 := getS_of (s := s) (by omega)
  have hln3 := putSF_len s
  have hg03 := hgs3.1
  refine r_callN (e := [some (1, 0)]) (nid := 0) (HGetSigned_ok (G := G) ((putSF s).1) ((putSF s).1.length) ((putSF s).1.length) rfl (by omega) (by omega) (by omega)) (vals := [slv 1 0 ((putSF s).1.length) ((putSF s).1.length)]) (v := .tuple #[signedV ((getS ((putSF s).1)).1), .int .i64 (((getS ((putSF s).1)).2))]) (H' := [bxB 69 (signedC s), rowB ((putSF s).1), rowB ((putSF s).1), hole]) rfl rfl rfl rfl rfl rfl rfl ⟨⟨⟨rfl, rfl, rfl, by first | omega | exact Nat.le_refl _, by first | omega | exact Nat.le_refl _⟩, trivial⟩, ⟨(emb_rdW rfl), trivial⟩, rfl, rfl, rfl⟩ (by kernel_rfl) (by kernel_rfl) ?_
  refine r_move (v := .tuple #[signedV ((getS ((putSF s).1)).1), .int .i64 (((getS ((putSF s).1)).2))]) rfl rfl rfl ?_
  refine r_extract (vs := #[signedV ((getS ((putSF s).1)).1), .int .i64 (((getS ((putSF s).1)).2))]) (v := signedV ((getS ((putSF s).1)).1)) rfl rfl rfl rfl ?_
  refine r_extract (vs := #[signedV ((getS ((putSF s).1)).1), .int .i64 (((getS ((putSF s).1)).2))]) (v := .int .i64 (((getS ((putSF s).1)).2))) rfl rfl rfl rfl ?_
  refine r_alloc (b := bxB 69 (signedC (⟨(⟨0, 0, 0, dz, 0⟩ : Head), 0, dz⟩ : Signed))) (nid := 3) (H' := [bxB 69 (signedC s), rowB ((putSF s).1), rowB ((putSF s).1), bxB 69 (signedC (⟨(⟨0, 0, 0, dz, 0⟩ : Head), 0, dz⟩ : Signed))]) rfl rfl (by kernel_rfl) (by kernel_rfl) ?_
  refine r_store (p := pt 3 0) (v := signedV ((getS ((putSF s).1)).1)) (b := 3) (blk := bxB 69 (signedC ((getS ((putSF s).1)).1))) (H' := [bxB 69 (signedC s), rowB ((putSF s).1), rowB ((putSF s).1), bxB 69 (signedC ((getS ((putSF s).1)).1))]) rfl rfl rfl (by kernel_rfl) (by kernel_rfl) ?_
  refine r_assign (v := .int .i64 (((getS ((putSF s).1)).2))) rfl rfl rfl ?_
  refine r_doneN ?_
  refine x_then ?_
  refine c_seq ?_
  refine c_reg ?_
  refine r_callP (lays_ok (G := G)) (vals := []) (res' := .bool true) rfl rfl rfl rfl rfl rfl ?_
  refine r_move (v := .bool true) rfl rfl rfl ?_
  refine r_callP (signs_ok (G := G) kk hG hne) (vals := []) (res' := .bool true) rfl rfl rfl rfl rfl rfl ?_
  refine r_pick (v := .bool true) rfl rfl rfl ?_
  refine r_move (v := .bool true) rfl rfl rfl ?_
  refine r_move (v := .int .i64 (((getS ((putSF s).1)).2))) rfl rfl rfl ?_
  refine r_bin (v := .bool true) (vx := .int .i64 (((getS ((putSF s).1)).2))) (vy := .int .i64 0) rfl rfl rfl rfl (eql_t (by omega)) ?_
  refine r_pick (v := .bool true) rfl rfl rfl ?_
  refine r_move (v := .bool true) rfl rfl rfl ?_
  refine r_load (p := pt 3 0) (v := signedV ((getS ((putSF s).1)).1)) rfl rfl rfl (by kernel_rfl) ?_
  refine r_load (p := pt 0 0) (v := signedV s) rfl rfl rfl (by kernel_rfl) ?_
  refine r_bin (v := .bool true) (vx := signedV ((getS ((putSF s).1)).1)) (vy := signedV s) rfl rfl rfl rfl (Eq.trans (eql_Signed ((getS ((putSF s).1)).1) s) (by rw [hgs3.2] <;> rfl)) ?_
  refine r_pick (v := .bool true) rfl rfl rfl ?_
  refine r_assign (v := .bool true) rfl rfl rfl ?_
  refine r_doneN ?_
  refine x_then ?_
  refine c_ret ?_
  refine x_end ?_
  exact end_pv (v := .bool true) rfl rfl rfl
end Go.Flat
