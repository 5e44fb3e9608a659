/- Walks and plain laws: what each theorem says, within the bounds that it names. -/
import Derived.Test.YthfklplpfbmkgaaH21
import Derived.Test.YthfklplpfbmkgaaH24
set_option linter.unusedVariables false
set_option linter.unusedSimpArgs false
set_option maxRecDepth 20000
namespace Go.Flat
open Go.Proofs
variable {G : Glob}
theorem putH_neg {h : Head} (hr : ¬ rightH h) : putH h = ([], 70) := by
  unfold putH
  rw [checkE_eq, if_neg hr]; rfl
theorem right_of {h : Head} (h0 : (putH h).2 = 0) : rightH h := by
  rw [putH_snd, checkE_eq] at h0
  split at h0
  · assumption
  · omega
theorem getH_of {h : Head} (h0 : (putH h).2 = 0) : (getH (putH h).1).2 = 0 ∧ eqHead (getH (putH h).1).1 h = true := by
  rw [putH_one (right_of h0)]; exact getH_putH (right_of h0)
theorem refPut_ok (h : Head) : CallL Try.prog G 5 [headV h] [] (.tuple #[slv 0 0 (putH h).1.length (putH h).1.length, .int .i64 (putH h).2]) [rowB (putH h).1] := by
  refine walk (fn := Try.f5) (nt := 9) rfl rfl rfl rfl ?_
  refine c_hole 2 (H' := [hole, hole]) rfl ?_
  refine c_seq ?_
  refine c_reg ?_
  refine r_box (v := headV h) (b := bxB 36 (headC h)) (nid := 0) (H' := [bxB 36 (headC h), hole]) rfl rfl rfl (by kernel_rfl) (by kernel_rfl) ?_
  refine r_assign (v := .slice none 0 0) rfl rfl rfl ?_
  refine r_assign (v := .int .i64 0) rfl rfl rfl ?_
  refine r_doneN ?_
  refine x_then ?_
  refine c_seq ?_
  refine c_seq ?_
  refine c_reg ?_
  refine r_load (p := pt 0 0) (v := headV h) rfl rfl rfl (by kernel_rfl) ?_
  refine r_callP (refRight_ok (G := G) h) (vals := [headV h]) (res' := .bool (decide (rightH h))) rfl rfl rfl rfl rfl rfl ?_
  rcases Bool.eq_false_or_eq_true (decide (rightH h)) with h1 | h1
  · skip
    refine r_un (v := .bool false) (vx := .bool (decide (rightH h))) rfl rfl rfl (Eq.trans un_not (congrArg (fun b => some (Value.bool !b)) h1)) ?_
    refine r_doneN ?_
    refine x_then ?_
    refine c_false rfl ?_
    refine c_skip ?_
    refine x_then ?_
    refine c_seq ?_
    refine c_reg ?_
    refine r_load (p := pt 0 0) (v := headV h) rfl rfl rfl (by kernel_rfl) ?_
    refine r_callN (e := []) (nid := 1) (refBytes_ok (G := G) h (of_decide_eq_true (by assumption))) (vals := [headV h]) (v := slv 1 0 ((bytesR (headL h)).length) ((bytesR (headL h)).length)) (H' := [bxB 36 (headC h), rowB (bytesR (headL h))]) rfl rfl rfl rfl rfl rfl rfl ⟨⟨rfl, trivial⟩, trivial, rfl, rfl, rfl⟩ (by kernel_rfl) (by kernel_rfl) ?_
    refine r_assign (v := slv 1 0 ((bytesR (headL h)).length) ((bytesR (headL h)).length)) rfl rfl rfl ?_
    refine r_assign (v := .int .i64 0) rfl rfl rfl ?_
    refine r_doneN ?_
    refine x_then ?_
    refine c_ret ?_
    refine x_end ?_
    rw [putH_one (of_decide_eq_true (by assumption))]
    exact end_map [1] (v := .tuple #[slv 1 0 ((bytesR (headL h)).length) ((bytesR (headL h)).length), .int .i64 0]) rfl (by kernel_rfl) rfl rfl (by decide) (by simp [keptB, rowB]) ⟨⟨rfl, rfl, rfl, by first | omega | exact Nat.le_refl _ | exact Nat.zero_le _ | (dsimp only; omega), by first | omega | exact Nat.le_refl _ | exact Nat.zero_le _ | (dsimp only; omega)⟩, rfl, trivial⟩
  refine r_un (v := .bool true) (vx := .bool (decide (rightH h))) rfl rfl rfl (Eq.trans un_not (congrArg (fun b => some (Value.bool !b)) h1)) ?_
  refine r_doneN ?_
  refine x_then ?_
  refine c_true rfl ?_
  refine c_seq ?_
  refine c_reg ?_
  refine r_assign (v := .slice none 0 0) rfl rfl rfl ?_
  refine r_assign (v := .int .i64 70) rfl rfl rfl ?_
  refine r_doneN ?_
  refine x_then ?_
  refine c_weak (Weak.nilTmp (i := 2) (b := 1) true 1 rfl (by decide) rfl) ?_
  refine c_ret ?_
  refine x_thenR ?_
  refine x_end ?_
  rw [show putH h = ([], 70) from putH_neg (of_decide_eq_false (by assumption))]
  exact end_map [1] (v := .tuple #[slv 1 0 0 0, .int .i64 70]) rfl (by kernel_rfl) rfl rfl (by decide) (by simp [keptB, rowB]) ⟨⟨rfl, rfl, rfl, by first | omega | exact Nat.le_refl _ | exact Nat.zero_le _ | (dsimp only; omega), by first | omega | exact Nat.le_refl _ | exact Nat.zero_le _ | (dsimp only; omega)⟩, rfl, trivial⟩
theorem HeadBytes_ok (h : Head) : CallL Try.prog G 3 [headV h] [] (.bool true) [] := by
  refine walk (fn := Try.f3) (nt := 55) rfl rfl rfl rfl ?_
  refine c_hole 4 (H' := [hole, hole, hole, hole]) rfl ?_
  refine c_seq ?_
  refine c_reg ?_
  refine r_box (v := headV h) (b := bxB 36 (headC h)) (nid := 0) (H' := [bxB 36 (headC h), hole, hole, hole]) rfl rfl rfl (by kernel_rfl) (by kernel_rfl) ?_
  refine r_assign (v := .bool false) rfl rfl rfl ?_
  refine r_doneN ?_
  refine x_then ?_
  refine c_seq ?_
  refine c_reg ?_
  refine r_load (p := pt 0 0) (v := headV h) rfl rfl rfl (by kernel_rfl) ?_
  have hpe9 := putH_snd h
  have hpl9 := putH_len h
  refine r_callN (e := []) (nid := 1) (Put_ok (G := G) h) (vals := [headV h]) (v := .tuple #[slv 1 0 ((putH h).1.length) ((putH h).1.length), .int .i64 (((putH h).2))]) (H' := [bxB 36 (headC h), rowB ((putH h).1), hole, hole]) rfl rfl rfl rfl rfl rfl rfl ⟨⟨rfl, trivial⟩, trivial, rfl, rfl, rfl⟩ (by kernel_rfl) (by kernel_rfl) ?_
  refine r_move (v := .tuple #[slv 1 0 ((putH h).1.length) ((putH h).1.length), .int .i64 (((putH h).2))]) rfl rfl rfl ?_
  refine r_extract (vs := #[slv 1 0 ((putH h).1.length) ((putH h).1.length), .int .i64 (((putH h).2))]) (v := slv 1 0 ((putH h).1.length) ((putH h).1.length)) rfl rfl rfl rfl ?_
  refine r_extract (vs := #[slv 1 0 ((putH h).1.length) ((putH h).1.length), .int .i64 (((putH h).2))]) (v := .int .i64 (((putH h).2))) rfl rfl rfl rfl ?_
  refine r_assign (v := slv 1 0 ((putH h).1.length) ((putH h).1.length)) rfl rfl rfl ?_
  refine r_assign (v := .int .i64 (((putH h).2))) rfl rfl rfl ?_
  refine r_doneN ?_
  refine x_then ?_
  refine c_seq ?_
  refine c_reg ?_
  refine r_load (p := pt 0 0) (v := headV h) rfl rfl rfl (by kernel_rfl) ?_
  refine r_callN (e := []) (nid := 2) (refPut_ok (G := G) h) (vals := [headV h]) (v := .tuple #[slv 2 0 ((putH h).1.length) ((putH h).1.length), .int .i64 (((putH h).2))]) (H' := [bxB 36 (headC h), rowB ((putH h).1), rowB ((putH h).1), hole]) rfl rfl rfl rfl rfl rfl rfl ⟨⟨rfl, trivial⟩, trivial, rfl, rfl, rfl⟩ (by kernel_rfl) (by kernel_rfl) ?_
  refine r_move (v := .tuple #[slv 2 0 ((putH h).1.length) ((putH h).1.length), .int .i64 (((putH h).2))]) rfl rfl rfl ?_
  refine r_extract (vs := #[slv 2 0 ((putH h).1.length) ((putH h).1.length), .int .i64 (((putH h).2))]) (v := slv 2 0 ((putH h).1.length) ((putH h).1.length)) rfl rfl rfl rfl ?_
  refine r_extract (vs := #[slv 2 0 ((putH h).1.length) ((putH h).1.length), .int .i64 (((putH h).2))]) (v := .int .i64 (((putH h).2))) rfl rfl rfl rfl ?_
  refine r_assign (v := slv 2 0 ((putH h).1.length) ((putH h).1.length)) rfl rfl rfl ?_
  refine r_assign (v := .int .i64 (((putH h).2))) rfl rfl rfl ?_
  refine r_doneN ?_
  refine x_then ?_
  refine c_seq ?_
  refine c_reg ?_
  refine r_load (p := pt 0 0) (v := headV h) rfl rfl rfl (by kernel_rfl) ?_
  have hce10 := putH_snd h
  refine r_callP (Check_ok (G := G) h) (vals := [headV h]) (res' := .int .i64 ((checkE h))) rfl rfl rfl rfl rfl rfl ?_
  refine r_assign (v := .int .i64 ((checkE h))) rfl rfl rfl ?_
  refine r_doneN ?_
  refine x_then ?_
  refine c_seq ?_
  refine c_seq ?_
  refine c_reg ?_
  refine r_move (v := .int .i64 (((putH h).2))) rfl rfl rfl ?_
  refine r_move (v := .int .i64 (((putH h).2))) rfl rfl rfl ?_
  refine r_bin (v := .bool false) (vx := .int .i64 (((putH h).2))) (vy := .int .i64 (((putH h).2))) rfl rfl rfl rfl (neq_f (by omega)) ?_
  refine r_move (v := .bool false) rfl rfl rfl ?_
  refine r_move (v := slv 1 0 ((putH h).1.length) ((putH h).1.length)) rfl rfl rfl ?_
  refine r_str (p := slv 1 0 ((putH h).1.length) ((putH h).1.length)) (v := .string (strOf ((putH h).1))) rfl rfl rfl (str_whole rfl rfl rfl rfl rfl (by omega)) ?_
  refine r_move (v := slv 2 0 ((putH h).1.length) ((putH h).1.length)) rfl rfl rfl ?_
  refine r_str (p := slv 2 0 ((putH h).1.length) ((putH h).1.length)) (v := .string (strOf ((putH h).1))) rfl rfl rfl (str_whole rfl rfl rfl rfl rfl (by omega)) ?_
  refine r_bin (v := .bool false) (vx := .string (strOf ((putH h).1))) (vy := .string (strOf ((putH h).1))) rfl rfl rfl rfl (Eq.trans (neq_str _ _) (by rw [(sameT_refl _)] <;> rfl)) ?_
  refine r_pick (v := .bool false) rfl rfl rfl ?_
  refine r_move (v := .bool false) rfl rfl rfl ?_
  refine r_move (v := .int .i64 ((checkE h))) rfl rfl rfl ?_
  refine r_move (v := .int .i64 (((putH h).2))) rfl rfl rfl ?_
  refine r_bin (v := .bool false) (vx := .int .i64 ((checkE h))) (vy := .int .i64 (((putH h).2))) rfl rfl rfl rfl (neq_f (by omega)) ?_
  refine r_pick (v := .bool false) rfl rfl rfl ?_
  refine r_doneN ?_
  refine x_then ?_
  refine c_false rfl ?_
  refine c_skip ?_
  refine x_then ?_
  refine c_seq ?_
  refine c_seq ?_
  refine c_reg ?_
  refine r_move (v := .int .i64 (((putH h).2))) rfl rfl rfl ?_
  by_cases h1 : (((putH h).2)) ≠ 0
  · skip
    refine r_bin (v := .bool true) (vx := .int .i64 (((putH h).2))) (vy := .int .i64 0) rfl rfl rfl rfl (neq_t (by omega)) ?_
    refine r_doneN ?_
    refine x_then ?_
    refine c_true rfl ?_
    refine c_seq ?_
    refine c_reg ?_
    refine r_callP (lays_ok (G := G)) (vals := []) (res' := .bool true) rfl rfl rfl rfl rfl rfl ?_
    refine r_assign (v := .bool true) rfl rfl rfl ?_
    refine r_doneN ?_
    refine x_then ?_
    refine c_ret ?_
    refine x_thenR ?_
    refine x_end ?_
    exact end_pv (v := .bool true) rfl rfl rfl
  refine r_bin (v := .bool false) (vx := .int .i64 (((putH h).2))) (vy := .int .i64 0) rfl rfl rfl rfl (neq_f (by omega)) ?_
  refine r_doneN ?_
  refine x_then ?_
  refine c_false rfl ?_
  refine c_skip ?_
  refine x_then ?_
  refine c_seq ?_
  refine c_reg ?_
  refine r_move (v := slv 1 0 ((putH h).1.length) ((putH h).1.length)) rfl rfl rfl ?_
  have hgs11 := getH_of (h := h) (by omega)
  have hln11 := putH_len h
  have hg011 := hgs11.1
  refine r_callN (e := [some (1, 0)]) (nid := 0) (HGet_ok (G := G) ((putH h).1) ((putH h).1.length) ((putH h).1.length) rfl (by omega) (by omega)) (vals := [slv 1 0 ((putH h).1.length) ((putH h).1.length)]) (v := .tuple #[headV ((getH ((putH h).1)).1), .int .i64 (((getH ((putH h).1)).2))]) (H' := [bxB 36 (headC h), rowB ((putH h).1), rowB ((putH h).1), hole]) rfl rfl rfl rfl rfl rfl rfl ⟨⟨⟨rfl, rfl, rfl, by first | omega | exact Nat.le_refl _, by first | omega | exact Nat.le_refl _⟩, trivial⟩, ⟨(emb_rdW rfl), trivial⟩, rfl, rfl, rfl⟩ (by kernel_rfl) (by kernel_rfl) ?_
  refine r_move (v := .tuple #[headV ((getH ((putH h).1)).1), .int .i64 (((getH ((putH h).1)).2))]) rfl rfl rfl ?_
  refine r_extract (vs := #[headV ((getH ((putH h).1)).1), .int .i64 (((getH ((putH h).1)).2))]) (v := headV ((getH ((putH h).1)).1)) rfl rfl rfl rfl ?_
  refine r_extract (vs := #[headV ((getH ((putH h).1)).1), .int .i64 (((getH ((putH h).1)).2))]) (v := .int .i64 (((getH ((putH h).1)).2))) rfl rfl rfl rfl ?_
  refine r_alloc (b := bxB 36 (headC (⟨0, 0, 0, dz, 0⟩ : Head))) (nid := 3) (H' := [bxB 36 (headC h), rowB ((putH h).1), rowB ((putH h).1), bxB 36 (headC (⟨0, 0, 0, dz, 0⟩ : Head))]) rfl rfl (by kernel_rfl) (by kernel_rfl) ?_
  refine r_store (p := pt 3 0) (v := headV ((getH ((putH h).1)).1)) (b := 3) (blk := bxB 36 (headC ((getH ((putH h).1)).1))) (H' := [bxB 36 (headC h), rowB ((putH h).1), rowB ((putH h).1), bxB 36 (headC ((getH ((putH h).1)).1))]) rfl rfl rfl (by kernel_rfl) (by kernel_rfl) ?_
  refine r_assign (v := .int .i64 (((getH ((putH h).1)).2))) rfl rfl rfl ?_
  refine r_doneN ?_
  refine x_then ?_
  refine c_seq ?_
  refine c_reg ?_
  refine r_callP (lays_ok (G := G)) (vals := []) (res' := .bool true) rfl rfl rfl rfl rfl rfl ?_
  refine r_move (v := .bool true) rfl rfl rfl ?_
  refine r_move (v := .int .i64 (((getH ((putH h).1)).2))) rfl rfl rfl ?_
  refine r_bin (v := .bool true) (vx := .int .i64 (((getH ((putH h).1)).2))) (vy := .int .i64 0) rfl rfl rfl rfl (eql_t (by omega)) ?_
  refine r_pick (v := .bool true) rfl rfl rfl ?_
  refine r_move (v := .bool true) rfl rfl rfl ?_
  refine r_load (p := pt 3 0) (v := headV ((getH ((putH h).1)).1)) rfl rfl rfl (by kernel_rfl) ?_
  refine r_load (p := pt 0 0) (v := headV h) rfl rfl rfl (by kernel_rfl) ?_
  refine r_bin (v := .bool true) (vx := headV ((getH ((putH h).1)).1)) (vy := headV h) rfl rfl rfl rfl (Eq.trans (eql_Head ((getH ((putH h).1)).1) h) (by rw [hgs11.2] <;> rfl)) ?_
  refine r_pick (v := .bool true) rfl rfl rfl ?_
  refine r_assign (v := .bool true) rfl rfl rfl ?_
  refine r_doneN ?_
  refine x_then ?_
  refine c_ret ?_
  refine x_end ?_
  exact end_pv (v := .bool true) rfl rfl rfl
end Go.Flat
