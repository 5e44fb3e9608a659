/- Walks and plain laws: what each theorem says, within the bounds that it names. -/
import Derived.Test.YtmocngbbngnbmaaDoorH21
import Derived.Test.YtmocngbbngnbmaaDoorH25
set_option linter.unusedVariables false
set_option linter.unusedSimpArgs false
set_option maxRecDepth 20000
namespace Go.Flat
open Go.Proofs
variable {G : Glob}
theorem right_of {h : Head} (h0 : (putH h).2 = 0) : rightH h := by
  rw [putH_snd, checkE_eq] at h0
  split at h0
  · assumption
  · omega
theorem may_of {s : Signed} (h0 : (putSF s).2 = 0) : mayS s := by
  by_cases hm : mayS s
  · exact hm
  · rw [putSF_neg hm] at h0; exact absurd h0 (by decide)
theorem apartH {a b : Head} (ha : (putH a).2 = 0) (hb : (putH b).2 = 0) : sameT (strOf (putH a).1) (strOf (putH b).1) = eqHead a b := by
  rw [putH_one (right_of ha), putH_one (right_of hb)]; exact bytesH_inj (right_of ha) (right_of hb)
theorem apartS {s t : Signed} (ha : (putSF s).2 = 0) (hb : (putSF t).2 = 0) : sameT (strOf (putSF s).1) (strOf (putSF t).1) = eqSigned s t := by
  rw [putSF_pos (may_of ha), putSF_pos (may_of hb)]; exact bytesS_inj (may_of ha) (may_of hb)
theorem HeadApart_ok (kk : Nat → BitVec 32) (hG : G 0 = some (rowE w32 64 kk)) (hne : sameB 32 (tagT kk dz oneH 1) (tagT kk dz oneH 2) = false) (a b : Head) (s t : Signed) : CallL Tryd.prog G 5 [headV a, headV b, signedV s, signedV t] [] (.bool true) [] := by
  refine walk (fn := Tryd.f5) (nt := 77) rfl rfl rfl rfl ?_
  refine c_hole 8 (H' := [hole, hole, hole, hole, hole, hole, hole, hole]) rfl ?_
  refine c_seq ?_
  refine c_reg ?_
  refine r_box (v := headV a) (b := bxB 36 (headC a)) (nid := 0) (H' := [bxB 36 (headC a), hole, hole, hole, hole, hole, hole, hole]) rfl rfl rfl (by kernel_rfl) (by kernel_rfl) ?_
  refine r_box (v := headV b) (b := bxB 36 (headC b)) (nid := 1) (H' := [bxB 36 (headC a), bxB 36 (headC b), hole, hole, hole, hole, hole, hole]) rfl rfl rfl (by kernel_rfl) (by kernel_rfl) ?_
  refine r_box (v := signedV s) (b := bxB 69 (signedC s)) (nid := 2) (H' := [bxB 36 (headC a), bxB 36 (headC b), bxB 69 (signedC s), hole, hole, hole, hole, hole]) rfl rfl rfl (by kernel_rfl) (by kernel_rfl) ?_
  refine r_box (v := signedV t) (b := bxB 69 (signedC t)) (nid := 3) (H' := [bxB 36 (headC a), bxB 36 (headC b), bxB 69 (signedC s), bxB 69 (signedC t), hole, hole, hole, hole]) rfl rfl rfl (by kernel_rfl) (by kernel_rfl) ?_
  refine r_assign (v := .bool false) rfl rfl rfl ?_
  refine r_doneN ?_
  refine x_then ?_
  refine c_seq ?_
  refine c_reg ?_
  refine r_load (p := pt 0 0) (v := headV a) rfl rfl rfl (by kernel_rfl) ?_
  have hpe10 := putH_snd a
  have hpl10 := putH_len a
  refine r_callN (e := []) (nid := 4) (Put_ok (G := G) a) (vals := [headV a]) (v := .tuple #[slv 4 0 ((putH a).1.length) ((putH a).1.length), .int .i64 (((putH a).2))]) (H' := [bxB 36 (headC a), bxB 36 (headC b), bxB 69 (signedC s), bxB 69 (signedC t), rowB ((putH a).1), hole, hole, hole]) rfl rfl rfl rfl rfl rfl rfl ⟨⟨rfl, trivial⟩, trivial, rfl, rfl, rfl⟩ (by kernel_rfl) (by kernel_rfl) ?_
  refine r_move (v := .tuple #[slv 4 0 ((putH a).1.length) ((putH a).1.length), .int .i64 (((putH a).2))]) rfl rfl rfl ?_
  refine r_extract (vs := #[slv 4 0 ((putH a).1.length) ((putH a).1.length), .int .i64 (((putH a).2))]) (v := slv 4 0 ((putH a).1.length) ((putH a).1.length)) rfl rfl rfl rfl ?_
  refine r_extract (vs := #[slv 4 0 ((putH a).1.length) ((putH a).1.length), .int .i64 (((putH a).2))]) (v := .int .i64 (((putH a).2))) rfl rfl rfl rfl ?_
  refine r_assign (v := slv 4 0 ((putH a).1.length) ((putH a).1.length)) rfl rfl rfl ?_
  refine r_assign (v := .int .i64 (((putH a).2))) rfl rfl rfl ?_
  refine r_doneN ?_
  refine x_then ?_
  refine c_seq ?_
  refine c_reg ?_
  refine r_load (p := pt 1 0) (v := headV b) rfl rfl rfl (by kernel_rfl) ?_
  have hpe11 := putH_snd b
  have hpl11 := putH_len b
  refine r_callN (e := []) (nid := 5) (Put_ok (G := G) b) (vals := [headV b]) (v := .tuple #[slv 5 0 ((putH b).1.length) ((putH b).1.length), .int .i64 (((putH b).2))]) (H' := [bxB 36 (headC a), bxB 36 (headC b), bxB 69 (signedC s), bxB 69 (signedC t), rowB ((putH a).1), rowB ((putH b).1), hole, hole]) rfl rfl rfl rfl rfl rfl rfl ⟨⟨rfl, trivial⟩, trivial, rfl, rfl, rfl⟩ (by kernel_rfl) (by kernel_rfl) ?_
  refine r_move (v := .tuple #[slv 5 0 ((putH b).1.length) ((putH b).1.length), .int .i64 (((putH b).2))]) rfl rfl rfl ?_
  refine r_extract (vs := #[slv 5 0 ((putH b).1.length) ((putH b).1.length), .int .i64 (((putH b).2))]) (v := slv 5 0 ((putH b).1.length) ((putH b).1.length)) rfl rfl rfl rfl ?_
  refine r_extract (vs := #[slv 5 0 ((putH b).1.length) ((putH b).1.length), .int .i64 (((putH b).2))]) (v := .int .i64 (((putH b).2))) rfl rfl rfl rfl ?_
  refine r_assign (v := slv 5 0 ((putH b).1.length) ((putH b).1.length)) rfl rfl rfl ?_
  refine r_assign (v := .int .i64 (((putH b).2))) rfl rfl rfl ?_
  refine r_doneN ?_
  refine x_then ?_
  refine c_seq ?_
  refine c_reg ?_
  refine r_load (p := pt 2 0) (v := signedV s) rfl rfl rfl (by kernel_rfl) ?_
  refine r_callN (e := []) (nid := 6) (PutSigned_ok (G := G) s) (vals := [signedV s]) (v := .tuple #[slv 6 0 ((putSF s).1.length) ((putSF s).1.length), .int .i64 (((putSF s).2))]) (H' := [bxB 36 (headC a), bxB 36 (headC b), bxB 69 (signedC s), bxB 69 (signedC t), rowB ((putH a).1), rowB ((putH b).1), rowB ((putSF s).1), hole]) rfl rfl rfl rfl rfl rfl rfl ⟨⟨rfl, trivial⟩, trivial, rfl, rfl, rfl⟩ (by kernel_rfl) (by kernel_rfl) ?_
  refine r_move (v := .tuple #[slv 6 0 ((putSF s).1.length) ((putSF s).1.length), .int .i64 (((putSF s).2))]) rfl rfl rfl ?_
  refine r_extract (vs := #[slv 6 0 ((putSF s).1.length) ((putSF s).1.length), .int .i64 (((putSF s).2))]) (v := slv 6 0 ((putSF s).1.length) ((putSF s).1.length)) rfl rfl rfl rfl ?_
  refine r_extract (vs := #[slv 6 0 ((putSF s).1.length) ((putSF s).1.length), .int .i64 (((putSF s).2))]) (v := .int .i64 (((putSF s).2))) rfl rfl rfl rfl ?_
  refine r_assign (v := slv 6 0 ((putSF s).1.length) ((putSF s).1.length)) rfl rfl rfl ?_
  refine r_assign (v := .int .i64 (((putSF s).2))) rfl rfl rfl ?_
  refine r_doneN ?_
  refine x_then ?_
  refine c_seq ?_
  refine c_reg ?_
  refine r_load (p := pt 3 0) (v := signedV t) rfl rfl rfl (by kernel_rfl) ?_
  refine r_callN (e := []) (nid := 7) (PutSigned_ok (G := G) t) (vals := [signedV t]) (v := .tuple #[slv 7 0 ((putSF t).1.length) ((putSF t).1.length), .int .i64 (((putSF t).2))]) (H' := [bxB 36 (headC a), bxB 36 (headC b), bxB 69 (signedC s), bxB 69 (signedC t), rowB ((putH a).1), rowB ((putH b).1), rowB ((putSF s).1), rowB ((putSF t).1)]) rfl rfl rfl rfl rfl rfl rfl ⟨⟨rfl, trivial⟩, trivial, rfl, rfl, rfl⟩ (by kernel_rfl) (by kernel_rfl) ?_
  refine r_move (v := .tuple #[slv 7 0 ((putSF t).1.length) ((putSF t).1.length), .int .i64 (((putSF t).2))]) rfl rfl rfl ?_
  refine r_extract (vs := #[slv 7 0 ((putSF t).1.length) ((putSF t).1.length), .int .i64 (((putSF t).2))]) (v := slv 7 0 ((putSF t).1.length) ((putSF t).1.length)) rfl rfl rfl rfl ?_
  refine r_extract (vs := #[slv 7 0 ((putSF t).1.length) ((putSF t).1.length), .int .i64 (((putSF t).2))]) (v := .int .i64 (((putSF t).2))) rfl rfl rfl rfl ?_
  refine r_assign (v := slv 7 0 ((putSF t).1.length) ((putSF t).1.length)) rfl rfl rfl ?_
  refine r_assign (v := .int .i64 (((putSF t).2))) rfl rfl rfl ?_
  refine r_doneN ?_
  refine x_then ?_
  refine c_seq ?_
  refine c_seq ?_
  refine c_draw (by kernel_rfl) ?_
  refine r_move (v := .int .i64 (((putH a).2))) rfl rfl rfl ?_
  by_cases h1 : (((putH a).2)) = 0
  · skip
    refine r_bin (v := .bool true) (vx := .int .i64 (((putH a).2))) (vy := .int .i64 0) rfl rfl rfl rfl (eql_t (by omega)) ?_
    refine r_move (v := .bool true) rfl rfl rfl ?_
    refine r_move (v := .int .i64 (((putH b).2))) rfl rfl rfl ?_
    by_cases h2 : (((putH b).2)) = 0
    · skip
      refine r_bin (v := .bool true) (vx := .int .i64 (((putH b).2))) (vy := .int .i64 0) rfl rfl rfl rfl (eql_t (by omega)) ?_
      refine r_pick (v := .bool true) rfl rfl rfl ?_
      refine r_move (v := .bool true) rfl rfl rfl ?_
      refine r_move (v := slv 4 0 ((putH a).1.length) ((putH a).1.length)) rfl rfl rfl ?_
      refine r_str (p := slv 4 0 ((putH a).1.length) ((putH a).1.length)) (v := .string (strOf ((putH a).1))) rfl rfl rfl (str_whole rfl rfl rfl rfl rfl (by omega)) ?_
      refine r_move (v := slv 5 0 ((putH b).1.length) ((putH b).1.length)) rfl rfl rfl ?_
      refine r_str (p := slv 5 0 ((putH b).1.length) ((putH b).1.length)) (v := .string (strOf ((putH b).1))) rfl rfl rfl (str_whole rfl rfl rfl rfl rfl (by omega)) ?_
      rcases Bool.eq_false_or_eq_true (sameT (strOf ((putH a).1)) (strOf ((putH b).1))) with h3 | h3
      · skip
        refine r_bin (v := .bool true) (vx := .string (strOf ((putH a).1))) (vy := .string (strOf ((putH b).1))) rfl rfl rfl rfl (Eq.trans (eql_str _ _) (by rw [h3] <;> rfl)) ?_
        refine r_load (p := pt 0 0) (v := headV a) rfl rfl rfl (by kernel_rfl) ?_
        refine r_load (p := pt 1 0) (v := headV b) rfl rfl rfl (by kernel_rfl) ?_
        rcases Bool.eq_false_or_eq_true (eqHead a b) with h4 | h4
        · skip
          refine r_bin (v := .bool true) (vx := headV a) (vy := headV b) rfl rfl rfl rfl (Eq.trans (eql_Head a b) (by rw [h4] <;> rfl)) ?_
          refine r_bin (v := .bool false) (vx := .bool true) (vy := .bool true) rfl rfl rfl rfl (neqB' rfl rfl rfl) ?_
          refine r_pick (v := .bool false) rfl rfl rfl ?_
          refine r_doneD (by kernel_rfl) ?_
          refine x_then ?_
          refine c_false rfl ?_
          refine c_skip ?_
          refine x_then ?_
          refine c_seq ?_
          refine c_drawK (by kernel_rfl) ?_
          refine r_callP (lays_ok (G := G)) (vals := []) (res' := .bool true) rfl rfl rfl rfl rfl rfl ?_
          refine r_move (v := .bool true) rfl rfl rfl ?_
          refine r_callP (signs_ok (G := G) kk hG hne) (vals := []) (res' := .bool true) rfl rfl rfl rfl rfl rfl ?_
          refine r_pick (v := .bool true) rfl rfl rfl ?_
          refine r_move (v := .bool true) rfl rfl rfl ?_
          refine r_move (v := .int .i64 (((putSF s).2))) rfl rfl rfl ?_
          by_cases h5 : (((putSF s).2)) ≠ 0
          · skip
            refine r_bin (v := .bool true) (vx := .int .i64 (((putSF s).2))) (vy := .int .i64 0) rfl rfl rfl rfl (neq_t (by omega)) ?_
            refine r_move (v := .bool true) rfl rfl rfl ?_
            refine r_skip rfl rfl ?_
            refine r_skip rfl rfl ?_
            refine r_pick (v := .bool true) rfl rfl rfl ?_
            refine r_move (v := .bool true) rfl rfl rfl ?_
            refine r_skip rfl rfl ?_
            refine r_skip rfl rfl ?_
            refine r_skip rfl rfl ?_
            refine r_skip rfl rfl ?_
            refine r_skip rfl rfl ?_
            refine r_skip rfl rfl ?_
            refine r_skip rfl rfl ?_
            refine r_skip rfl rfl ?_
            refine r_skip rfl rfl ?_
            refine r_pick (v := .bool true) rfl rfl rfl ?_
            refine r_pick (v := .bool true) rfl rfl rfl ?_
            refine r_assign (v := .bool true) rfl rfl rfl ?_
            refine r_doneK (by kernel_rfl) ?_
            refine x_then ?_
            refine c_ret ?_
            refine x_end ?_
            exact end_pv (v := .bool true) rfl rfl rfl
          refine r_bin (v := .bool false) (vx := .int .i64 (((putSF s).2))) (vy := .int .i64 0) rfl rfl rfl rfl (neq_f (by omega)) ?_
          refine r_move (v := .bool false) rfl rfl rfl ?_
          refine r_move (v := .int .i64 (((putSF t).2))) rfl rfl rfl ?_
          by_cases h6 : (((putSF t).2)) ≠ 0
          · skip
            refine r_bin (v := .bool true) (vx := .int .i64 (((putSF t).2))) (vy := .int .i64 0) rfl rfl rfl rfl (neq_t (by omega)) ?_
            refine r_pick (v := .bool true) rfl rfl rfl ?_
            refine r_move (v := .bool true) rfl rfl rfl ?_
            refine r_skip rfl rfl ?_
            refine r_skip rfl rfl ?_
            refine r_skip rfl rfl ?_
            refine r_skip rfl rfl ?_
            refine r_skip rfl rfl ?_
            refine r_skip rfl rfl ?_
            refine r_skip rfl rfl ?_
            refine r_skip rfl rfl ?_
            refine r_skip rfl rfl ?_
            refine r_pick (v := .bool true) rfl rfl rfl ?_
            refine r_pick (v := .bool true) rfl rfl rfl ?_
            refine r_assign (v := .bool true) rfl rfl rfl ?_
            refine r_doneK (by kernel_rfl) ?_
            refine x_then ?_
            refine c_ret ?_
            refine x_end ?_
            exact end_pv (v := .bool true) rfl rfl rfl
          refine r_bin (v := .bool false) (vx := .int .i64 (((putSF t).2))) (vy := .int .i64 0) rfl rfl rfl rfl (neq_f (by omega)) ?_
          refine r_pick (v := .bool false) rfl rfl rfl ?_
          refine r_move (v := .bool false) rfl rfl rfl ?_
          refine r_move (v := slv 6 0 ((putSF s).1.length) ((putSF s).1.length)) rfl rfl rfl ?_
          refine r_str (p := slv 6 0 ((putSF s).1.length) ((putSF s).1.length)) (v := .string (strOf ((putSF s).1))) rfl rfl rfl (str_whole rfl rfl rfl rfl rfl (by omega)) ?_
          refine r_move (v := slv 7 0 ((putSF t).1.length) ((putSF t).1.length)) rfl rfl rfl ?_
          refine r_str (p := slv 7 0 ((putSF t).1.length) ((putSF t).1.length)) (v := .string (strOf ((putSF t).1))) rfl rfl rfl (str_whole rfl rfl rfl rfl rfl (by omega)) ?_
          rcases Bool.eq_false_or_eq_true (sameT (strOf ((putSF s).1)) (strOf ((putSF t).1))) with h7 | h7
          · skip
            refine r_bin (v := .bool true) (vx := .string (strOf ((putSF s).1))) (vy := .string (strOf ((putSF t).1))) rfl rfl rfl rfl (Eq.trans (eql_str _ _) (by rw [h7] <;> rfl)) ?_
            refine r_load (p := pt 2 0) (v := signedV s) rfl rfl rfl (by kernel_rfl) ?_
            refine r_load (p := pt 3 0) (v := signedV t) rfl rfl rfl (by kernel_rfl) ?_
            rcases Bool.eq_false_or_eq_true (eqSigned s t) with h8 | h8
            · skip
              refine r_bin (v := .bool true) (vx := signedV s) (vy := signedV t) rfl rfl rfl rfl (Eq.trans (eql_Signed s t) (by rw [h8] <;> rfl)) ?_
              refine r_bin (v := .bool true) (vx := .bool true) (vy := .bool true) rfl rfl rfl rfl (eqlB' rfl rfl rfl) ?_
              refine r_pick (v := .bool true) rfl rfl rfl ?_
              refine r_pick (v := .bool true) rfl rfl rfl ?_
              refine r_assign (v := .bool true) rfl rfl rfl ?_
              refine r_doneK (by kernel_rfl) ?_
              refine x_then ?_
              refine c_ret ?_
              refine x_end ?_
              exact end_pv (v := .bool true) rfl rfl rfl
            refine r_bin (v := .bool false) (vx := signedV s) (vy := signedV t) rfl rfl rfl rfl (Eq.trans (eql_Signed s t) (by rw [h8] <;> rfl)) ?_
            refine r_bin (v := .bool false) (vx := .bool true) (vy := .bool false) rfl rfl rfl rfl (eqlB' rfl rfl rfl) ?_
            refine r_pick (v := .bool false) rfl rfl rfl ?_
            refine r_pick (v := .bool false) rfl rfl rfl ?_
            refine r_assign (v := .bool false) rfl rfl rfl ?_
            refine r_doneK (by kernel_rfl) ?_
            refine x_then ?_
            refine c_ret ?_
            refine x_end ?_
            exfalso
            first | (have i1 := apartH (a := a) (b := b) (by omega) (by omega); simp_all; done) | (have i2 := apartS (s := s) (t := t) (by omega) (by omega); simp_all; done)
          refine r_bin (v := .bool false) (vx := .string (strOf ((putSF s).1))) (vy := .string (strOf ((putSF t).1))) rfl rfl rfl rfl (Eq.trans (eql_str _ _) (by rw [h7] <;> rfl)) ?_
          refine r_load (p := pt 2 0) (v := signedV s) rfl rfl rfl (by kernel_rfl) ?_
          refine r_load (p := pt 3 0) (v := signedV t) rfl rfl rfl (by kernel_rfl) ?_
          rcases Bool.eq_false_or_eq_true (eqSigned s t) with h9 | h9
          · skip
            refine r_bin (v := .bool true) (vx := signedV s) (vy := signedV t) rfl rfl rfl rfl (Eq.trans (eql_Signed s t) (by rw [h9] <;> rfl)) ?_
            refine r_bin (v := .bool false) (vx := .bool false) (vy := .bool true) rfl rfl rfl rfl (eqlB' rfl rfl rfl) ?_
            refine r_pick (v := .bool false) rfl rfl rfl ?_
            refine r_pick (v := .bool false) rfl rfl rfl ?_
            refine r_assign (v := .bool false) rfl rfl rfl ?_
            refine r_doneK (by kernel_rfl) ?_
            refine x_then ?_
            refine c_ret ?_
            refine x_end ?_
            exfalso
            first | (have i1 := apartH (a := a) (b := b) (by omega) (by omega); simp_all; done) | (have i2 := apartS (s := s) (t := t) (by omega) (by omega); simp_all; done)
          refine r_bin (v := .bool false) (vx := signedV s) (vy := signedV t) rfl rfl rfl rfl (Eq.trans (eql_Signed s t) (by rw [h9] <;> rfl)) ?_
          refine r_bin (v := .bool true) (vx := .bool false) (vy := .bool false) rfl rfl rfl rfl (eqlB' rfl rfl rfl) ?_
          refine r_pick (v := .bool true) rfl rfl rfl ?_
          refine r_pick (v := .bool true) rfl rfl rfl ?_
          refine r_assign (v := .bool true) rfl rfl rfl ?_
          refine r_doneK (by kernel_rfl) ?_
          refine x_then ?_
          refine c_ret ?_
          refine x_end ?_
          exact end_pv (v := .bool true) rfl rfl rfl
        refine r_bin (v := .bool false) (vx := headV a) (vy := headV b) rfl rfl rfl rfl (Eq.trans (eql_Head a b) (by rw [h4] <;> rfl)) ?_
        refine r_bin (v := .bool true) (vx := .bool true) (vy := .bool false) rfl rfl rfl rfl (neqB' rfl rfl rfl) ?_
        refine r_pick (v := .bool true) rfl rfl rfl ?_
        refine r_doneD (by kernel_rfl) ?_
        refine x_then ?_
        refine c_true rfl ?_
        refine c_seq ?_
        refine c_reg ?_
        refine r_assign (v := .bool false) rfl rfl rfl ?_
        refine r_doneN ?_
        refine x_then ?_
        refine c_ret ?_
        refine x_thenR ?_
        refine x_end ?_
        exfalso
        first | (have i1 := apartH (a := a) (b := b) (by omega) (by omega); simp_all; done) | (have i2 := apartS (s := s) (t := t) (by omega) (by omega); simp_all; done)
      refine r_bin (v := .bool false) (vx := .string (strOf ((putH a).1))) (vy := .string (strOf ((putH b).1))) rfl rfl rfl rfl (Eq.trans (eql_str _ _) (by rw [h3] <;> rfl)) ?_
      refine r_load (p := pt 0 0) (v := headV a) rfl rfl rfl (by kernel_rfl) ?_
      refine r_load (p := pt 1 0) (v := headV b) rfl rfl rfl (by kernel_rfl) ?_
      rcases Bool.eq_false_or_eq_true (eqHead a b) with h10 | h10
      · skip
        refine r_bin (v := .bool true) (vx := headV a) (vy := headV b) rfl rfl rfl rfl (Eq.trans (eql_Head a b) (by rw [h10] <;> rfl)) ?_
        refine r_bin (v := .bool true) (vx := .bool false) (vy := .bool true) rfl rfl rfl rfl (neqB' rfl rfl rfl) ?_
        refine r_pick (v := .bool true) rfl rfl rfl ?_
        refine r_doneD (by kernel_rfl) ?_
        refine x_then ?_
        refine c_true rfl ?_
        refine c_seq ?_
        refine c_reg ?_
        refine r_assign (v := .bool false) rfl rfl rfl ?_
        refine r_doneN ?_
        refine x_then ?_
        refine c_ret ?_
        refine x_thenR ?_
        refine x_end ?_
        exfalso
        first | (have i1 := apartH (a := a) (b := b) (by omega) (by omega); simp_all; done) | (have i2 := apartS (s := s) (t := t) (by omega) (by omega); simp_all; done)
      refine r_bin (v := .bool false) (vx := headV a) (vy := headV b) rfl rfl rfl rfl (Eq.trans (eql_Head a b) (by rw [h10] <;> rfl)) ?_
      refine r_bin (v := .bool false) (vx := .bool false) (vy := .bool false) rfl rfl rfl rfl (neqB' rfl rfl rfl) ?_
      refine r_pick (v := .bool false) rfl rfl rfl ?_
      refine r_doneD (by kernel_rfl) ?_
      refine x_then ?_
      refine c_false rfl ?_
      refine c_skip ?_
      refine x_then ?_
      refine c_seq ?_
      refine c_drawK (by kernel_rfl) ?_
      refine r_callP (lays_ok (G := G)) (vals := []) (res' := .bool true) rfl rfl rfl rfl rfl rfl ?_
      refine r_move (v := .bool true) rfl rfl rfl ?_
      refine r_callP (signs_ok (G := G) kk hG hne) (vals := []) (res' := .bool true) rfl rfl rfl rfl rfl rfl ?_
      refine r_pick (v := .bool true) rfl rfl rfl ?_
      refine r_move (v := .bool true) rfl rfl rfl ?_
      refine r_move (v := .int .i64 (((putSF s).2))) rfl rfl rfl ?_
      by_cases h11 : (((putSF s).2)) ≠ 0
      · skip
        refine r_bin (v := .bool true) (vx := .int .i64 (((putSF s).2))) (vy := .int .i64 0) rfl rfl rfl rfl (neq_t (by omega)) ?_
        refine r_move (v := .bool true) rfl rfl rfl ?_
        refine r_skip rfl rfl ?_
        refine r_skip rfl rfl ?_
        refine r_pick (v := .bool true) rfl rfl rfl ?_
        refine r_move (v := .bool true) rfl rfl rfl ?_
        refine r_skip rfl rfl ?_
        refine r_skip rfl rfl ?_
        refine r_skip rfl rfl ?_
        refine r_skip rfl rfl ?_
        refine r_skip rfl rfl ?_
        refine r_skip rfl rfl ?_
        refine r_skip rfl rfl ?_
        refine r_skip rfl rfl ?_
        refine r_skip rfl rfl ?_
        refine r_pick (v := .bool true) rfl rfl rfl ?_
        refine r_pick (v := .bool true) rfl rfl rfl ?_
        refine r_assign (v := .bool true) rfl rfl rfl ?_
        refine r_doneK (by kernel_rfl) ?_
        refine x_then ?_
        refine c_ret ?_
        refine x_end ?_
        exact end_pv (v := .bool true) rfl rfl rfl
      refine r_bin (v := .bool false) (vx := .int .i64 (((putSF s).2))) (vy := .int .i64 0) rfl rfl rfl rfl (neq_f (by omega)) ?_
      refine r_move (v := .bool false) rfl rfl rfl ?_
      refine r_move (v := .int .i64 (((putSF t).2))) rfl rfl rfl ?_
      by_cases h12 : (((putSF t).2)) ≠ 0
      · skip
        refine r_bin (v := .bool true) (vx := .int .i64 (((putSF t).2))) (vy := .int .i64 0) rfl rfl rfl rfl (neq_t (by omega)) ?_
        refine r_pick (v := .bool true) rfl rfl rfl ?_
        refine r_move (v := .bool true) rfl rfl rfl ?_
        refine r_skip rfl rfl ?_
        refine r_skip rfl rfl ?_
        refine r_skip rfl rfl ?_
        refine r_skip rfl rfl ?_
        refine r_skip rfl rfl ?_
        refine r_skip rfl rfl ?_
        refine r_skip rfl rfl ?_
        refine r_skip rfl rfl ?_
        refine r_skip rfl rfl ?_
        refine r_pick (v := .bool true) rfl rfl rfl ?_
        refine r_pick (v := .bool true) rfl rfl rfl ?_
        refine r_assign (v := .bool true) rfl rfl rfl ?_
        refine r_doneK (by kernel_rfl) ?_
        refine x_then ?_
        refine c_ret ?_
        refine x_end ?_
        exact end_pv (v := .bool true) rfl rfl rfl
      refine r_bin (v := .bool false) (vx := .int .i64 (((putSF t).2))) (vy := .int .i64 0) rfl rfl rfl rfl (neq_f (by omega)) ?_
      refine r_pick (v := .bool false) rfl rfl rfl ?_
      refine r_move (v := .bool false) rfl rfl rfl ?_
      refine r_move (v := slv 6 0 ((putSF s).1.length) ((putSF s).1.length)) rfl rfl rfl ?_
      refine r_str (p := slv 6 0 ((putSF s).1.length) ((putSF s).1.length)) (v := .string (strOf ((putSF s).1))) rfl rfl rfl (str_whole rfl rfl rfl rfl rfl (by omega)) ?_
      refine r_move (v := slv 7 0 ((putSF t).1.length) ((putSF t).1.length)) rfl rfl rfl ?_
      refine r_str (p := slv 7 0 ((putSF t).1.length) ((putSF t).1.length)) (v := .string (strOf ((putSF t).1))) rfl rfl rfl (str_whole rfl rfl rfl rfl rfl (by omega)) ?_
      rcases Bool.eq_false_or_eq_true (sameT (strOf ((putSF s).1)) (strOf ((putSF t).1))) with h13 | h13
      · skip
        refine r_bin (v := .bool true) (vx := .string (strOf ((putSF s).1))) (vy := .string (strOf ((putSF t).1))) rfl rfl rfl rfl (Eq.trans (eql_str _ _) (by rw [h13] <;> rfl)) ?_
        refine r_load (p := pt 2 0) (v := signedV s) rfl rfl rfl (by kernel_rfl) ?_
        refine r_load (p := pt 3 0) (v := signedV t) rfl rfl rfl (by kernel_rfl) ?_
        rcases Bool.eq_false_or_eq_true (eqSigned s t) with h14 | h14
        · skip
          refine r_bin (v := .bool true) (vx := signedV s) (vy := signedV t) rfl rfl rfl rfl (Eq.trans (eql_Signed s t) (by rw [h14] <;> rfl)) ?_
          refine r_bin (v := .bool true) (vx := .bool true) (vy := .bool true) rfl rfl rfl rfl (eqlB' rfl rfl rfl) ?_
          refine r_pick (v := .bool true) rfl rfl rfl ?_
          refine r_pick (v := .bool true) rfl rfl rfl ?_
          refine r_assign (v := .bool true) rfl rfl rfl ?_
          refine r_doneK (by kernel_rfl) ?_
          refine x_then ?_
          refine c_ret ?_
          refine x_end ?_
          exact end_pv (v := .bool true) rfl rfl rfl
        refine r_bin (v := .bool false) (vx := signedV s) (vy := signedV t) rfl rfl rfl rfl (Eq.trans (eql_Signed s t) (by rw [h14] <;> rfl)) ?_
        refine r_bin (v := .bool false) (vx := .bool true) (vy := .bool false) rfl rfl rfl rfl (eqlB' rfl rfl rfl) ?_
        refine r_pick (v := .bool false) rfl rfl rfl ?_
        refine r_pick (v := .bool false) rfl rfl rfl ?_
        refine r_assign (v := .bool false) rfl rfl rfl ?_
        refine r_doneK (by kernel_rfl) ?_
        refine x_then ?_
        refine c_ret ?_
        refine x_end ?_
        exfalso
        first | (have i1 := apartH (a := a) (b := b) (by omega) (by omega); simp_all; done) | (have i2 := apartS (s := s) (t := t) (by omega) (by omega); simp_all; done)
      refine r_bin (v := .bool false) (vx := .string (strOf ((putSF s).1))) (vy := .string (strOf ((putSF t).1))) rfl rfl rfl rfl (Eq.trans (eql_str _ _) (by rw [h13] <;> rfl)) ?_
      refine r_load (p := pt 2 0) (v := signedV s) rfl rfl rfl (by kernel_rfl) ?_
      refine r_load (p := pt 3 0) (v := signedV t) rfl rfl rfl (by kernel_rfl) ?_
      rcases Bool.eq_false_or_eq_true (eqSigned s t) with h15 | h15
      · skip
        refine r_bin (v := .bool true) (vx := signedV s) (vy := signedV t) rfl rfl rfl rfl (Eq.trans (eql_Signed s t) (by rw [h15] <;> rfl)) ?_
        refine r_bin (v := .bool false) (vx := .bool false) (vy := .bool true) rfl rfl rfl rfl (eqlB' rfl rfl rfl) ?_
        refine r_pick (v := .bool false) rfl rfl rfl ?_
        refine r_pick (v := .bool false) rfl rfl rfl ?_
        refine r_assign (v := .bool false) rfl rfl rfl ?_
        refine r_doneK (by kernel_rfl) ?_
        refine x_then ?_
        refine c_ret ?_
        refine x_end ?_
        exfalso
        first | (have i1 := apartH (a := a) (b := b) (by omega) (by omega); simp_all; done) | (have i2 := apartS (s := s) (t := t) (by omega) (by omega); simp_all; done)
      refine r_bin (v := .bool false) (vx := signedV s) (vy := signedV t) rfl rfl rfl rfl (Eq.trans (eql_Signed s t) (by rw [h15] <;> rfl)) ?_
      refine r_bin (v := .bool true) (vx := .bool false) (vy := .bool false) rfl rfl rfl rfl (eqlB' rfl rfl rfl) ?_
      refine r_pick (v := .bool true) rfl rfl rfl ?_
      refine r_pick (v := .bool true) rfl rfl rfl ?_
      refine r_assign (v := .bool true) rfl rfl rfl ?_
      refine r_doneK (by kernel_rfl) ?_
      refine x_then ?_
      refine c_ret ?_
      refine x_end ?_
      exact end_pv (v := .bool true) rfl rfl rfl
    refine r_bin (v := .bool false) (vx := .int .i64 (((putH b).2))) (vy := .int .i64 0) rfl rfl rfl rfl (eql_f (by omega)) ?_
    refine r_pick (v := .bool false) rfl rfl rfl ?_
    refine r_move (v := .bool false) rfl rfl rfl ?_
    refine r_skip rfl rfl ?_
    refine r_skip rfl rfl ?_
    refine r_skip rfl rfl ?_
    refine r_skip rfl rfl ?_
    refine r_skip rfl rfl ?_
    refine r_skip rfl rfl ?_
    refine r_skip rfl rfl ?_
    refine r_skip rfl rfl ?_
    refine r_skip rfl rfl ?_
    refine r_pick (v := .bool false) rfl rfl rfl ?_
    refine r_doneD (by kernel_rfl) ?_
    refine x_then ?_
    refine c_false rfl ?_
    refine c_skip ?_
    refine x_then ?_
    refine c_seq ?_
    refine c_drawK (by kernel_rfl) ?_
    refine r_callP (lays_ok (G := G)) (vals := []) (res' := .bool true) rfl rfl rfl rfl rfl rfl ?_
    refine r_move (v := .bool true) rfl rfl rfl ?_
    refine r_callP (signs_ok (G := G) kk hG hne) (vals := []) (res' := .bool true) rfl rfl rfl rfl rfl rfl ?_
    refine r_pick (v := .bool true) rfl rfl rfl ?_
    refine r_move (v := .bool true) rfl rfl rfl ?_
    refine r_move (v := .int .i64 (((putSF s).2))) rfl rfl rfl ?_
    by_cases h16 : (((putSF s).2)) ≠ 0
    · skip
      refine r_bin (v := .bool true) (vx := .int .i64 (((putSF s).2))) (vy := .int .i64 0) rfl rfl rfl rfl (neq_t (by omega)) ?_
      refine r_move (v := .bool true) rfl rfl rfl ?_
      refine r_skip rfl rfl ?_
      refine r_skip rfl rfl ?_
      refine r_pick (v := .bool true) rfl rfl rfl ?_
      refine r_move (v := .bool true) rfl rfl rfl ?_
      refine r_skip rfl rfl ?_
      refine r_skip rfl rfl ?_
      refine r_skip rfl rfl ?_
      refine r_skip rfl rfl ?_
      refine r_skip rfl rfl ?_
      refine r_skip rfl rfl ?_
      refine r_skip rfl rfl ?_
      refine r_skip rfl rfl ?_
      refine r_skip rfl rfl ?_
      refine r_pick (v := .bool true) rfl rfl rfl ?_
      refine r_pick (v := .bool true) rfl rfl rfl ?_
      refine r_assign (v := .bool true) rfl rfl rfl ?_
      refine r_doneK (by kernel_rfl) ?_
      refine x_then ?_
      refine c_ret ?_
      refine x_end ?_
      exact end_pv (v := .bool true) rfl rfl rfl
    refine r_bin (v := .bool false) (vx := .int .i64 (((putSF s).2))) (vy := .int .i64 0) rfl rfl rfl rfl (neq_f (by omega)) ?_
    refine r_move (v := .bool false) rfl rfl rfl ?_
    refine r_move (v := .int .i64 (((putSF t).2))) rfl rfl rfl ?_
    by_cases h17 : (((putSF t).2)) ≠ 0
    · skip
      refine r_bin (v := .bool true) (vx := .int .i64 (((putSF t).2))) (vy := .int .i64 0) rfl rfl rfl rfl (neq_t (by omega)) ?_
      refine r_pick (v := .bool true) rfl rfl rfl ?_
      refine r_move (v := .bool true) rfl rfl rfl ?_
      refine r_skip rfl rfl ?_
      refine r_skip rfl rfl ?_
      refine r_skip rfl rfl ?_
      refine r_skip rfl rfl ?_
      refine r_skip rfl rfl ?_
      refine r_skip rfl rfl ?_
      refine r_skip rfl rfl ?_
      refine r_skip rfl rfl ?_
      refine r_skip rfl rfl ?_
      refine r_pick (v := .bool true) rfl rfl rfl ?_
      refine r_pick (v := .bool true) rfl rfl rfl ?_
      refine r_assign (v := .bool true) rfl rfl rfl ?_
      refine r_doneK (by kernel_rfl) ?_
      refine x_then ?_
      refine c_ret ?_
      refine x_end ?_
      exact end_pv (v := .bool true) rfl rfl rfl
    refine r_bin (v := .bool false) (vx := .int .i64 (((putSF t).2))) (vy := .int .i64 0) rfl rfl rfl rfl (neq_f (by omega)) ?_
    refine r_pick (v := .bool false) rfl rfl rfl ?_
    refine r_move (v := .bool false) rfl rfl rfl ?_
    refine r_move (v := slv 6 0 ((putSF s).1.length) ((putSF s).1.length)) rfl rfl rfl ?_
    refine r_str (p := slv 6 0 ((putSF s).1.length) ((putSF s).1.length)) (v := .string (strOf ((putSF s).1))) rfl rfl rfl (str_whole rfl rfl rfl rfl rfl (by omega)) ?_
    refine r_move (v := slv 7 0 ((putSF t).1.length) ((putSF t).1.length)) rfl rfl rfl ?_
    refine r_str (p := slv 7 0 ((putSF t).1.length) ((putSF t).1.length)) (v := .string (strOf ((putSF t).1))) rfl rfl rfl (str_whole rfl rfl rfl rfl rfl (by omega)) ?_
    rcases Bool.eq_false_or_eq_true (sameT (strOf ((putSF s).1)) (strOf ((putSF t).1))) with h18 | h18
    · skip
      refine r_bin (v := .bool true) (vx := .string (strOf ((putSF s).1))) (vy := .string (strOf ((putSF t).1))) rfl rfl rfl rfl (Eq.trans (eql_str _ _) (by rw [h18] <;> rfl)) ?_
      refine r_load (p := pt 2 0) (v := signedV s) rfl rfl rfl (by kernel_rfl) ?_
      refine r_load (p := pt 3 0) (v := signedV t) rfl rfl rfl (by kernel_rfl) ?_
      rcases Bool.eq_false_or_eq_true (eqSigned s t) with h19 | h19
      · skip
        refine r_bin (v := .bool true) (vx := signedV s) (vy := signedV t) rfl rfl rfl rfl (Eq.trans (eql_Signed s t) (by rw [h19] <;> rfl)) ?_
        refine r_bin (v := .bool true) (vx := .bool true) (vy := .bool true) rfl rfl rfl rfl (eqlB' rfl rfl rfl) ?_
        refine r_pick (v := .bool true) rfl rfl rfl ?_
        refine r_pick (v := .bool true) rfl rfl rfl ?_
        refine r_assign (v := .bool true) rfl rfl rfl ?_
        refine r_doneK (by kernel_rfl) ?_
        refine x_then ?_
        refine c_ret ?_
        refine x_end ?_
        exact end_pv (v := .bool true) rfl rfl rfl
      refine r_bin (v := .bool false) (vx := signedV s) (vy := signedV t) rfl rfl rfl rfl (Eq.trans (eql_Signed s t) (by rw [h19] <;> rfl)) ?_
      refine r_bin (v := .bool false) (vx := .bool true) (vy := .bool false) rfl rfl rfl rfl (eqlB' rfl rfl rfl) ?_
      refine r_pick (v := .bool false) rfl rfl rfl ?_
      refine r_pick (v := .bool false) rfl rfl rfl ?_
      refine r_assign (v := .bool false) rfl rfl rfl ?_
      refine r_doneK (by kernel_rfl) ?_
      refine x_then ?_
      refine c_ret ?_
      refine x_end ?_
      exfalso
      first | (have i1 := apartH (a := a) (b := b) (by omega) (by omega); simp_all; done) | (have i2 := apartS (s := s) (t := t) (by omega) (by omega); simp_all; done)
    refine r_bin (v := .bool false) (vx := .string (strOf ((putSF s).1))) (vy := .string (strOf ((putSF t).1))) rfl rfl rfl rfl (Eq.trans (eql_str _ _) (by rw [h18] <;> rfl)) ?_
    refine r_load (p := pt 2 0) (v := signedV s) rfl rfl rfl (by kernel_rfl) ?_
    refine r_load (p := pt 3 0) (v := signedV t) rfl rfl rfl (by kernel_rfl) ?_
    rcases Bool.eq_false_or_eq_true (eqSigned s t) with h20 | h20
    · skip
      refine r_bin (v := .bool true) (vx := signedV s) (vy := signedV t) rfl rfl rfl rfl (Eq.trans (eql_Signed s t) (by rw [h20] <;> rfl)) ?_
      refine r_bin (v := .bool false) (vx := .bool false) (vy := .bool true) rfl rfl rfl rfl (eqlB' rfl rfl rfl) ?_
      refine r_pick (v := .bool false) rfl rfl rfl ?_
      refine r_pick (v := .bool false) rfl rfl rfl ?_
      refine r_assign (v := .bool false) rfl rfl rfl ?_
      refine r_doneK (by kernel_rfl) ?_
      refine x_then ?_
      refine c_ret ?_
      refine x_end ?_
      exfalso
      first | (have i1 := apartH (a := a) (b := b) (by omega) (by omega); simp_all; done) | (have i2 := apartS (s := s) (t := t) (by omega) (by omega); simp_all; done)
    refine r_bin (v := .bool false) (vx := signedV s) (vy := signedV t) rfl rfl rfl rfl (Eq.trans (eql_Signed s t) (by rw [h20] <;> rfl)) ?_
    refine r_bin (v := .bool true) (vx := .bool false) (vy := .bool false) rfl rfl rfl rfl (eqlB' rfl rfl rfl) ?_
    refine r_pick (v := .bool true) rfl rfl rfl ?_
    refine r_pick (v := .bool true) rfl rfl rfl ?_
    refine r_assign (v := .bool true) rfl rfl rfl ?_
    refine r_doneK (by kernel_rfl) ?_
    refine x_then ?_
    refine c_ret ?_
    refine x_end ?_
    exact end_pv (v := .bool true) rfl rfl rfl
  refine r_bin (v := .bool false) (vx := .int .i64 (((putH a).2))) (vy := .int .i64 0) rfl rfl rfl rfl (eql_f (by omega)) ?_
  refine r_move (v := .bool false) rfl rfl rfl ?_
  refine r_skip rfl rfl ?_
  refine r_skip rfl rfl ?_
  refine r_pick (v := .bool false) rfl rfl rfl ?_
  refine r_move (v := .bool false) rfl rfl rfl ?_
  refine r_skip rfl rfl ?_
  refine r_skip rfl rfl ?_
  refine r_skip rfl rfl ?_
  refine r_skip rfl rfl ?_
  refine r_skip rfl rfl ?_
  refine r_skip rfl rfl ?_
  refine r_skip rfl rfl ?_
  refine r_skip rfl rfl ?_
  refine r_skip rfl rfl ?_
  refine r_pick (v := .bool false) rfl rfl rfl ?_
  refine r_doneD (by kernel_rfl) ?_
  refine x_then ?_
  refine c_false rfl ?_
  refine c_skip ?_
  refine x_then ?_
  refine c_seq ?_
  refine c_drawK (by kernel_rfl) ?_
  refine r_callP (lays_ok (G := G)) (vals := []) (res' := .bool true) rfl rfl rfl rfl rfl rfl ?_
  refine r_move (v := .bool true) rfl rfl rfl ?_
  refine r_callP (signs_ok (G := G) kk hG hne) (vals := []) (res' := .bool true) rfl rfl rfl rfl rfl rfl ?_
  refine r_pick (v := .bool true) rfl rfl rfl ?_
  refine r_move (v := .bool true) rfl rfl rfl ?_
  refine r_move (v := .int .i64 (((putSF s).2))) rfl rfl rfl ?_
  by_cases h21 : (((putSF s).2)) ≠ 0
  · skip
    refine r_bin (v := .bool true) (vx := .int .i64 (((putSF s).2))) (vy := .int .i64 0) rfl rfl rfl rfl (neq_t (by omega)) ?_
    refine r_move (v := .bool true) rfl rfl rfl ?_
    refine r_skip rfl rfl ?_
    refine r_skip rfl rfl ?_
    refine r_pick (v := .bool true) rfl rfl rfl ?_
    refine r_move (v := .bool true) rfl rfl rfl ?_
    refine r_skip rfl rfl ?_
    refine r_skip rfl rfl ?_
    refine r_skip rfl rfl ?_
    refine r_skip rfl rfl ?_
    refine r_skip rfl rfl ?_
    refine r_skip rfl rfl ?_
    refine r_skip rfl rfl ?_
    refine r_skip rfl rfl ?_
    refine r_skip rfl rfl ?_
    refine r_pick (v := .bool true) rfl rfl rfl ?_
    refine r_pick (v := .bool true) rfl rfl rfl ?_
    refine r_assign (v := .bool true) rfl rfl rfl ?_
    refine r_doneK (by kernel_rfl) ?_
    refine x_then ?_
    refine c_ret ?_
    refine x_end ?_
    exact end_pv (v := .bool true) rfl rfl rfl
  refine r_bin (v := .bool false) (vx := .int .i64 (((putSF s).2))) (vy := .int .i64 0) rfl rfl rfl rfl (neq_f (by omega)) ?_
  refine r_move (v := .bool false) rfl rfl rfl ?_
  refine r_move (v := .int .i64 (((putSF t).2))) rfl rfl rfl ?_
  by_cases h22 : (((putSF t).2)) ≠ 0
  · skip
    refine r_bin (v := .bool true) (vx := .int .i64 (((putSF t).2))) (vy := .int .i64 0) rfl rfl rfl rfl (neq_t (by omega)) ?_
    refine r_pick (v := .bool true) rfl rfl rfl ?_
    refine r_move (v := .bool true) rfl rfl rfl ?_
    refine r_skip rfl rfl ?_
    refine r_skip rfl rfl ?_
    refine r_skip rfl rfl ?_
    refine r_skip rfl rfl ?_
    refine r_skip rfl rfl ?_
    refine r_skip rfl rfl ?_
    refine r_skip rfl rfl ?_
    refine r_skip rfl rfl ?_
    refine r_skip rfl rfl ?_
    refine r_pick (v := .bool true) rfl rfl rfl ?_
    refine r_pick (v := .bool true) rfl rfl rfl ?_
    refine r_assign (v := .bool true) rfl rfl rfl ?_
    refine r_doneK (by kernel_rfl) ?_
    refine x_then ?_
    refine c_ret ?_
    refine x_end ?_
    exact end_pv (v := .bool true) rfl rfl rfl
  refine r_bin (v := .bool false) (vx := .int .i64 (((putSF t).2))) (vy := .int .i64 0) rfl rfl rfl rfl (neq_f (by omega)) ?_
  refine r_pick (v := .bool false) rfl rfl rfl ?_
  refine r_move (v := .bool false) rfl rfl rfl ?_
  refine r_move (v := slv 6 0 ((putSF s).1.length) ((putSF s).1.length)) rfl rfl rfl ?_
  refine r_str (p := slv 6 0 ((putSF s).1.length) ((putSF s).1.length)) (v := .string (strOf ((putSF s).1))) rfl rfl rfl (str_whole rfl rfl rfl rfl rfl (by omega)) ?_
  refine r_move (v := slv 7 0 ((putSF t).1.length) ((putSF t).1.length)) rfl rfl rfl ?_
  refine r_str (p := slv 7 0 ((putSF t).1.length) ((putSF t).1.length)) (v := .string (strOf ((putSF t).1))) rfl rfl rfl (str_whole rfl rfl rfl rfl rfl (by omega)) ?_
  rcases Bool.eq_false_or_eq_true (sameT (strOf ((putSF s).1)) (strOf ((putSF t).1))) with h23 | h23
  · skip
    refine r_bin (v := .bool true) (vx := .string (strOf ((putSF s).1))) (vy := .string (strOf ((putSF t).1))) rfl rfl rfl rfl (Eq.trans (eql_str _ _) (by rw [h23] <;> rfl)) ?_
    refine r_load (p := pt 2 0) (v := signedV s) rfl rfl rfl (by kernel_rfl) ?_
    refine r_load (p := pt 3 0) (v := signedV t) rfl rfl rfl (by kernel_rfl) ?_
    rcases Bool.eq_false_or_eq_true (eqSigned s t) with h24 | h24
    · skip
      refine r_bin (v := .bool true) (vx := signedV s) (vy := signedV t) rfl rfl rfl rfl (Eq.trans (eql_Signed s t) (by rw [h24] <;> rfl)) ?_
      refine r_bin (v := .bool true) (vx := .bool true) (vy := .bool true) rfl rfl rfl rfl (eqlB' rfl rfl rfl) ?_
      refine r_pick (v := .bool true) rfl rfl rfl ?_
      refine r_pick (v := .bool true) rfl rfl rfl ?_
      refine r_assign (v := .bool true) rfl rfl rfl ?_
      refine r_doneK (by kernel_rfl) ?_
      refine x_then ?_
      refine c_ret ?_
      refine x_end ?_
      exact end_pv (v := .bool true) rfl rfl rfl
    refine r_bin (v := .bool false) (vx := signedV s) (vy := signedV t) rfl rfl rfl rfl (Eq.trans (eql_Signed s t) (by rw [h24] <;> rfl)) ?_
    refine r_bin (v := .bool false) (vx := .bool true) (vy := .bool false) rfl rfl rfl rfl (eqlB' rfl rfl rfl) ?_
    refine r_pick (v := .bool false) rfl rfl rfl ?_
    refine r_pick (v := .bool false) rfl rfl rfl ?_
    refine r_assign (v := .bool false) rfl rfl rfl ?_
    refine r_doneK (by kernel_rfl) ?_
    refine x_then ?_
    refine c_ret ?_
    refine x_end ?_
    exfalso
    first | (have i1 := apartH (a := a) (b := b) (by omega) (by omega); simp_all; done) | (have i2 := apartS (s := s) (t := t) (by omega) (by omega); simp_all; done)
  refine r_bin (v := .bool false) (vx := .string (strOf ((putSF s).1))) (vy := .string (strOf ((putSF t).1))) rfl rfl rfl rfl (Eq.trans (eql_str _ _) (by rw [h23] <;> rfl)) ?_
  refine r_load (p := pt 2 0) (v := signedV s) rfl rfl rfl (by kernel_rfl) ?_
  refine r_load (p := pt 3 0) (v := signedV t) rfl rfl rfl (by kernel_rfl) ?_
  rcases Bool.eq_false_or_eq_true (eqSigned s t) with h25 | h25
  · skip
    refine r_bin (v := .bool true) (vx := signedV s) (vy := signedV t) rfl rfl rfl rfl (Eq.trans (eql_Signed s t) (by rw [h25] <;> rfl)) ?_
    refine r_bin (v := .bool false) (vx := .bool false) (vy := .bool true) rfl rfl rfl rfl (eqlB' rfl rfl rfl) ?_
    refine r_pick (v := .bool false) rfl rfl rfl ?_
    refine r_pick (v := .bool false) rfl rfl rfl ?_
    refine r_assign (v := .bool false) rfl rfl rfl ?_
    refine r_doneK (by kernel_rfl) ?_
    refine x_then ?_
    refine c_ret ?_
    refine x_end ?_
    exfalso
    first | (have i1 := apartH (a := a) (b := b) (by omega) (by omega); simp_all; done) | (have i2 := apartS (s := s) (t := t) (by omega) (by omega); simp_all; done)
  refine r_bin (v := .bool false) (vx := signedV s) (vy := signedV t) rfl rfl rfl rfl (Eq.trans (eql_Signed s t) (by rw [h25] <;> rfl)) ?_
  refine r_bin (v := .bool true) (vx := .bool false) (vy := .bool false) rfl rfl rfl rfl (eqlB' rfl rfl rfl) ?_
  refine r_pick (v := .bool true) rfl rfl rfl ?_
  refine r_pick (v := .bool true) rfl rfl rfl ?_
  refine r_assign (v := .bool true) rfl rfl rfl ?_
  refine r_doneK (by kernel_rfl) ?_
  refine x_then ?_
  refine c_ret ?_
  refine x_end ?_
  exact end_pv (v := .bool true) rfl rfl rfl
end Go.Flat
