/- Walks and plain laws: what each theorem says, within the bounds that it names. -/
import Derived.Test.YthfklplpfbmkgaaDoorH9
set_option linter.unusedVariables false
set_option linter.unusedSimpArgs false
set_option maxRecDepth 20000
namespace Go.Flat
open Go.Proofs
variable {G : Glob}
theorem putH_bad {h : Head} (hr : ¬ rightH h) : (putH h).2 ≠ 0 ∧ (putH h).2 = 70 := by
  rw [putH_snd, checkE_eq, if_neg hr]; exact ⟨by decide, rfl⟩
theorem keyT_ok {kk : Nat → BitVec 32} {master : D} {region node : Int} (h : (1 ≤ region ∧ region ≤ 5) ∧ (1 ≤ node ∧ node ≤ 3)) : keyT kk master region node = (macT kk master (strOf [75#8, BitVec.ofInt 8 region, BitVec.ofInt 8 node]), 0) := if_pos h
theorem keyT_bad {kk : Nat → BitVec 32} {master : D} {region node : Int} (h : ¬ ((1 ≤ region ∧ region ≤ 5) ∧ (1 ≤ node ∧ node ≤ 3))) : keyT kk master region node = (dz, 50) := if_neg h
theorem signF_eq (kk : Nat → BitVec 32) (master : D) (h : Head) (node : Int) : signF kk master h node = signR kk master h node := by
  unfold signF signR
  by_cases hr : rightH h
  · rw [putH_one hr]
    rw [if_neg (by simp)]
    by_cases hn : 1 ≤ node ∧ node ≤ 3
    · rw [keyT_ok ⟨hr.1, hn⟩, if_neg (by simp), if_pos ⟨hr, hn⟩]; rfl
    · rw [keyT_bad (fun q => hn q.2), if_pos (by show (50 : Int) ≠ 0; decide), if_neg (fun q => hn q.2)]; rfl
  · rw [if_pos (putH_bad hr).1, (putH_bad hr).2, if_neg (fun q => hr q.1)]; rfl
theorem verifyE_eq (kk : Nat → BitVec 32) (master : D) (s : Signed) : verifyE kk master s = verifyR kk master s := by
  unfold verifyE verifyR
  by_cases hm : mayS s
  · rw [if_pos hm, putH_one hm.1]
    rw [if_neg (show ¬ ((bytesR (headL s.head), (0 : Int)).2 ≠ 0) by simp), if_pos hm.2.1, if_pos hm.2.2]
    unfold holdsE
    rw [keyT_ok ⟨hm.1.1, hm.2⟩]
    rw [if_neg (by simp)]; rfl
  · rw [if_neg hm]
    by_cases hr : rightH s.head
    · rw [putH_one hr, if_neg (show ¬ ((bytesR (headL s.head), (0 : Int)).2 ≠ 0) by simp)]
      split
      · rw [if_neg (fun q => hm ⟨hr, by assumption, q⟩)]
      · rfl
    · rw [if_pos (putH_bad hr).1]
theorem Sign_ok' (kk : Nat → BitVec 32) (hG : G 0 = some (rowE w32 64 kk)) (master : D) (h : Head) (node : Int) : CallL Tryd.prog G 8 [dgV master, headV h, .int .i64 node] [] (.tuple #[signedV (signR kk master h node).1, .int .i64 (signR kk master h node).2]) [] := signF_eq kk master h node ▸ Sign_ok (G := G) kk hG master h node
theorem Verify_ok' (kk : Nat → BitVec 32) (hG : G 0 = some (rowE w32 64 kk)) (master : D) (s : Signed) : CallL Tryd.prog G 11 [dgV master, signedV s] [] (.int .i64 (verifyR kk master s)) [] := verifyE_eq kk master s ▸ Verify_ok (G := G) kk hG master s
def oneH : Head := ⟨1, 1, 0, dz, 0⟩
theorem oneH_right : rightH oneH := by
  show (1 ≤ (1 : Int) ∧ (1 : Int) ≤ 5) ∧ (1 ≤ (1 : Int) ∧ (1 : Int) ≤ 900000000) ∧ (0 ≤ (0 : Int) ∧ (0 : Int) ≤ 100000) ∧ (0 ≤ (0 : Int) ∧ (0 : Int) ≤ 900000000)
  omega
def s1 (kk : Nat → BitVec 32) : Signed := ⟨oneH, 1, tagT kk dz oneH 1⟩
theorem signR_one1 (kk : Nat → BitVec 32) : signR kk dz oneH 1 = (s1 kk, 0) := if_pos ⟨oneH_right, by omega, by omega⟩
theorem signR_one4 (kk : Nat → BitVec 32) : signR kk dz oneH 4 = (zeroS, 70) := if_neg (fun q => by omega)
theorem Sign_one1 (kk : Nat → BitVec 32) (hG : G 0 = some (rowE w32 64 kk)) : CallL Tryd.prog G 8 [dgV dz, headV oneH, .int .i64 1] [] (.tuple #[signedV (s1 kk), .int .i64 0]) [] := by
  have h := Sign_ok' (G := G) kk hG dz oneH 1
  rw [signR_one1] at h; exact h
theorem Sign_one4 (kk : Nat → BitVec 32) (hG : G 0 = some (rowE w32 64 kk)) : CallL Tryd.prog G 8 [dgV dz, headV oneH, .int .i64 4] [] (.tuple #[signedV zeroS, .int .i64 70]) [] := by
  have h := Sign_ok' (G := G) kk hG dz oneH 4
  rw [signR_one4] at h; exact h
theorem Verify_one1 (kk : Nat → BitVec 32) (hG : G 0 = some (rowE w32 64 kk)) : CallL Tryd.prog G 11 [dgV dz, signedV (s1 kk)] [] (.int .i64 0) [] := by
  have h := Verify_ok' (G := G) kk hG dz (s1 kk)
  rw [show verifyR kk dz (s1 kk) = 0 from by unfold verifyR; rw [if_pos (show mayS (s1 kk) from ⟨oneH_right, by show (1 : Int) ≤ 1; omega, by show (1 : Int) ≤ 3; omega⟩)]; exact if_pos (sameB_refl 32 _)] at h
  exact h
theorem Verify_one2 (kk : Nat → BitVec 32) (hG : G 0 = some (rowE w32 64 kk)) (hne : sameB 32 (tagT kk dz oneH 1) (tagT kk dz oneH 2) = false) : CallL Tryd.prog G 11 [dgV dz, signedV ⟨(s1 kk).head, 2, (s1 kk).tag⟩] [] (.int .i64 72) [] := by
  have h := Verify_ok' (G := G) kk hG dz ⟨(s1 kk).head, 2, (s1 kk).tag⟩
  rw [show verifyR kk dz ⟨(s1 kk).head, 2, (s1 kk).tag⟩ = 72 from by
    unfold verifyR
    rw [if_pos (show mayS ⟨(s1 kk).head, 2, (s1 kk).tag⟩ from ⟨oneH_right, by show (1 : Int) ≤ 2; omega, by show (2 : Int) ≤ 3; omega⟩), if_neg]
    intro h1
    have h2 : sameB 32 (tagT kk dz oneH 2) (tagT kk dz oneH 1) = true := h1
    have h3 : sameB 32 (tagT kk dz oneH 1) (tagT kk dz oneH 2) = true := by rw [sameB_iff] at h2 ⊢; exact h2.symm
    rw [hne] at h3; cases h3] at h
  exact h
theorem one_ok  : CallL Tryd.prog G 28 [] [] (headV oneH) [] := by
  refine walk (fn := Tryd.f28) (nt := 2) rfl rfl rfl rfl ?_
  refine c_hole 1 (H' := [hole]) rfl ?_
  refine c_seq (c_reg ?_)
  refine r_alloc (b := bxB 36 (headC (⟨0, 0, 0, dz, 0⟩ : Head))) (nid := 0) (H' := [bxB 36 (headC (⟨0, 0, 0, dz, 0⟩ : Head))]) rfl rfl (by kernel_rfl) (by kernel_rfl) ?_
  refine r_doneN (x_then (c_seq (c_reg ?_)))
  refine r_build (vs := [(0, .int .i64 1), (1, .int .i64 1)]) (v := headV (⟨1, 1, 0, dz, 0⟩ : Head)) rfl rfl rfl (by kernel_rfl) ?_
  refine r_store (p := pt 0 0) (v := headV (⟨1, 1, 0, dz, 0⟩ : Head)) (b := 0) (blk := bxB 36 (headC (⟨1, 1, 0, dz, 0⟩ : Head))) (H' := [bxB 36 (headC (⟨1, 1, 0, dz, 0⟩ : Head))]) rfl rfl rfl (by kernel_rfl) (by kernel_rfl) ?_
  refine r_doneN (x_then (c_ret (x_end ?_)))
  exact end_same (v := headV (⟨1, 1, 0, dz, 0⟩ : Head)) (by kernel_rfl) rfl rfl (by kernel_rfl) (argV_pure (by kernel_rfl) rfl)
theorem signs_ok (kk : Nat → BitVec 32) (hG : G 0 = some (rowE w32 64 kk)) (hne : sameB 32 (tagT kk dz oneH 1) (tagT kk dz oneH 2) = false) : CallL Tryd.prog G 10 [] [] (.bool true) [] := by
  refine walk (fn := Tryd.f10) (nt := 38) rfl rfl rfl rfl ?_
  refine c_hole 3 (H' := [hole, hole, hole]) rfl ?_
  refine c_seq (c_reg ?_)
  refine r_assign (v := .bool false) rfl rfl rfl ?_
  refine r_doneN (x_then (c_seq (c_reg ?_)))
  refine r_build (vs := []) (v := dgV dz) rfl rfl rfl (by kernel_rfl) ?_
  refine r_callP (one_ok (G := G)) (vals := []) (res' := headV oneH) rfl rfl rfl rfl rfl (by kernel_rfl) ?_
  refine r_callP (Sign_one1 (G := G) kk hG) (vals := [dgV dz, headV oneH, .int .i64 1]) (res' := .tuple #[signedV (s1 kk), .int .i64 0]) rfl rfl rfl rfl rfl (by kernel_rfl) ?_
  refine r_move (v := .tuple #[signedV (s1 kk), .int .i64 0]) rfl rfl rfl ?_
  refine r_extract (vs := #[signedV (s1 kk), .int .i64 0]) (v := signedV (s1 kk)) rfl rfl rfl rfl ?_
  refine r_extract (vs := #[signedV (s1 kk), .int .i64 0]) (v := .int .i64 0) rfl rfl rfl rfl ?_
  refine r_alloc (b := bxB 69 (signedC (⟨(⟨0, 0, 0, dz, 0⟩ : Head), 0, dz⟩ : Signed))) (nid := 0) (H' := [bxB 69 (signedC (⟨(⟨0, 0, 0, dz, 0⟩ : Head), 0, dz⟩ : Signed)), hole, hole]) rfl rfl (by kernel_rfl) (by kernel_rfl) ?_
  refine r_store (p := pt 0 0) (v := signedV (s1 kk)) (b := 0) (blk := bxB 69 (signedC (s1 kk))) (H' := [bxB 69 (signedC (s1 kk)), hole, hole]) rfl rfl rfl (by kernel_rfl) (by kernel_rfl) ?_
  refine r_assign (v := .int .i64 0) rfl rfl rfl ?_
  refine r_doneN (x_then (c_seq (c_reg ?_)))
  refine r_load (p := pt 0 0) (v := signedV (s1 kk)) rfl rfl rfl (by kernel_rfl) ?_
  refine r_alloc (b := bxB 69 (signedC (⟨(⟨0, 0, 0, dz, 0⟩ : Head), 0, dz⟩ : Signed))) (nid := 1) (H' := [bxB 69 (signedC (s1 kk)), bxB 69 (signedC (⟨(⟨0, 0, 0, dz, 0⟩ : Head), 0, dz⟩ : Signed)), hole]) rfl rfl (by kernel_rfl) (by kernel_rfl) ?_
  refine r_store (p := pt 1 0) (v := signedV (s1 kk)) (b := 1) (blk := bxB 69 (signedC (s1 kk))) (H' := [bxB 69 (signedC (s1 kk)), bxB 69 (signedC (s1 kk)), hole]) rfl rfl rfl (by kernel_rfl) (by kernel_rfl) ?_
  refine r_doneN (x_then (c_seq (c_reg ?_)))
  refine r_fieldAddr (b := 1) (o := 0) (n := 36) (o' := 36) rfl rfl rfl rfl rfl ?_
  refine r_store (p := pt 1 36) (v := .int .i64 2) (b := 1) (blk := bxB 69 (signedC (⟨(s1 kk).head, 2, (s1 kk).tag⟩ : Signed))) (H' := [bxB 69 (signedC (s1 kk)), bxB 69 (signedC (⟨(s1 kk).head, 2, (s1 kk).tag⟩ : Signed)), hole]) rfl rfl rfl (by kernel_rfl) (by kernel_rfl) ?_
  refine r_doneN (x_then (c_seq (c_reg ?_)))
  refine r_build (vs := []) (v := dgV dz) rfl rfl rfl (by kernel_rfl) ?_
  refine r_callP (one_ok (G := G)) (vals := []) (res' := headV oneH) rfl rfl rfl rfl rfl (by kernel_rfl) ?_
  refine r_callP (Sign_one4 (G := G) kk hG) (vals := [dgV dz, headV oneH, .int .i64 4]) (res' := .tuple #[signedV zeroS, .int .i64 70]) rfl rfl rfl rfl rfl (by kernel_rfl) ?_
  refine r_move (v := .tuple #[signedV zeroS, .int .i64 70]) rfl rfl rfl ?_
  refine r_extract (vs := #[signedV zeroS, .int .i64 70]) (v := signedV zeroS) rfl rfl rfl rfl ?_
  refine r_extract (vs := #[signedV zeroS, .int .i64 70]) (v := .int .i64 70) rfl rfl rfl rfl ?_
  refine r_alloc (b := bxB 69 (signedC (⟨(⟨0, 0, 0, dz, 0⟩ : Head), 0, dz⟩ : Signed))) (nid := 2) (H' := [bxB 69 (signedC (s1 kk)), bxB 69 (signedC (⟨(s1 kk).head, 2, (s1 kk).tag⟩ : Signed)), bxB 69 (signedC (⟨(⟨0, 0, 0, dz, 0⟩ : Head), 0, dz⟩ : Signed))]) rfl rfl (by kernel_rfl) (by kernel_rfl) ?_
  refine r_store (p := pt 2 0) (v := signedV zeroS) (b := 2) (blk := bxB 69 (signedC zeroS)) (H' := [bxB 69 (signedC (s1 kk)), bxB 69 (signedC (⟨(s1 kk).head, 2, (s1 kk).tag⟩ : Signed)), bxB 69 (signedC zeroS)]) rfl rfl rfl (by kernel_rfl) (by kernel_rfl) ?_
  refine r_assign (v := .int .i64 70) rfl rfl rfl ?_
  refine r_doneN (x_then (c_seq (c_reg ?_)))
  refine r_move (v := .int .i64 0) rfl rfl rfl ?_
  refine r_bin (v := .bool true) (vx := .int .i64 0) (vy := .int .i64 0) rfl rfl rfl rfl (eql_t (by omega)) ?_
  refine r_move (v := .bool true) rfl rfl rfl ?_
  refine r_build (vs := []) (v := dgV dz) rfl rfl rfl (by kernel_rfl) ?_
  refine r_load (p := pt 0 0) (v := signedV (s1 kk)) rfl rfl rfl (by kernel_rfl) ?_
  refine r_callP (Verify_one1 (G := G) kk hG) (vals := [dgV dz, signedV (s1 kk)]) (res' := .int .i64 0) rfl rfl rfl rfl rfl rfl ?_
  refine r_bin (v := .bool true) (vx := .int .i64 0) (vy := .int .i64 0) rfl rfl rfl rfl (eql_t (by omega)) ?_
  refine r_pick (v := .bool true) rfl rfl rfl ?_
  refine r_move (v := .bool true) rfl rfl rfl ?_
  refine r_build (vs := []) (v := dgV dz) rfl rfl rfl (by kernel_rfl) ?_
  refine r_load (p := pt 1 0) (v := signedV (⟨(s1 kk).head, 2, (s1 kk).tag⟩ : Signed)) rfl rfl rfl (by kernel_rfl) ?_
  refine r_callP (Verify_one2 (G := G) kk hG hne) (vals := [dgV dz, signedV (⟨(s1 kk).head, 2, (s1 kk).tag⟩ : Signed)]) (res' := .int .i64 72) rfl rfl rfl rfl rfl rfl ?_
  refine r_bin (v := .bool true) (vx := .int .i64 72) (vy := .int .i64 72) rfl rfl rfl rfl (eql_t (by omega)) ?_
  refine r_pick (v := .bool true) rfl rfl rfl ?_
  refine r_move (v := .bool true) rfl rfl rfl ?_
  refine r_move (v := .int .i64 70) rfl rfl rfl ?_
  refine r_bin (v := .bool true) (vx := .int .i64 70) (vy := .int .i64 70) rfl rfl rfl rfl (eql_t (by omega)) ?_
  refine r_pick (v := .bool true) rfl rfl rfl ?_
  refine r_assign (v := .bool true) rfl rfl rfl ?_
  refine r_doneN (x_then (c_ret (x_end ?_)))
  exact end_pv (v := .bool true) rfl rfl rfl
end Go.Flat
