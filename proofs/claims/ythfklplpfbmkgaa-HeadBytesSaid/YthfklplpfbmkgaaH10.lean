/- Walks and plain laws: what each theorem says, within the bounds that it names. -/
import Derived.Test.YthfklplpfbmkgaaH9
set_option linter.unusedVariables false
set_option linter.unusedSimpArgs false
set_option maxRecDepth 20000
set_option maxRecDepth 20000
namespace Go.Flat
open Go.Proofs
variable {G : Glob}
theorem putH_bad {h : Head} (hr : ¬ rightH h) : (putH h).2 ≠ 0 ∧ (putH h).2 = 70 := by
  rw [putH_snd, checkE_eq, if_neg hr]; exact ⟨by decide, rfl⟩
theorem keyT_ok {kk : Nat → BitVec 32} {master : D} {region node : Int} (h : (1 ≤ region ∧ region ≤ 5) ∧ (1 ≤ node ∧ node ≤ 3)) : keyT kk master region node = (macT kk master (strOf [75#8, BitVec.ofInt 8 region, BitVec.ofInt 8 node]), 0) := if_pos h
theorem keyT_bad {kk : Nat → BitVec 32} {master : D} {region node : Int} (h : ¬ ((1 ≤ region ∧ region ≤ 5) ∧ (1 ≤ node ∧ node ≤ 3))) : keyT kk master region node = (dz, 50) := if_neg h
theorem signF_eq (kk : Nat → BitVec 32) (master : D) (h : Head) (node : Int) : signF kk master h node = signR kk master h node := by
  unfold signF signR
  by_cases hr : rightH h
  · rw [putH_one hr]
    rw [if_neg (by simp)]
    by_cases hn : 1 ≤ node ∧ node ≤ 3
    · rw [keyT_ok ⟨hr.1, hn⟩, if_neg (by simp), if_pos ⟨hr, hn⟩]; rfl
    · rw [keyT_bad (fun q => hn q.2), if_pos (by show (50 : Int) ≠ 0; decide), if_neg (fun q => hn q.2)]; rfl
  · rw [if_pos (putH_bad hr).1, (putH_bad hr).2, if_neg (fun q => hr q.1)]; rfl
theorem verifyE_eq (kk : Nat → BitVec 32) (master : D) (s : Signed) : verifyE kk master s = verifyR kk master s := by
  unfold verifyE verifyR
  by_cases hm : mayS s
  · rw [if_pos hm, putH_one hm.1]
    rw [if_neg (show ¬ ((bytesR (headL s.head), (0 : Int)).2 ≠ 0) by simp), if_pos hm.2.1, if_pos hm.2.2]
    unfold holdsE
    rw [keyT_ok ⟨hm.1.1, hm.2⟩]
    rw [if_neg (by simp)]; rfl
  · rw [if_neg hm]
    by_cases hr : rightH s.head
    · rw [putH_one hr, if_neg (show ¬ ((bytesR (headL s.head), (0 : Int)).2 ≠ 0) by simp)]
      split
      · rw [if_neg (fun q => hm ⟨hr, by assumption, q⟩)]
      · rfl
    · rw [if_pos (putH_bad hr).1]
def oneH : Head := ⟨1, 1, 0, dz, 0⟩
theorem oneH_right : rightH oneH := by
  show (1 ≤ (1 : Int) ∧ (1 : Int) ≤ 5) ∧ (1 ≤ (1 : Int) ∧ (1 : Int) ≤ 900000000) ∧ (0 ≤ (0 : Int) ∧ (0 : Int) ≤ 100000) ∧ (0 ≤ (0 : Int) ∧ (0 : Int) ≤ 900000000)
  omega
def s1 (kk : Nat → BitVec 32) : Signed := ⟨oneH, 1, tagT kk dz oneH 1⟩
theorem signR_one1 (kk : Nat → BitVec 32) : signR kk dz oneH 1 = (s1 kk, 0) := if_pos ⟨oneH_right, by omega, by omega⟩
theorem signR_one4 (kk : Nat → BitVec 32) : signR kk dz oneH 4 = (zeroS, 70) := if_neg (fun q => by omega)
theorem one_ok  : CallL Try.prog G 15 [] [] (headV oneH) [] := by
  refine walk (fn := Try.f15) (nt := 2) rfl rfl rfl rfl ?_
  refine c_hole 1 (H' := [hole]) rfl ?_
  refine c_seq ?_
  refine c_reg ?_
  refine r_alloc (b := bxB 36 (headC (⟨0, 0, 0, dz, 0⟩ : Head))) (nid := 0) (H' := [bxB 36 (headC (⟨0, 0, 0, dz, 0⟩ : Head))]) rfl rfl (by kernel_rfl) (by kernel_rfl) ?_
  refine r_doneN ?_
  refine x_then ?_
  refine c_seq ?_
  refine c_reg ?_
  refine r_build (vs := [(0, .int .i64 1), (1, .int .i64 1)]) (v := headV (⟨1, 1, 0, dz, 0⟩ : Head)) rfl rfl rfl (by kernel_rfl) ?_
  refine r_store (p := pt 0 0) (v := headV (⟨1, 1, 0, dz, 0⟩ : Head)) (b := 0) (blk := bxB 36 (headC (⟨1, 1, 0, dz, 0⟩ : Head))) (H' := [bxB 36 (headC (⟨1, 1, 0, dz, 0⟩ : Head))]) rfl rfl rfl (by kernel_rfl) (by kernel_rfl) ?_
  refine r_doneN ?_
  refine x_then ?_
  refine c_ret ?_
  refine x_end ?_
  exact end_same (v := headV (⟨1, 1, 0, dz, 0⟩ : Head)) (by kernel_rfl) rfl rfl (by kernel_rfl) (argV_pure (by kernel_rfl) rfl)
end Go.Flat
