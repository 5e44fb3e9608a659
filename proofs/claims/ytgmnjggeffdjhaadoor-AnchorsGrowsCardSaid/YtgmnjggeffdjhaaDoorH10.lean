/- Walks and plain laws: what each theorem says, within the bounds that it names. -/
import Derived.Test.YtgmnjggeffdjhaaDoorH9
set_option linter.unusedVariables false
set_option linter.unusedSimpArgs false
set_option maxRecDepth 20000
set_option maxRecDepth 20000
namespace Go.Flat
open Go.Proofs
variable {G : Glob}
theorem putH_bad {h : Head} (hr : ¬ rightH h) : (putH h).2 ≠ 0 ∧ (putH h).2 = 70 := by
  rw [putH_snd, checkE_eq, if_neg hr]; exact ⟨by decide, rfl⟩
theorem keyT_ok {kk : Nat → BitVec 32} {master : D} {region node : Int} (h : (1 ≤ region ∧ region ≤ 5) ∧ (1 ≤ node ∧ node ≤ 3)) : keyT kk master region node = (macT kk master (strOf [75#8, BitVec.ofInt 8 region, BitVec.ofInt 8 node]), 0) := if_pos h
theorem keyT_bad {kk : Nat → BitVec 32} {master : D} {region node : Int} (h : ¬ ((1 ≤ region ∧ region ≤ 5) ∧ (1 ≤ node ∧ node ≤ 3))) : keyT kk master region node = (dz, 50) := if_neg h
theorem signF_eq (kk : Nat → BitVec 32) (master : D) (h : Head) (node : Int) : signF kk master h node = signR kk master h node := by
  unfold signF signR
  by_cases hr : rightH h
  · rw [putH_one hr]
    rw [if_neg (by simp)]
    by_cases hn : 1 ≤ node ∧ node ≤ 3
    · rw [keyT_ok ⟨hr.1, hn⟩, if_neg (by simp), if_pos ⟨hr, hn⟩]; rfl
    · rw [keyT_bad (fun q => hn q.2), if_pos (by show (50 : Int) ≠ 0; decide), if_neg (fun q => hn q.2)]; rfl
  · rw [if_pos (putH_bad hr).1, (putH_bad hr).2, if_neg (fun q => hr q.1)]; rfl
theorem verifyE_eq (kk : Nat → BitVec 32) (master : D) (s : Signed) : verifyE kk master s = verifyR kk master s := by
  unfold verifyE verifyR
  by_cases hm : mayS s
  · rw [if_pos hm, putH_one hm.1]
    rw [if_neg (show ¬ ((bytesR (headL s.head), (0 : Int)).2 ≠ 0) by simp), if_pos hm.2.1, if_pos hm.2.2]
    unfold holdsE
    rw [keyT_ok ⟨hm.1.1, hm.2⟩]
    rw [if_neg (by simp)]; rfl
  · rw [if_neg hm]
    by_cases hr : rightH s.head
    · rw [putH_one hr, if_neg (show ¬ ((bytesR (headL s.head), (0 : Int)).2 ≠ 0) by simp)]
      split
      · rw [if_neg (fun q => hm ⟨hr, by assumption, q⟩)]
      · rfl
    · rw [if_pos (putH_bad hr).1]
theorem Sign_ok' (kk : Nat → BitVec 32) (hG : G 1 = some (rowE w32 64 kk)) (master : D) (h : Head) (node : Int) : CallL Tryd.prog G 29 [dgV master, headV h, .int .i64 node] [] (.tuple #[signedV (signR kk master h node).1, .int .i64 (signR kk master h node).2]) [] := signF_eq kk master h node ▸ Sign_ok (G := G) kk hG master h node
theorem Verify_ok' (kk : Nat → BitVec 32) (hG : G 1 = some (rowE w32 64 kk)) (master : D) (s : Signed) : CallL Tryd.prog G 23 [dgV master, signedV s] [] (.int .i64 (verifyR kk master s)) [] := verifyE_eq kk master s ▸ Verify_ok (G := G) kk hG master s
def oneH : Head := ⟨1, 1, 0, dz, 0⟩
def s1 (kk : Nat → BitVec 32) : Signed := ⟨oneH, 1, tagT kk dz oneH 1⟩
end Go.Flat
