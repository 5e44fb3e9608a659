/- Walks and plain laws: what each theorem says, within the bounds that it names. -/
import Derived.Test.YtajjalickpkkkaaDoorXS
import Derived.Test.YtajjalickpkkkaaDoorTree
import Derived.Test.YtajjalickpkkkaaDoorX16
set_option linter.unusedVariables false
set_option linter.unusedSimpArgs false
namespace Go.Proofs.YtajjalickpkkkaaDoor
open Go.Flat
theorem kk_nat : ∀ i, i < 64 → (kk i).toNat = shaK.getD i 0 := by
  have h : ((List.range 64).all fun i => (kk i).toNat == shaK.getD i 0) = true := by kernel_rfl
  intro i hi
  exact beq_iff_eq.1 (List.all_eq_true.1 h i (List.mem_range.2 hi))
theorem knot_eval (kk : Nat → BitVec 32) (hk : ∀ i, i < 64 → (kk i).toNat = shaK.getD i 0) {a b : D} {la lb ms out : List Nat} (ha : dgL a = la.map (BitVec.ofNat 8)) (hb : dgL b = lb.map (BitVec.ofNat 8))
    (hm : ((1 :: (la.map (BitVec.ofNat 8) ++ lb.map (BitVec.ofNat 8))) ++ padM (1 :: (la.map (BitVec.ofNat 8) ++ lb.map (BitVec.ofNat 8))) 8).map BitVec.toNat = ms)
    (hn : ((1 :: (la.map (BitVec.ofNat 8) ++ lb.map (BitVec.ofNat 8))) ++ padM (1 :: (la.map (BitVec.ofNat 8) ++ lb.map (BitVec.ofNat 8))) 8).length / 64 = 2) (h : shaL shaK 2 ms = out) : dgL (knotF kk a b) = out.map (BitVec.ofNat 8) := by
  have e : msgOf [one1, strOf (dgL a), strOf (dgL b)] = (1 :: (la.map (BitVec.ofNat 8) ++ lb.map (BitVec.ofNat 8))) := by
    simp only [msgOf, List.map_cons, List.map_nil, List.flatten_cons, List.flatten_nil, List.append_nil, bl_strOf, ha, hb]; rfl
  unfold knotF
  rw [e]
  exact dg_eval kk shaK rfl hk _ hm hn h
theorem dg1_L (k : Nat) : dgL (dg1 k) = (k :: List.replicate 31 0).map (BitVec.ofNat 8) := rfl
theorem e_bb : dgL (knotF kk (dg1 2) (dg1 2)) = (([12, 83, 185, 185, 112, 46, 130, 120, 60, 132, 39, 237, 170, 246, 77, 243, 129, 31, 135, 85, 30, 71, 201, 144, 89, 215, 115, 27, 26, 143, 49, 89] : List Nat)).map (BitVec.ofNat 8) := knot_eval kk kk_nat (dg1_L 2) (dg1_L 2) (ms := [1, 2, 0, 0, 0, 0, 0, 0, 0, 0, 0, 0, 0, 0, 0, 0, 0, 0, 0, 0, 0, 0, 0, 0, 0, 0, 0, 0, 0, 0, 0, 0, 0, 2, 0, 0, 0, 0, 0, 0, 0, 0, 0, 0, 0, 0, 0, 0, 0, 0, 0, 0, 0, 0, 0, 0, 0, 0, 0, 0, 0, 0, 0, 0, 0, 128, 0, 0, 0, 0, 0, 0, 0, 0, 0, 0, 0, 0, 0, 0, 0, 0, 0, 0, 0, 0, 0, 0, 0, 0, 0, 0, 0, 0, 0, 0, 0, 0, 0, 0, 0, 0, 0, 0, 0, 0, 0, 0, 0, 0, 0, 0, 0, 0, 0, 0, 0, 0, 0, 0, 0, 0, 0, 0, 0, 0, 2, 8]) (by kernel_rfl) (by kernel_rfl) (by kernel_rfl)
theorem e_ab : dgL (knotF kk (dg1 1) (dg1 2)) = (([127, 80, 117, 78, 227, 143, 160, 51, 23, 237, 95, 254, 79, 42, 217, 20, 128, 133, 79, 170, 249, 85, 136, 108, 215, 128, 243, 116, 250, 101, 130, 246] : List Nat)).map (BitVec.ofNat 8) := knot_eval kk kk_nat (dg1_L 1) (dg1_L 2) (ms := [1, 1, 0, 0, 0, 0, 0, 0, 0, 0, 0, 0, 0, 0, 0, 0, 0, 0, 0, 0, 0, 0, 0, 0, 0, 0, 0, 0, 0, 0, 0, 0, 0, 2, 0, 0, 0, 0, 0, 0, 0, 0, 0, 0, 0, 0, 0, 0, 0, 0, 0, 0, 0, 0, 0, 0, 0, 0, 0, 0, 0, 0, 0, 0, 0, 128, 0, 0, 0, 0, 0, 0, 0, 0, 0, 0, 0, 0, 0, 0, 0, 0, 0, 0, 0, 0, 0, 0, 0, 0, 0, 0, 0, 0, 0, 0, 0, 0, 0, 0, 0, 0, 0, 0, 0, 0, 0, 0, 0, 0, 0, 0, 0, 0, 0, 0, 0, 0, 0, 0, 0, 0, 0, 0, 0, 0, 2, 8]) (by kernel_rfl) (by kernel_rfl) (by kernel_rfl)
theorem e_x : dgL (knotF kk (knotF kk (dg1 2) (dg1 2)) (dg1 3)) = (([36, 200, 168, 2, 225, 56, 215, 234, 165, 39, 165, 219, 55, 251, 23, 40, 226, 101, 37, 4, 9, 41, 155, 102, 241, 85, 191, 19, 129, 14, 76, 5] : List Nat)).map (BitVec.ofNat 8) := knot_eval kk kk_nat e_bb (dg1_L 3) (ms := [1, 12, 83, 185, 185, 112, 46, 130, 120, 60, 132, 39, 237, 170, 246, 77, 243, 129, 31, 135, 85, 30, 71, 201, 144, 89, 215, 115, 27, 26, 143, 49, 89, 3, 0, 0, 0, 0, 0, 0, 0, 0, 0, 0, 0, 0, 0, 0, 0, 0, 0, 0, 0, 0, 0, 0, 0, 0, 0, 0, 0, 0, 0, 0, 0, 128, 0, 0, 0, 0, 0, 0, 0, 0, 0, 0, 0, 0, 0, 0, 0, 0, 0, 0, 0, 0, 0, 0, 0, 0, 0, 0, 0, 0, 0, 0, 0, 0, 0, 0, 0, 0, 0, 0, 0, 0, 0, 0, 0, 0, 0, 0, 0, 0, 0, 0, 0, 0, 0, 0, 0, 0, 0, 0, 0, 0, 2, 8]) (by kernel_rfl) (by kernel_rfl) (by kernel_rfl)
theorem e_y : dgL (knotF kk (knotF kk (dg1 1) (dg1 2)) (dg1 3)) = (([239, 181, 50, 114, 171, 165, 7, 99, 1, 255, 156, 68, 26, 192, 16, 158, 230, 191, 194, 105, 194, 144, 178, 57, 82, 124, 164, 54, 240, 110, 240, 81] : List Nat)).map (BitVec.ofNat 8) := knot_eval kk kk_nat e_ab (dg1_L 3) (ms := [1, 127, 80, 117, 78, 227, 143, 160, 51, 23, 237, 95, 254, 79, 42, 217, 20, 128, 133, 79, 170, 249, 85, 136, 108, 215, 128, 243, 116, 250, 101, 130, 246, 3, 0, 0, 0, 0, 0, 0, 0, 0, 0, 0, 0, 0, 0, 0, 0, 0, 0, 0, 0, 0, 0, 0, 0, 0, 0, 0, 0, 0, 0, 0, 0, 128, 0, 0, 0, 0, 0, 0, 0, 0, 0, 0, 0, 0, 0, 0, 0, 0, 0, 0, 0, 0, 0, 0, 0, 0, 0, 0, 0, 0, 0, 0, 0, 0, 0, 0, 0, 0, 0, 0, 0, 0, 0, 0, 0, 0, 0, 0, 0, 0, 0, 0, 0, 0, 0, 0, 0, 0, 0, 0, 0, 0, 2, 8]) (by kernel_rfl) (by kernel_rfl) (by kernel_rfl)
theorem hne : sameB 32 (knotF kk (knotF kk (dg1 2) (dg1 2)) (dg1 3)) (knotF kk (knotF kk (dg1 1) (dg1 2)) (dg1 3)) = false := by
  cases h : sameB 32 (knotF kk (knotF kk (dg1 2) (dg1 2)) (dg1 3)) (knotF kk (knotF kk (dg1 1) (dg1 2)) (dg1 3)) with
  | false => rfl
  | true =>
    have h1 := sameB_iff.1 h
    rw [dgL_row, dgL_row, e_x, e_y] at h1
    exact absurd (congrArg (fun l : List Value => match l with | Value.int _ z :: _ => z | _ => 0) h1) (by decide)
end Go.Proofs.YtajjalickpkkkaaDoor
