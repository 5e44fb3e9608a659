/- Walks and plain laws: what each theorem says, within the bounds that it names. -/
import Derived.Test.YthfklplpfbmkgaaDoorXS
import Derived.Test.YthfklplpfbmkgaaDoorTabs
import Derived.Test.YthfklplpfbmkgaaDoorH10
set_option linter.unusedVariables false
set_option linter.unusedSimpArgs false
set_option maxRecDepth 20000
namespace Go.Proofs.YthfklplpfbmkgaaDoor
open Go.Flat
theorem kk_nat : ∀ i, i < 64 → (kk i).toNat = shaK.getD i 0 := by
  have h : ((List.range 64).all fun i => (kk i).toNat == shaK.getD i 0) = true := by kernel_rfl
  intro i hi
  exact beq_iff_eq.1 (List.all_eq_true.1 h i (List.mem_range.2 hi))
theorem blockT_L {key : D} {lk : List Nat} (u : BitVec 8) (h : dgL key = lk.map (BitVec.ofNat 8)) : bl (blockT key u) = (lk ++ List.replicate 32 0).map (fun n => BitVec.ofNat 8 n ^^^ u) := by
  rw [blockT_eq, bl_strOf, List.map_append]
  have e : (fun n => BitVec.ofNat 8 n ^^^ u) = (fun x => x ^^^ u) ∘ (BitVec.ofNat 8) := rfl
  rw [e, ← List.map_map, ← h]
  rfl
theorem mac_eval (kk : Nat → BitVec 32) (hk : ∀ i, i < 64 → (kk i).toNat = shaK.getD i 0) {key : D} {s : ByteArray} {lk ls ms1 ms2 o1 o2 : List Nat} {n1 n2 : Nat} (hkey : dgL key = lk.map (BitVec.ofNat 8)) (hs : bl s = ls.map (BitVec.ofNat 8))
    (hm : (((lk ++ List.replicate 32 0).map (fun n => BitVec.ofNat 8 n ^^^ 54#8) ++ ls.map (BitVec.ofNat 8)) ++ padM ((lk ++ List.replicate 32 0).map (fun n => BitVec.ofNat 8 n ^^^ 54#8) ++ ls.map (BitVec.ofNat 8)) 8).map BitVec.toNat = ms1)
    (hn : (((lk ++ List.replicate 32 0).map (fun n => BitVec.ofNat 8 n ^^^ 54#8) ++ ls.map (BitVec.ofNat 8)) ++ padM ((lk ++ List.replicate 32 0).map (fun n => BitVec.ofNat 8 n ^^^ 54#8) ++ ls.map (BitVec.ofNat 8)) 8).length / 64 = n1)
    (h1 : shaL shaK n1 ms1 = o1)
    (hm2 : (((lk ++ List.replicate 32 0).map (fun n => BitVec.ofNat 8 n ^^^ 92#8) ++ o1.map (BitVec.ofNat 8)) ++ padM ((lk ++ List.replicate 32 0).map (fun n => BitVec.ofNat 8 n ^^^ 92#8) ++ o1.map (BitVec.ofNat 8)) 8).map BitVec.toNat = ms2)
    (hn2 : (((lk ++ List.replicate 32 0).map (fun n => BitVec.ofNat 8 n ^^^ 92#8) ++ o1.map (BitVec.ofNat 8)) ++ padM ((lk ++ List.replicate 32 0).map (fun n => BitVec.ofNat 8 n ^^^ 92#8) ++ o1.map (BitVec.ofNat 8)) 8).length / 64 = n2)
    (h2 : shaL shaK n2 ms2 = o2) : dgL (macT kk key s) = o2.map (BitVec.ofNat 8) := by
  have e1 : msgOf [blockT key 54#8, s] = (lk ++ List.replicate 32 0).map (fun n => BitVec.ofNat 8 n ^^^ 54#8) ++ ls.map (BitVec.ofNat 8) := by
    simp only [msgOf, List.map_cons, List.map_nil, List.flatten_cons, List.flatten_nil, List.append_nil, blockT_L _ hkey, hs]
  have d1 : dgL (shaOf kk (msgOf [blockT key 54#8, s])) = o1.map (BitVec.ofNat 8) := by rw [e1]; exact dg_eval kk shaK rfl hk _ hm hn h1
  have e2 : msgOf [blockT key 92#8, strOf (dgL (shaOf kk (msgOf [blockT key 54#8, s])))] = (lk ++ List.replicate 32 0).map (fun n => BitVec.ofNat 8 n ^^^ 92#8) ++ o1.map (BitVec.ofNat 8) := by
    rw [d1]
    simp only [msgOf, List.map_cons, List.map_nil, List.flatten_cons, List.flatten_nil, List.append_nil, blockT_L _ hkey, bl_strOf]
  unfold macT
  rw [e2]
  exact dg_eval kk shaK rfl hk _ hm2 hn2 h2
theorem dz_L : dgL dz = (List.replicate 32 0).map (BitVec.ofNat 8) := rfl
theorem head_L : bl (markT ++ strOf (bytesR (headL oneH))) = (([104, 101, 97, 100, 32, 1, 0, 0, 1, 1, 2, 0, 0, 1, 1, 3, 0, 0, 0, 4, 0, 0, 32, 0, 0, 0, 0, 0, 0, 0, 0, 0, 0, 0, 0, 0, 0, 0, 0, 0, 0, 0, 0, 0, 0, 0, 0, 0, 0, 0, 0, 0, 0, 0, 0, 5, 0, 0, 0] : List Nat)).map (BitVec.ofNat 8) := by
  rw [bl_append, bl_strOf]
  kernel_rfl
theorem key1 : dgL (macT kk dz (strOf [75#8, BitVec.ofInt 8 oneH.region, BitVec.ofInt 8 1])) = (([97, 130, 249, 112, 172, 121, 183, 191, 242, 249, 51, 182, 144, 251, 109, 172, 121, 17, 205, 116, 248, 74, 118, 20, 149, 119, 251, 144, 170, 178, 72, 31] : List Nat)).map (BitVec.ofNat 8) :=
  mac_eval kk kk_nat dz_L (ls := [75, 1, 1]) (by rw [bl_strOf]; kernel_rfl) (ms1 := [54, 54, 54, 54, 54, 54, 54, 54, 54, 54, 54, 54, 54, 54, 54, 54, 54, 54, 54, 54, 54, 54, 54, 54, 54, 54, 54, 54, 54, 54, 54, 54, 54, 54, 54, 54, 54, 54, 54, 54, 54, 54, 54, 54, 54, 54, 54, 54, 54, 54, 54, 54, 54, 54, 54, 54, 54, 54, 54, 54, 54, 54, 54, 54, 75, 1, 1, 128, 0, 0, 0, 0, 0, 0, 0, 0, 0, 0, 0, 0, 0, 0, 0, 0, 0, 0, 0, 0, 0, 0, 0, 0, 0, 0, 0, 0, 0, 0, 0, 0, 0, 0, 0, 0, 0, 0, 0, 0, 0, 0, 0, 0, 0, 0, 0, 0, 0, 0, 0, 0, 0, 0, 0, 0, 0, 0, 2, 24]) (ms2 := [92, 92, 92, 92, 92, 92, 92, 92, 92, 92, 92, 92, 92, 92, 92, 92, 92, 92, 92, 92, 92, 92, 92, 92, 92, 92, 92, 92, 92, 92, 92, 92, 92, 92, 92, 92, 92, 92, 92, 92, 92, 92, 92, 92, 92, 92, 92, 92, 92, 92, 92, 92, 92, 92, 92, 92, 92, 92, 92, 92, 92, 92, 92, 92, 6, 76, 162, 242, 46, 166, 214, 28, 40, 193, 173, 2, 66, 10, 236, 20, 193, 47, 124, 41, 169, 59, 180, 240, 202, 116, 96, 60, 85, 22, 221, 231, 128, 0, 0, 0, 0, 0, 0, 0, 0, 0, 0, 0, 0, 0, 0, 0, 0, 0, 0, 0, 0, 0, 0, 0, 0, 0, 0, 0, 0, 0, 3, 0]) (o1 := [6, 76, 162, 242, 46, 166, 214, 28, 40, 193, 173, 2, 66, 10, 236, 20, 193, 47, 124, 41, 169, 59, 180, 240, 202, 116, 96, 60, 85, 22, 221, 231]) (n1 := 2) (n2 := 2) (by kernel_rfl) (by kernel_rfl) (by kernel_rfl) (by kernel_rfl) (by kernel_rfl) (by kernel_rfl)
theorem tag1 : dgL (macT kk (macT kk dz (strOf [75#8, BitVec.ofInt 8 oneH.region, BitVec.ofInt 8 1])) (markT ++ strOf (bytesR (headL oneH)))) = (([142, 93, 49, 177, 18, 212, 166, 36, 197, 13, 138, 106, 21, 235, 129, 39, 63, 75, 246, 242, 250, 87, 86, 172, 223, 243, 48, 14, 212, 134, 126, 90] : List Nat)).map (BitVec.ofNat 8) :=
  mac_eval kk kk_nat key1 head_L (ms1 := [87, 180, 207, 70, 154, 79, 129, 137, 196, 207, 5, 128, 166, 205, 91, 154, 79, 39, 251, 66, 206, 124, 64, 34, 163, 65, 205, 166, 156, 132, 126, 41, 54, 54, 54, 54, 54, 54, 54, 54, 54, 54, 54, 54, 54, 54, 54, 54, 54, 54, 54, 54, 54, 54, 54, 54, 54, 54, 54, 54, 54, 54, 54, 54, 104, 101, 97, 100, 32, 1, 0, 0, 1, 1, 2, 0, 0, 1, 1, 3, 0, 0, 0, 4, 0, 0, 32, 0, 0, 0, 0, 0, 0, 0, 0, 0, 0, 0, 0, 0, 0, 0, 0, 0, 0, 0, 0, 0, 0, 0, 0, 0, 0, 0, 0, 0, 0, 0, 0, 5, 0, 0, 0, 128, 0, 0, 0, 0, 0, 0, 0, 0, 0, 0, 0, 0, 0, 0, 0, 0, 0, 0, 0, 0, 0, 0, 0, 0, 0, 0, 0, 0, 0, 0, 0, 0, 0, 0, 0, 0, 0, 0, 0, 0, 0, 0, 0, 0, 0, 0, 0, 0, 0, 0, 0, 0, 0, 0, 0, 0, 0, 0, 0, 0, 0, 0, 0, 0, 0, 0, 3, 216]) (ms2 := [61, 222, 165, 44, 240, 37, 235, 227, 174, 165, 111, 234, 204, 167, 49, 240, 37, 77, 145, 40, 164, 22, 42, 72, 201, 43, 167, 204, 246, 238, 20, 67, 92, 92, 92, 92, 92, 92, 92, 92, 92, 92, 92, 92, 92, 92, 92, 92, 92, 92, 92, 92, 92, 92, 92, 92, 92, 92, 92, 92, 92, 92, 92, 92, 151, 44, 204, 207, 240, 130, 77, 15, 105, 215, 83, 4, 217, 135, 171, 84, 61, 55, 158, 195, 246, 204, 95, 11, 114, 51, 0, 207, 186, 64, 129, 167, 128, 0, 0, 0, 0, 0, 0, 0, 0, 0, 0, 0, 0, 0, 0, 0, 0, 0, 0, 0, 0, 0, 0, 0, 0, 0, 0, 0, 0, 0, 3, 0]) (o1 := [151, 44, 204, 207, 240, 130, 77, 15, 105, 215, 83, 4, 217, 135, 171, 84, 61, 55, 158, 195, 246, 204, 95, 11, 114, 51, 0, 207, 186, 64, 129, 167]) (n1 := 3) (n2 := 2) (by kernel_rfl) (by kernel_rfl) (by kernel_rfl) (by kernel_rfl) (by kernel_rfl) (by kernel_rfl)
theorem key2 : dgL (macT kk dz (strOf [75#8, BitVec.ofInt 8 oneH.region, BitVec.ofInt 8 2])) = (([52, 108, 35, 245, 220, 244, 201, 129, 135, 162, 71, 27, 136, 36, 51, 207, 228, 36, 235, 173, 69, 161, 159, 13, 147, 143, 237, 117, 77, 71, 185, 182] : List Nat)).map (BitVec.ofNat 8) :=
  mac_eval kk kk_nat dz_L (ls := [75, 1, 2]) (by rw [bl_strOf]; kernel_rfl) (ms1 := [54, 54, 54, 54, 54, 54, 54, 54, 54, 54, 54, 54, 54, 54, 54, 54, 54, 54, 54, 54, 54, 54, 54, 54, 54, 54, 54, 54, 54, 54, 54, 54, 54, 54, 54, 54, 54, 54, 54, 54, 54, 54, 54, 54, 54, 54, 54, 54, 54, 54, 54, 54, 54, 54, 54, 54, 54, 54, 54, 54, 54, 54, 54, 54, 75, 1, 2, 128, 0, 0, 0, 0, 0, 0, 0, 0, 0, 0, 0, 0, 0, 0, 0, 0, 0, 0, 0, 0, 0, 0, 0, 0, 0, 0, 0, 0, 0, 0, 0, 0, 0, 0, 0, 0, 0, 0, 0, 0, 0, 0, 0, 0, 0, 0, 0, 0, 0, 0, 0, 0, 0, 0, 0, 0, 0, 0, 2, 24]) (ms2 := [92, 92, 92, 92, 92, 92, 92, 92, 92, 92, 92, 92, 92, 92, 92, 92, 92, 92, 92, 92, 92, 92, 92, 92, 92, 92, 92, 92, 92, 92, 92, 92, 92, 92, 92, 92, 92, 92, 92, 92, 92, 92, 92, 92, 92, 92, 92, 92, 92, 92, 92, 92, 92, 92, 92, 92, 92, 92, 92, 92, 92, 92, 92, 92, 216, 127, 43, 196, 114, 18, 224, 128, 186, 10, 226, 84, 189, 193, 76, 168, 146, 74, 67, 6, 62, 204, 91, 218, 248, 157, 85, 215, 217, 191, 173, 198, 128, 0, 0, 0, 0, 0, 0, 0, 0, 0, 0, 0, 0, 0, 0, 0, 0, 0, 0, 0, 0, 0, 0, 0, 0, 0, 0, 0, 0, 0, 3, 0]) (o1 := [216, 127, 43, 196, 114, 18, 224, 128, 186, 10, 226, 84, 189, 193, 76, 168, 146, 74, 67, 6, 62, 204, 91, 218, 248, 157, 85, 215, 217, 191, 173, 198]) (n1 := 2) (n2 := 2) (by kernel_rfl) (by kernel_rfl) (by kernel_rfl) (by kernel_rfl) (by kernel_rfl) (by kernel_rfl)
theorem tag2 : dgL (macT kk (macT kk dz (strOf [75#8, BitVec.ofInt 8 oneH.region, BitVec.ofInt 8 2])) (markT ++ strOf (bytesR (headL oneH)))) = (([170, 215, 225, 195, 158, 171, 177, 129, 56, 161, 209, 67, 217, 92, 244, 147, 208, 60, 121, 2, 157, 141, 65, 175, 166, 255, 33, 155, 18, 187, 246, 26] : List Nat)).map (BitVec.ofNat 8) :=
  mac_eval kk kk_nat key2 head_L (ms1 := [2, 90, 21, 195, 234, 194, 255, 183, 177, 148, 113, 45, 190, 18, 5, 249, 210, 18, 221, 155, 115, 151, 169, 59, 165, 185, 219, 67, 123, 113, 143, 128, 54, 54, 54, 54, 54, 54, 54, 54, 54, 54, 54, 54, 54, 54, 54, 54, 54, 54, 54, 54, 54, 54, 54, 54, 54, 54, 54, 54, 54, 54, 54, 54, 104, 101, 97, 100, 32, 1, 0, 0, 1, 1, 2, 0, 0, 1, 1, 3, 0, 0, 0, 4, 0, 0, 32, 0, 0, 0, 0, 0, 0, 0, 0, 0, 0, 0, 0, 0, 0, 0, 0, 0, 0, 0, 0, 0, 0, 0, 0, 0, 0, 0, 0, 0, 0, 0, 0, 5, 0, 0, 0, 128, 0, 0, 0, 0, 0, 0, 0, 0, 0, 0, 0, 0, 0, 0, 0, 0, 0, 0, 0, 0, 0, 0, 0, 0, 0, 0, 0, 0, 0, 0, 0, 0, 0, 0, 0, 0, 0, 0, 0, 0, 0, 0, 0, 0, 0, 0, 0, 0, 0, 0, 0, 0, 0, 0, 0, 0, 0, 0, 0, 0, 0, 0, 0, 0, 0, 0, 3, 216]) (ms2 := [104, 48, 127, 169, 128, 168, 149, 221, 219, 254, 27, 71, 212, 120, 111, 147, 184, 120, 183, 241, 25, 253, 195, 81, 207, 211, 177, 41, 17, 27, 229, 234, 92, 92, 92, 92, 92, 92, 92, 92, 92, 92, 92, 92, 92, 92, 92, 92, 92, 92, 92, 92, 92, 92, 92, 92, 92, 92, 92, 92, 92, 92, 92, 92, 19, 72, 85, 72, 216, 93, 64, 169, 161, 98, 115, 77, 95, 88, 187, 104, 52, 88, 189, 178, 252, 177, 253, 59, 4, 98, 222, 138, 180, 104, 108, 115, 128, 0, 0, 0, 0, 0, 0, 0, 0, 0, 0, 0, 0, 0, 0, 0, 0, 0, 0, 0, 0, 0, 0, 0, 0, 0, 0, 0, 0, 0, 3, 0]) (o1 := [19, 72, 85, 72, 216, 93, 64, 169, 161, 98, 115, 77, 95, 88, 187, 104, 52, 88, 189, 178, 252, 177, 253, 59, 4, 98, 222, 138, 180, 104, 108, 115]) (n1 := 3) (n2 := 2) (by kernel_rfl) (by kernel_rfl) (by kernel_rfl) (by kernel_rfl) (by kernel_rfl) (by kernel_rfl)
theorem hne : sameB 32 (tagT kk dz oneH 1) (tagT kk dz oneH 2) = false := by
  cases h : sameB 32 (tagT kk dz oneH 1) (tagT kk dz oneH 2) with
  | false => rfl
  | true =>
    have h1 := sameB_iff.1 h
    unfold tagT at h1
    rw [dgL_row, dgL_row, tag1, tag2] at h1
    exact absurd (congrArg (fun l : List Value => match l with | Value.int _ z :: _ => z | _ => 0) h1) (by decide)
end Go.Proofs.YthfklplpfbmkgaaDoor
