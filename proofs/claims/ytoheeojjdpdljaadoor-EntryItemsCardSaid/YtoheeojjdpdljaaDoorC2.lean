/- Walks and plain laws: what each theorem says, within the bounds that it names. -/
import Derived.Test.YtoheeojjdpdljaaDoorC1
import Derived.Test.YtoheeojjdpdljaaDoorH23
import Derived.Test.YtoheeojjdpdljaaDoorH8
set_option linter.unusedVariables false
set_option linter.unusedSimpArgs false
set_option maxRecDepth 20000
namespace Go.Flat
open Go.Proofs
variable {G : Glob}
def claimL (c : Claim) : List ByteArray := [(numS c.region).1, (numS c.epoch).1, (numS c.node).1, (numS c.size).1, strOf (dgL c.root)]
theorem claimL_sz (c : Claim) : ∀ x, x ∈ claimL c → x.size ≤ 65536 := by
  intro x hx
  have h1 := numS_size c.region
  have h2 := numS_size c.epoch
  have h3 := numS_size c.node
  have h4 := numS_size c.size
  simp only [claimL, List.mem_cons, List.not_mem_nil, or_false] at hx
  rcases hx with rfl | rfl | rfl | rfl | rfl
  all_goals first | omega | (rw [strOf_size, dgL_len]; omega)
theorem putC_0 {c : Claim} (h : rightC c) : (putC c).2 = 0 := by rw [show putC c = _ from if_pos h]
theorem dgL_cp (d : D) : dgL (cpM dz (strOf (dgL d))) = dgL d := by
  have h : sameB 32 (cpM dz (strOf (dgL d))) d = true := cpD_dgL d
  simp only [sameB, List.all_eq_true, List.mem_range, beq_iff_eq] at h
  unfold dgL
  exact List.map_congr_left fun i hi => h i (List.mem_range.1 hi)
theorem gotC_put {c : Claim} (hr : rightC c) : (gotC (putC c).1).2 = 0 ∧ eqClaim (gotC (putC c).1).1 c = true := by
  have hr' := hr
  unfold rightC at hr'
  have hb : (putC c).1 = bytesR (claimL c) := by rw [show putC c = _ from if_pos hr]; rfl
  have hrd : readF (putC c).1 = (claimF c, 0) := by rw [hb]; exact readF_bytes (claimL c) (by simp [claimL]) (claimL_sz c)
  have v1 := valS_numS (n := c.region) (by omega) (by omega)
  have v2 := valS_numS (n := c.epoch) (by omega) (by omega)
  have v3 := valS_numS (n := c.node) (by omega) (by omega)
  have v4 := valS_numS (n := c.size) (by omega) (by omega)
  have hx : takeCL (claimF c) ⟨0, 0, 0, 0, dz⟩ = ⟨c.region, c.epoch, c.node, c.size, cpM dz (strOf (dgL c.root))⟩ := by
    simp [claimF, takeCL, takeC, v1, v2, v3, v4]
  have hq : rightC ⟨c.region, c.epoch, c.node, c.size, cpM dz (strOf (dgL c.root))⟩ := hr
  have hpb : (putC ⟨c.region, c.epoch, c.node, c.size, cpM dz (strOf (dgL c.root))⟩).1 = (putC c).1 := by
    rw [hb, show putC ⟨c.region, c.epoch, c.node, c.size, cpM dz (strOf (dgL c.root))⟩ = _ from if_pos hq]
    show bytesR (claimL ⟨c.region, c.epoch, c.node, c.size, cpM dz (strOf (dgL c.root))⟩) = bytesR (claimL c)
    unfold claimL
    rw [dgL_cp]
  have e : gotC (putC c).1 = (⟨c.region, c.epoch, c.node, c.size, cpM dz (strOf (dgL c.root))⟩, 0) := by
    unfold gotC
    rw [hrd, hx]
    exact if_pos ⟨rfl, putC_0 hq, by rw [hpb]; exact (sameT_iff _ _).2 rfl⟩
  rw [e]
  refine ⟨rfl, ?_⟩
  have h : sameB 32 (cpM dz (strOf (dgL c.root))) c.root = true := cpD_dgL c.root
  simp [eqClaim, h]
theorem refClaimBytes_ok (c : Claim) (hr : rightC c) : CallL Tryd.prog G 90 [claimV c] [] (slv 0 0 (putC c).1.length (putC c).1.length) [rowB (putC c).1] := by
  unfold rightC at hr
  refine walk (fn := Tryd.f90) (nt := 20) rfl rfl rfl rfl ?_
  refine c_hole 3 (H' := [hole, hole, hole]) rfl ?_
  refine c_seq (c_reg ?_)
  refine r_box (v := claimV c) (b := bxB 36 (claimC c)) (nid := 0) (H' := [bxB 36 (claimC c), hole, hole]) rfl rfl rfl (by kernel_rfl) (by kernel_rfl) ?_
  refine r_assign (v := .slice none 0 0) rfl rfl rfl ?_
  refine r_doneN (x_then (c_seq ?_))
  refine c_drawK (by kernel_rfl) ?_
  refine r_fieldAddr (b := 0) (o := 0) (n := 0) (o' := 0) rfl rfl rfl rfl rfl ?_
  refine r_load (p := pt 0 0) (v := .int .i64 c.region) rfl rfl rfl (by kernel_rfl) ?_
  refine r_callP (refNum_ok (G := G) c.region (by omega) (by omega)) (vals := [.int .i64 c.region]) (res' := .string ((numS c.region).1)) rfl rfl rfl rfl rfl rfl ?_
  refine r_fieldAddr (b := 0) (o := 0) (n := 1) (o' := 1) rfl rfl rfl rfl rfl ?_
  refine r_load (p := pt 0 1) (v := .int .i64 c.epoch) rfl rfl rfl (by kernel_rfl) ?_
  refine r_callP (refNum_ok (G := G) c.epoch (by omega) (by omega)) (vals := [.int .i64 c.epoch]) (res' := .string ((numS c.epoch).1)) rfl rfl rfl rfl rfl rfl ?_
  refine r_fieldAddr (b := 0) (o := 0) (n := 2) (o' := 2) rfl rfl rfl rfl rfl ?_
  refine r_load (p := pt 0 2) (v := .int .i64 c.node) rfl rfl rfl (by kernel_rfl) ?_
  refine r_callP (refNum_ok (G := G) c.node (by omega) (by omega)) (vals := [.int .i64 c.node]) (res' := .string ((numS c.node).1)) rfl rfl rfl rfl rfl rfl ?_
  refine r_fieldAddr (b := 0) (o := 0) (n := 3) (o' := 3) rfl rfl rfl rfl rfl ?_
  refine r_load (p := pt 0 3) (v := .int .i64 c.size) rfl rfl rfl (by kernel_rfl) ?_
  refine r_callP (refNum_ok (G := G) c.size (by omega) (by omega)) (vals := [.int .i64 c.size]) (res' := .string ((numS c.size).1)) rfl rfl rfl rfl rfl rfl ?_
  refine r_fieldAddr (b := 0) (o := 0) (n := 4) (o' := 4) rfl rfl rfl rfl rfl ?_
  refine r_load (p := pt 0 4) (v := dgV c.root) rfl rfl rfl (by kernel_rfl) ?_
  refine r_callP (refText_ok (G := G) c.root) (vals := [dgV c.root]) (res' := .string (strOf (dgL c.root))) rfl rfl rfl rfl rfl rfl ?_
  refine r_lit (vs := [(0, .string ((numS c.region).1)), (1, .string ((numS c.epoch).1)), (2, .string ((numS c.node).1)), (3, .string ((numS c.size).1)), (4, .string (strOf (dgL c.root)))]) (v := slv 1 0 5 5) (blk := txB [(numS c.region).1, (numS c.epoch).1, (numS c.node).1, (numS c.size).1, (strOf (dgL c.root))]) (nid := 1) (H' := [bxB 36 (claimC c), txB [(numS c.region).1, (numS c.epoch).1, (numS c.node).1, (numS c.size).1, (strOf (dgL c.root))], hole]) rfl rfl rfl (by kernel_rfl) (by kernel_rfl) ?_
  refine r_callN (e := [some (1, 0)]) (nid := 2) (refRow_ok (G := G) [(numS c.region).1, (numS c.epoch).1, (numS c.node).1, (numS c.size).1, (strOf (dgL c.root))] 5 5 (by rfl) (by first | omega | exact Nat.le_refl _) (by omega) (claimL_sz c)) (vals := [slv 1 0 5 5]) (v := slv 2 0 ((bytesR [(numS c.region).1, (numS c.epoch).1, (numS c.node).1, (numS c.size).1, (strOf (dgL c.root))]).length) ((bytesR [(numS c.region).1, (numS c.epoch).1, (numS c.node).1, (numS c.size).1, (strOf (dgL c.root))]).length)) (H' := [bxB 36 (claimC c), txB [(numS c.region).1, (numS c.epoch).1, (numS c.node).1, (numS c.size).1, (strOf (dgL c.root))], rowB (bytesR [(numS c.region).1, (numS c.epoch).1, (numS c.node).1, (numS c.size).1, (strOf (dgL c.root))])]) rfl rfl rfl rfl rfl rfl rfl ⟨⟨⟨rfl, rfl, rfl, by first | omega | exact Nat.le_refl _, by first | omega | exact Nat.le_refl _⟩, trivial⟩, ⟨(emb_tx rfl), trivial⟩, rfl, rfl, rfl⟩ (by kernel_rfl) (by kernel_rfl) ?_
  refine r_assign (v := slv 2 0 ((bytesR [(numS c.region).1, (numS c.epoch).1, (numS c.node).1, (numS c.size).1, (strOf (dgL c.root))]).length) ((bytesR [(numS c.region).1, (numS c.epoch).1, (numS c.node).1, (numS c.size).1, (strOf (dgL c.root))]).length)) rfl rfl rfl ?_
  refine r_doneK (drawnTK_ok [[], [0], [0, 1], [], [3], [0, 1, 2, 3, 4], [], [6], [0, 1, 2, 3, 4, 5, 6, 7], [], [9], [0, 1, 2, 3, 4, 5, 6, 7, 8, 9, 10], [], [12], [0, 1, 2, 3, 4, 5, 6, 7, 8, 9, 10, 11, 12, 13], [0, 1, 2, 3, 4, 5, 6, 7, 8, 9, 10, 11, 12, 13, 14], [0, 1, 2, 3, 4, 5, 6, 7, 8, 9, 10, 11, 12, 13, 14, 15], [0, 1, 2, 3, 4, 5, 6, 7, 8, 9, 10, 11, 12, 13, 14, 15, 16]] (by kernel_rfl) (by kernel_rfl)) ?_
  refine x_then (c_ret (x_end ?_))
  rw [show (putC c).1 = bytesR (claimL c) from by rw [show putC c = _ from if_pos hr]; rfl]
  exact end_map [2] (v := slv 2 0 ((bytesR [(numS c.region).1, (numS c.epoch).1, (numS c.node).1, (numS c.size).1, (strOf (dgL c.root))]).length) ((bytesR [(numS c.region).1, (numS c.epoch).1, (numS c.node).1, (numS c.size).1, (strOf (dgL c.root))]).length)) rfl (by kernel_rfl) rfl rfl (by decide) (by simp [keptB, rowB]) ⟨rfl, rfl, rfl, by first | omega | exact Nat.le_refl _ | exact Nat.zero_le _ | (dsimp only; omega), by first | omega | exact Nat.le_refl _ | exact Nat.zero_le _ | (dsimp only; omega)⟩
end Go.Flat
