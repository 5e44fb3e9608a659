/- Walks and plain laws: what each theorem says, within the bounds that it names. -/
import Derived.Test.YtoheeojjdpdljaaC1
import Derived.Test.YtoheeojjdpdljaaH23
import Derived.Test.YtoheeojjdpdljaaH8
set_option linter.unusedVariables false
set_option linter.unusedSimpArgs false
set_option maxRecDepth 20000
namespace Go.Flat
open Go.Proofs
variable {G : Glob}
def claimL (c : Claim) : List ByteArray := [(numS c.region).1, (numS c.epoch).1, (numS c.node).1, (numS c.size).1, strOf (dgL c.root)]
theorem claimL_sz (c : Claim) : ∀ x, x ∈ claimL c → x.size ≤ 65536 := by
  intro x hx
  have h1 := numS_size c.region
  have h2 := numS_size c.epoch
  have h3 := numS_size c.node
  have h4 := numS_size c.size
  simp only [claimL, List.mem_cons, List.not_mem_nil, or_false] at hx
  rcases hx with rfl | rfl | rfl | rfl | rfl
  all_goals first | omega | (rw [strOf_size, dgL_len]; omega)
theorem putC_0 {c : Claim} (h : rightC c) : (putC c).2 = 0 := by rw [show putC c = _ from if_pos h]
theorem putC_1 {c : Claim} (h : (putC c).2 = 0) : rightC c := by
  refine Decidable.byContradiction fun q => ?_
  rw [show putC c = ([], 60) from if_neg q] at h; exact absurd h (by decide)
theorem putC_chk (c : Claim) : (putC c).2 = chkC c := by
  unfold putC chkC; split <;> rfl
theorem dgL_cp (d : D) : dgL (cpM dz (strOf (dgL d))) = dgL d := by
  have h : sameB 32 (cpM dz (strOf (dgL d))) d = true := cpD_dgL d
  simp only [sameB, List.all_eq_true, List.mem_range, beq_iff_eq] at h
  unfold dgL
  exact List.map_congr_left fun i hi => h i (List.mem_range.1 hi)
theorem gotC_put {c : Claim} (hr : rightC c) : (gotC (putC c).1).2 = 0 ∧ eqClaim (gotC (putC c).1).1 c = true := by
  have hr' := hr
  unfold rightC at hr'
  have hb : (putC c).1 = bytesR (claimL c) := by rw [show putC c = _ from if_pos hr]; rfl
  have hrd : readF (putC c).1 = (claimF c, 0) := by rw [hb]; exact readF_bytes (claimL c) (by simp [claimL]) (claimL_sz c)
  have v1 := valS_numS (n := c.region) (by omega) (by omega)
  have v2 := valS_numS (n := c.epoch) (by omega) (by omega)
  have v3 := valS_numS (n := c.node) (by omega) (by omega)
  have v4 := valS_numS (n := c.size) (by omega) (by omega)
  have hx : takeCL (claimF c) ⟨0, 0, 0, 0, dz⟩ = ⟨c.region, c.epoch, c.node, c.size, cpM dz (strOf (dgL c.root))⟩ := by
    simp [claimF, takeCL, takeC, v1, v2, v3, v4]
  have hq : rightC ⟨c.region, c.epoch, c.node, c.size, cpM dz (strOf (dgL c.root))⟩ := hr
  have hpb : (putC ⟨c.region, c.epoch, c.node, c.size, cpM dz (strOf (dgL c.root))⟩).1 = (putC c).1 := by
    rw [hb, show putC ⟨c.region, c.epoch, c.node, c.size, cpM dz (strOf (dgL c.root))⟩ = _ from if_pos hq]
    show bytesR (claimL ⟨c.region, c.epoch, c.node, c.size, cpM dz (strOf (dgL c.root))⟩) = bytesR (claimL c)
    unfold claimL
    rw [dgL_cp]
  have e : gotC (putC c).1 = (⟨c.region, c.epoch, c.node, c.size, cpM dz (strOf (dgL c.root))⟩, 0) := by
    unfold gotC
    rw [hrd, hx]
    exact if_pos ⟨rfl, putC_0 hq, by rw [hpb]; exact (sameT_iff _ _).2 rfl⟩
  rw [e]
  refine ⟨rfl, ?_⟩
  have h : sameB 32 (cpM dz (strOf (dgL c.root))) c.root = true := cpD_dgL c.root
  simp [eqClaim, h]
theorem c0_right : rightC ⟨1, 2, 3, 0, dz⟩ := by
  show (1 ≤ (1 : Int) ∧ (1 : Int) ≤ 5) ∧ (1 ≤ (2 : Int) ∧ (2 : Int) ≤ 900000000) ∧ (1 ≤ (3 : Int) ∧ (3 : Int) ≤ 3) ∧ (0 ≤ (0 : Int) ∧ (0 : Int) ≤ 100000)
  omega
theorem claims_ok  : CallL Try.prog G 7 [] [] (.bool true) [] := by
  refine walk (fn := Try.f7) (nt := 38) rfl rfl rfl rfl ?_
  refine c_hole 3 (H' := [hole, hole, hole]) rfl ?_
  refine c_seq (c_reg ?_)
  refine r_assign (v := .bool false) rfl rfl rfl ?_
  refine r_doneN (x_then (c_seq (c_reg ?_)))
  refine r_build (vs := [(0, .int .i64 1), (1, .int .i64 2), (2, .int .i64 3)]) (v := claimV (⟨1, 2, 3, 0, dz⟩ : Claim)) rfl rfl rfl (by kernel_rfl) ?_
  refine r_alloc (b := bxB 36 (claimC (⟨0, 0, 0, 0, dz⟩ : Claim))) (nid := 0) (H' := [bxB 36 (claimC (⟨0, 0, 0, 0, dz⟩ : Claim)), hole, hole]) rfl rfl (by kernel_rfl) (by kernel_rfl) ?_
  refine r_store (p := pt 0 0) (v := claimV (⟨1, 2, 3, 0, dz⟩ : Claim)) (b := 0) (blk := bxB 36 (claimC (⟨1, 2, 3, 0, dz⟩ : Claim))) (H' := [bxB 36 (claimC (⟨1, 2, 3, 0, dz⟩ : Claim)), hole, hole]) rfl rfl rfl (by kernel_rfl) (by kernel_rfl) ?_
  refine r_doneN (x_then (c_seq (c_reg ?_)))
  refine r_load (p := pt 0 0) (v := claimV (⟨1, 2, 3, 0, dz⟩ : Claim)) rfl rfl rfl (by kernel_rfl) ?_
  have hpl6 := putC_len (⟨1, 2, 3, 0, dz⟩ : Claim)
  have hpz6 := putC_0 (c := (⟨1, 2, 3, 0, dz⟩ : Claim)) c0_right
  refine r_callN (e := []) (nid := 1) (PutClaim_ok (G := G) (⟨1, 2, 3, 0, dz⟩ : Claim)) (vals := [claimV (⟨1, 2, 3, 0, dz⟩ : Claim)]) (v := .tuple #[slv 1 0 ((putC (⟨1, 2, 3, 0, dz⟩ : Claim)).1.length) ((putC (⟨1, 2, 3, 0, dz⟩ : Claim)).1.length), .int .i64 (((putC (⟨1, 2, 3, 0, dz⟩ : Claim)).2))]) (H' := [bxB 36 (claimC (⟨1, 2, 3, 0, dz⟩ : Claim)), rowB ((putC (⟨1, 2, 3, 0, dz⟩ : Claim)).1), hole]) rfl rfl rfl rfl rfl rfl rfl ⟨⟨rfl, trivial⟩, trivial, rfl, rfl, rfl⟩ (by kernel_rfl) (by kernel_rfl) ?_
  refine r_move (v := .tuple #[slv 1 0 ((putC (⟨1, 2, 3, 0, dz⟩ : Claim)).1.length) ((putC (⟨1, 2, 3, 0, dz⟩ : Claim)).1.length), .int .i64 (((putC (⟨1, 2, 3, 0, dz⟩ : Claim)).2))]) rfl rfl rfl ?_
  refine r_extract (vs := #[slv 1 0 ((putC (⟨1, 2, 3, 0, dz⟩ : Claim)).1.length) ((putC (⟨1, 2, 3, 0, dz⟩ : Claim)).1.length), .int .i64 (((putC (⟨1, 2, 3, 0, dz⟩ : Claim)).2))]) (v := slv 1 0 ((putC (⟨1, 2, 3, 0, dz⟩ : Claim)).1.length) ((putC (⟨1, 2, 3, 0, dz⟩ : Claim)).1.length)) rfl rfl rfl rfl ?_
  refine r_extract (vs := #[slv 1 0 ((putC (⟨1, 2, 3, 0, dz⟩ : Claim)).1.length) ((putC (⟨1, 2, 3, 0, dz⟩ : Claim)).1.length), .int .i64 (((putC (⟨1, 2, 3, 0, dz⟩ : Claim)).2))]) (v := .int .i64 (((putC (⟨1, 2, 3, 0, dz⟩ : Claim)).2))) rfl rfl rfl rfl ?_
  refine r_assign (v := slv 1 0 ((putC (⟨1, 2, 3, 0, dz⟩ : Claim)).1.length) ((putC (⟨1, 2, 3, 0, dz⟩ : Claim)).1.length)) rfl rfl rfl ?_
  refine r_assign (v := .int .i64 (((putC (⟨1, 2, 3, 0, dz⟩ : Claim)).2))) rfl rfl rfl ?_
  refine r_doneN (x_then (c_seq (c_reg ?_)))
  refine r_move (v := slv 1 0 ((putC (⟨1, 2, 3, 0, dz⟩ : Claim)).1.length) ((putC (⟨1, 2, 3, 0, dz⟩ : Claim)).1.length)) rfl rfl rfl ?_
  have hg7 := gotC_put (c := (⟨1, 2, 3, 0, dz⟩ : Claim)) c0_right
  have hg07 := hg7.1
  have hgl7 := putC_len (⟨1, 2, 3, 0, dz⟩ : Claim)
  refine r_callN (e := [some (1, 0)]) (nid := 0) (GetClaim_ok (G := G) ((putC (⟨1, 2, 3, 0, dz⟩ : Claim)).1) ((putC (⟨1, 2, 3, 0, dz⟩ : Claim)).1.length) (by omega) (by omega)) (vals := [slv 1 0 ((putC (⟨1, 2, 3, 0, dz⟩ : Claim)).1.length) ((putC (⟨1, 2, 3, 0, dz⟩ : Claim)).1.length)]) (v := .tuple #[claimV ((gotC ((putC (⟨1, 2, 3, 0, dz⟩ : Claim)).1)).1), .int .i64 (((gotC ((putC (⟨1, 2, 3, 0, dz⟩ : Claim)).1)).2))]) (H' := [bxB 36 (claimC (⟨1, 2, 3, 0, dz⟩ : Claim)), rowB ((putC (⟨1, 2, 3, 0, dz⟩ : Claim)).1), hole]) rfl rfl rfl rfl rfl rfl rfl ⟨⟨⟨rfl, rfl, rfl, by first | omega | exact Nat.le_refl _, by first | omega | exact Nat.le_refl _⟩, trivial⟩, ⟨(emb_rdW rfl), trivial⟩, rfl, rfl, rfl⟩ (by kernel_rfl) (by kernel_rfl) ?_
  refine r_move (v := .tuple #[claimV ((gotC ((putC (⟨1, 2, 3, 0, dz⟩ : Claim)).1)).1), .int .i64 (((gotC ((putC (⟨1, 2, 3, 0, dz⟩ : Claim)).1)).2))]) rfl rfl rfl ?_
  refine r_extract (vs := #[claimV ((gotC ((putC (⟨1, 2, 3, 0, dz⟩ : Claim)).1)).1), .int .i64 (((gotC ((putC (⟨1, 2, 3, 0, dz⟩ : Claim)).1)).2))]) (v := claimV ((gotC ((putC (⟨1, 2, 3, 0, dz⟩ : Claim)).1)).1)) rfl rfl rfl rfl ?_
  refine r_extract (vs := #[claimV ((gotC ((putC (⟨1, 2, 3, 0, dz⟩ : Claim)).1)).1), .int .i64 (((gotC ((putC (⟨1, 2, 3, 0, dz⟩ : Claim)).1)).2))]) (v := .int .i64 (((gotC ((putC (⟨1, 2, 3, 0, dz⟩ : Claim)).1)).2))) rfl rfl rfl rfl ?_
  refine r_alloc (b := bxB 36 (claimC (⟨0, 0, 0, 0, dz⟩ : Claim))) (nid := 2) (H' := [bxB 36 (claimC (⟨1, 2, 3, 0, dz⟩ : Claim)), rowB ((putC (⟨1, 2, 3, 0, dz⟩ : Claim)).1), bxB 36 (claimC (⟨0, 0, 0, 0, dz⟩ : Claim))]) rfl rfl (by kernel_rfl) (by kernel_rfl) ?_
  refine r_store (p := pt 2 0) (v := claimV ((gotC ((putC (⟨1, 2, 3, 0, dz⟩ : Claim)).1)).1)) (b := 2) (blk := bxB 36 (claimC ((gotC ((putC (⟨1, 2, 3, 0, dz⟩ : Claim)).1)).1))) (H' := [bxB 36 (claimC (⟨1, 2, 3, 0, dz⟩ : Claim)), rowB ((putC (⟨1, 2, 3, 0, dz⟩ : Claim)).1), bxB 36 (claimC ((gotC ((putC (⟨1, 2, 3, 0, dz⟩ : Claim)).1)).1))]) rfl rfl rfl (by kernel_rfl) (by kernel_rfl) ?_
  refine r_assign (v := .int .i64 (((gotC ((putC (⟨1, 2, 3, 0, dz⟩ : Claim)).1)).2))) rfl rfl rfl ?_
  refine r_doneN (x_then (c_seq (c_reg ?_)))
  refine r_move (v := .int .i64 (((putC (⟨1, 2, 3, 0, dz⟩ : Claim)).2))) rfl rfl rfl ?_
  refine r_bin (v := .bool true) (vx := .int .i64 (((putC (⟨1, 2, 3, 0, dz⟩ : Claim)).2))) (vy := .int .i64 0) rfl rfl rfl rfl (eql_t (by omega)) ?_
  refine r_move (v := .bool true) rfl rfl rfl ?_
  refine r_move (v := .int .i64 (((gotC ((putC (⟨1, 2, 3, 0, dz⟩ : Claim)).1)).2))) rfl rfl rfl ?_
  refine r_bin (v := .bool true) (vx := .int .i64 (((gotC ((putC (⟨1, 2, 3, 0, dz⟩ : Claim)).1)).2))) (vy := .int .i64 0) rfl rfl rfl rfl (eql_t (by omega)) ?_
  refine r_pick (v := .bool true) rfl rfl rfl ?_
  refine r_move (v := .bool true) rfl rfl rfl ?_
  refine r_load (p := pt 2 0) (v := claimV ((gotC ((putC (⟨1, 2, 3, 0, dz⟩ : Claim)).1)).1)) rfl rfl rfl (by kernel_rfl) ?_
  refine r_load (p := pt 0 0) (v := claimV (⟨1, 2, 3, 0, dz⟩ : Claim)) rfl rfl rfl (by kernel_rfl) ?_
  refine r_bin (v := .bool true) (vx := claimV ((gotC ((putC (⟨1, 2, 3, 0, dz⟩ : Claim)).1)).1)) (vy := claimV (⟨1, 2, 3, 0, dz⟩ : Claim)) rfl rfl rfl rfl (Eq.trans (eql_Claim ((gotC ((putC (⟨1, 2, 3, 0, dz⟩ : Claim)).1)).1) (⟨1, 2, 3, 0, dz⟩ : Claim)) (by rw [hg7.2] <;> rfl)) ?_
  refine r_pick (v := .bool true) rfl rfl rfl ?_
  refine r_move (v := .bool true) rfl rfl rfl ?_
  refine r_load (p := pt 0 0) (v := claimV (⟨1, 2, 3, 0, dz⟩ : Claim)) rfl rfl rfl (by kernel_rfl) ?_
  refine r_callP ((CheckClaim_ok (G := G) (⟨1, 2, 3, 0, dz⟩ : Claim)).res (congrArg (Value.int .i64) (show chkC (⟨1, 2, 3, 0, dz⟩ : Claim) = 0 from by kernel_rfl))) (vals := [claimV (⟨1, 2, 3, 0, dz⟩ : Claim)]) (res' := .int .i64 0) rfl rfl rfl rfl rfl rfl ?_
  refine r_bin (v := .bool true) (vx := .int .i64 0) (vy := .int .i64 0) rfl rfl rfl rfl (eql_t (by omega)) ?_
  refine r_pick (v := .bool true) rfl rfl rfl ?_
  refine r_move (v := .bool true) rfl rfl rfl ?_
  refine r_build (vs := []) (v := claimV (⟨0, 0, 0, 0, dz⟩ : Claim)) rfl rfl rfl (by kernel_rfl) ?_
  refine r_callP ((CheckClaim_ok (G := G) (⟨0, 0, 0, 0, dz⟩ : Claim)).res (congrArg (Value.int .i64) (show chkC (⟨0, 0, 0, 0, dz⟩ : Claim) = 60 from by kernel_rfl))) (vals := [claimV (⟨0, 0, 0, 0, dz⟩ : Claim)]) (res' := .int .i64 60) rfl rfl rfl rfl rfl rfl ?_
  refine r_bin (v := .bool true) (vx := .int .i64 60) (vy := .int .i64 60) rfl rfl rfl rfl (eql_t (by omega)) ?_
  refine r_pick (v := .bool true) rfl rfl rfl ?_
  refine r_assign (v := .bool true) rfl rfl rfl ?_
  refine r_doneN (x_then (c_ret (x_end ?_)))
  exact end_pv (v := .bool true) rfl rfl rfl
theorem refClaimBytes_ok (c : Claim) (hr : rightC c) : CallL Try.prog G 13 [claimV c] [] (slv 0 0 (putC c).1.length (putC c).1.length) [rowB (putC c).1] := by
  unfold rightC at hr
  refine walk (fn := Try.f13) (nt := 20) rfl rfl rfl rfl ?_
  refine c_hole 3 (H' := [hole, hole, hole]) rfl ?_
  refine c_seq (c_reg ?_)
  refine r_box (v := claimV c) (b := bxB 36 (claimC c)) (nid := 0) (H' := [bxB 36 (claimC c), hole, hole]) rfl rfl rfl (by kernel_rfl) (by kernel_rfl) ?_
  refine r_assign (v := .slice none 0 0) rfl rfl rfl ?_
  refine r_doneN (x_then (c_seq ?_))
  refine c_drawK (by kernel_rfl) ?_
  refine r_fieldAddr (b := 0) (o := 0) (n := 0) (o' := 0) rfl rfl rfl rfl rfl ?_
  refine r_load (p := pt 0 0) (v := .int .i64 c.region) rfl rfl rfl (by kernel_rfl) ?_
  refine r_callP (refNum_ok (G := G) c.region (by omega) (by omega)) (vals := [.int .i64 c.region]) (res' := .string ((numS c.region).1)) rfl rfl rfl rfl rfl rfl ?_
  refine r_fieldAddr (b := 0) (o := 0) (n := 1) (o' := 1) rfl rfl rfl rfl rfl ?_
  refine r_load (p := pt 0 1) (v := .int .i64 c.epoch) rfl rfl rfl (by kernel_rfl) ?_
  refine r_callP (refNum_ok (G := G) c.epoch (by omega) (by omega)) (vals := [.int .i64 c.epoch]) (res' := .string ((numS c.epoch).1)) rfl rfl rfl rfl rfl rfl ?_
  refine r_fieldAddr (b := 0) (o := 0) (n := 2) (o' := 2) rfl rfl rfl rfl rfl ?_
  refine r_load (p := pt 0 2) (v := .int .i64 c.node) rfl rfl rfl (by kernel_rfl) ?_
  refine r_callP (refNum_ok (G := G) c.node (by omega) (by omega)) (vals := [.int .i64 c.node]) (res' := .string ((numS c.node).1)) rfl rfl rfl rfl rfl rfl ?_
  refine r_fieldAddr (b := 0) (o := 0) (n := 3) (o' := 3) rfl rfl rfl rfl rfl ?_
  refine r_load (p := pt 0 3) (v := .int .i64 c.size) rfl rfl rfl (by kernel_rfl) ?_
  refine r_callP (refNum_ok (G := G) c.size (by omega) (by omega)) (vals := [.int .i64 c.size]) (res' := .string ((numS c.size).1)) rfl rfl rfl rfl rfl rfl ?_
  refine r_fieldAddr (b := 0) (o := 0) (n := 4) (o' := 4) rfl rfl rfl rfl rfl ?_
  refine r_load (p := pt 0 4) (v := dgV c.root) rfl rfl rfl (by kernel_rfl) ?_
  refine r_callP (refText_ok (G := G) c.root) (vals := [dgV c.root]) (res' := .string (strOf (dgL c.root))) rfl rfl rfl rfl rfl rfl ?_
  refine r_lit (vs := [(0, .string ((numS c.region).1)), (1, .string ((numS c.epoch).1)), (2, .string ((numS c.node).1)), (3, .string ((numS c.size).1)), (4, .string (strOf (dgL c.root)))]) (v := slv 1 0 5 5) (blk := txB [(numS c.region).1, (numS c.epoch).1, (numS c.node).1, (numS c.size).1, (strOf (dgL c.root))]) (nid := 1) (H' := [bxB 36 (claimC c), txB [(numS c.region).1, (numS c.epoch).1, (numS c.node).1, (numS c.size).1, (strOf (dgL c.root))], hole]) rfl rfl rfl (by kernel_rfl) (by kernel_rfl) ?_
  refine r_callN (e := [some (1, 0)]) (nid := 2) (refRow_ok (G := G) [(numS c.region).1, (numS c.epoch).1, (numS c.node).1, (numS c.size).1, (strOf (dgL c.root))] 5 5 (by rfl) (by first | omega | exact Nat.le_refl _) (by omega) (claimL_sz c)) (vals := [slv 1 0 5 5]) (v := slv 2 0 ((bytesR [(numS c.region).1, (numS c.epoch).1, (numS c.node).1, (numS c.size).1, (strOf (dgL c.root))]).length) ((bytesR [(numS c.region).1, (numS c.epoch).1, (numS c.node).1, (numS c.size).1, (strOf (dgL c.root))]).length)) (H' := [bxB 36 (claimC c), txB [(numS c.region).1, (numS c.epoch).1, (numS c.node).1, (numS c.size).1, (strOf (dgL c.root))], rowB (bytesR [(numS c.region).1, (numS c.epoch).1, (numS c.node).1, (numS c.size).1, (strOf (dgL c.root))])]) rfl rfl rfl rfl rfl rfl rfl ⟨⟨⟨rfl, rfl, rfl, by first | omega | exact Nat.le_refl _, by first | omega | exact Nat.le_refl _⟩, trivial⟩, ⟨(emb_tx rfl), trivial⟩, rfl, rfl, rfl⟩ (by kernel_rfl) (by kernel_rfl) ?_
  refine r_assign (v := slv 2 0 ((bytesR [(numS c.region).1, (numS c.epoch).1, (numS c.node).1, (numS c.size).1, (strOf (dgL c.root))]).length) ((bytesR [(numS c.region).1, (numS c.epoch).1, (numS c.node).1, (numS c.size).1, (strOf (dgL c.root))]).length)) rfl rfl rfl ?_
  refine r_doneK (drawnTK_ok [[], [0], [0, 1], [], [3], [0, 1, 2, 3, 4], [], [6], [0, 1, 2, 3, 4, 5, 6, 7], [], [9], [0, 1, 2, 3, 4, 5, 6, 7, 8, 9, 10], [], [12], [0, 1, 2, 3, 4, 5, 6, 7, 8, 9, 10, 11, 12, 13], [0, 1, 2, 3, 4, 5, 6, 7, 8, 9, 10, 11, 12, 13, 14], [0, 1, 2, 3, 4, 5, 6, 7, 8, 9, 10, 11, 12, 13, 14, 15], [0, 1, 2, 3, 4, 5, 6, 7, 8, 9, 10, 11, 12, 13, 14, 15, 16]] (by kernel_rfl) (by kernel_rfl)) ?_
  refine x_then (c_ret (x_end ?_))
  rw [show (putC c).1 = bytesR (claimL c) from by rw [show putC c = _ from if_pos hr]; rfl]
  exact end_map [2] (v := slv 2 0 ((bytesR [(numS c.region).1, (numS c.epoch).1, (numS c.node).1, (numS c.size).1, (strOf (dgL c.root))]).length) ((bytesR [(numS c.region).1, (numS c.epoch).1, (numS c.node).1, (numS c.size).1, (strOf (dgL c.root))]).length)) rfl (by kernel_rfl) rfl rfl (by decide) (by simp [keptB, rowB]) ⟨rfl, rfl, rfl, by first | omega | exact Nat.le_refl _ | exact Nat.zero_le _ | (dsimp only; omega), by first | omega | exact Nat.le_refl _ | exact Nat.zero_le _ | (dsimp only; omega)⟩
theorem refPutClaim_ok (c : Claim) : CallL Try.prog G 5 [claimV c] [] (.tuple #[slv 0 0 (putC c).1.length (putC c).1.length, .int .i64 (putC c).2]) [rowB (putC c).1] := by
  refine walk (fn := Try.f5) (nt := 9) rfl rfl rfl rfl ?_
  refine c_hole 2 (H' := [hole, hole]) rfl ?_
  refine c_seq (c_reg ?_)
  refine r_box (v := claimV c) (b := bxB 36 (claimC c)) (nid := 0) (H' := [bxB 36 (claimC c), hole]) rfl rfl rfl (by kernel_rfl) (by kernel_rfl) ?_
  refine r_assign (v := .slice none 0 0) rfl rfl rfl ?_
  refine r_assign (v := .int .i64 0) rfl rfl rfl ?_
  refine r_doneN (x_then (c_seq (c_seq (c_reg ?_))))
  refine r_load (p := pt 0 0) (v := claimV c) rfl rfl rfl (by kernel_rfl) ?_
  refine r_callP (refRightC_ok (G := G) c) (vals := [claimV c]) (res' := .bool (decide (rightC c))) rfl rfl rfl rfl rfl rfl ?_
  rcases Bool.eq_false_or_eq_true (decide (rightC c)) with h1 | h1
  refine r_un (v := .bool false) (vx := .bool (decide (rightC c))) rfl rfl rfl (Eq.trans un_not (congrArg (fun b => some (Value.bool !b)) h1)) ?_
  refine r_doneN (x_then ?_)
  refine c_false rfl ?_
  refine c_skip (x_then (c_seq (c_reg ?_)))
  refine r_load (p := pt 0 0) (v := claimV c) rfl rfl rfl (by kernel_rfl) ?_
  refine r_callN (e := []) (nid := 1) (refClaimBytes_ok (G := G) c (of_decide_eq_true (by assumption))) (vals := [claimV c]) (v := slv 1 0 ((putC c).1.length) ((putC c).1.length)) (H' := [bxB 36 (claimC c), rowB ((putC c).1)]) rfl rfl rfl rfl rfl rfl rfl ⟨⟨rfl, trivial⟩, trivial, rfl, rfl, rfl⟩ (by kernel_rfl) (by kernel_rfl) ?_
  refine r_assign (v := slv 1 0 ((putC c).1.length) ((putC c).1.length)) rfl rfl rfl ?_
  refine r_assign (v := .int .i64 0) rfl rfl rfl ?_
  refine r_doneN (x_then (c_ret (x_end ?_)))
  rw [show putC c = ((putC c).1, 0) from by rw [← putC_0 (c := c) (of_decide_eq_true (by assumption))]]
  exact end_map [1] (v := .tuple #[slv 1 0 ((putC c).1.length) ((putC c).1.length), .int .i64 0]) rfl (by kernel_rfl) rfl rfl (by decide) (by simp [keptB, rowB]) ⟨⟨rfl, rfl, rfl, by first | omega | exact Nat.le_refl _ | exact Nat.zero_le _ | (dsimp only; omega), by first | omega | exact Nat.le_refl _ | exact Nat.zero_le _ | (dsimp only; omega)⟩, rfl, trivial⟩
  refine r_un (v := .bool true) (vx := .bool (decide (rightC c))) rfl rfl rfl (Eq.trans un_not (congrArg (fun b => some (Value.bool !b)) h1)) ?_
  refine r_doneN (x_then ?_)
  refine c_true rfl ?_
  refine c_seq (c_reg ?_)
  refine r_assign (v := .slice none 0 0) rfl rfl rfl ?_
  refine r_assign (v := .int .i64 60) rfl rfl rfl ?_
  refine r_doneN (x_then ?_)
  refine c_weak (Weak.nilTmp (i := 2) (b := 1) true 1 rfl (by decide) rfl) ?_
  refine c_ret (x_thenR (x_end ?_))
  rw [show putC c = ([], 60) from if_neg (of_decide_eq_false (by assumption))]
  exact end_map [1] (v := .tuple #[slv 1 0 0 0, .int .i64 60]) rfl (by kernel_rfl) rfl rfl (by decide) (by simp [keptB, rowB]) ⟨⟨rfl, rfl, rfl, by first | omega | exact Nat.le_refl _ | exact Nat.zero_le _ | (dsimp only; omega), by first | omega | exact Nat.le_refl _ | exact Nat.zero_le _ | (dsimp only; omega)⟩, rfl, trivial⟩
theorem EntryClaims_ok (c : Claim) : CallL Try.prog G 3 [claimV c] [] (.bool true) [] := by
  refine walk (fn := Try.f3) (nt := 53) rfl rfl rfl rfl ?_
  refine c_hole 4 (H' := [hole, hole, hole, hole]) rfl ?_
  refine c_seq (c_reg ?_)
  refine r_box (v := claimV c) (b := bxB 36 (claimC c)) (nid := 0) (H' := [bxB 36 (claimC c), hole, hole, hole]) rfl rfl rfl (by kernel_rfl) (by kernel_rfl) ?_
  refine r_assign (v := .bool false) rfl rfl rfl ?_
  refine r_doneN (x_then (c_seq (c_reg ?_)))
  refine r_load (p := pt 0 0) (v := claimV c) rfl rfl rfl (by kernel_rfl) ?_
  have hpl12 := putC_len c
  refine r_callN (e := []) (nid := 1) (PutClaim_ok (G := G) c) (vals := [claimV c]) (v := .tuple #[slv 1 0 ((putC c).1.length) ((putC c).1.length), .int .i64 (((putC c).2))]) (H' := [bxB 36 (claimC c), rowB ((putC c).1), hole, hole]) rfl rfl rfl rfl rfl rfl rfl ⟨⟨rfl, trivial⟩, trivial, rfl, rfl, rfl⟩ (by kernel_rfl) (by kernel_rfl) ?_
  refine r_move (v := .tuple #[slv 1 0 ((putC c).1.length) ((putC c).1.length), .int .i64 (((putC c).2))]) rfl rfl rfl ?_
  refine r_extract (vs := #[slv 1 0 ((putC c).1.length) ((putC c).1.length), .int .i64 (((putC c).2))]) (v := slv 1 0 ((putC c).1.length) ((putC c).1.length)) rfl rfl rfl rfl ?_
  refine r_extract (vs := #[slv 1 0 ((putC c).1.length) ((putC c).1.length), .int .i64 (((putC c).2))]) (v := .int .i64 (((putC c).2))) rfl rfl rfl rfl ?_
  refine r_assign (v := slv 1 0 ((putC c).1.length) ((putC c).1.length)) rfl rfl rfl ?_
  refine r_assign (v := .int .i64 (((putC c).2))) rfl rfl rfl ?_
  refine r_doneN (x_then (c_seq (c_reg ?_)))
  refine r_load (p := pt 0 0) (v := claimV c) rfl rfl rfl (by kernel_rfl) ?_
  have hpl13 := putC_len c
  refine r_callN (e := []) (nid := 2) (refPutClaim_ok (G := G) c) (vals := [claimV c]) (v := .tuple #[slv 2 0 ((putC c).1.length) ((putC c).1.length), .int .i64 (((putC c).2))]) (H' := [bxB 36 (claimC c), rowB ((putC c).1), rowB ((putC c).1), hole]) rfl rfl rfl rfl rfl rfl rfl ⟨⟨rfl, trivial⟩, trivial, rfl, rfl, rfl⟩ (by kernel_rfl) (by kernel_rfl) ?_
  refine r_move (v := .tuple #[slv 2 0 ((putC c).1.length) ((putC c).1.length), .int .i64 (((putC c).2))]) rfl rfl rfl ?_
  refine r_extract (vs := #[slv 2 0 ((putC c).1.length) ((putC c).1.length), .int .i64 (((putC c).2))]) (v := slv 2 0 ((putC c).1.length) ((putC c).1.length)) rfl rfl rfl rfl ?_
  refine r_extract (vs := #[slv 2 0 ((putC c).1.length) ((putC c).1.length), .int .i64 (((putC c).2))]) (v := .int .i64 (((putC c).2))) rfl rfl rfl rfl ?_
  refine r_assign (v := slv 2 0 ((putC c).1.length) ((putC c).1.length)) rfl rfl rfl ?_
  refine r_assign (v := .int .i64 (((putC c).2))) rfl rfl rfl ?_
  refine r_doneN (x_then (c_seq (c_seq (c_reg ?_))))
  refine r_move (v := .int .i64 (((putC c).2))) rfl rfl rfl ?_
  refine r_move (v := .int .i64 (((putC c).2))) rfl rfl rfl ?_
  refine r_bin (v := .bool false) (vx := .int .i64 (((putC c).2))) (vy := .int .i64 (((putC c).2))) rfl rfl rfl rfl (neq_f (by omega)) ?_
  refine r_move (v := .bool false) rfl rfl rfl ?_
  refine r_move (v := slv 1 0 ((putC c).1.length) ((putC c).1.length)) rfl rfl rfl ?_
  refine r_str (p := slv 1 0 ((putC c).1.length) ((putC c).1.length)) (v := .string (strOf ((putC c).1))) rfl rfl rfl (str_whole rfl rfl rfl rfl rfl (by omega)) ?_
  refine r_move (v := slv 2 0 ((putC c).1.length) ((putC c).1.length)) rfl rfl rfl ?_
  refine r_str (p := slv 2 0 ((putC c).1.length) ((putC c).1.length)) (v := .string (strOf ((putC c).1))) rfl rfl rfl (str_whole rfl rfl rfl rfl rfl (by omega)) ?_
  refine r_bin (v := .bool false) (vx := .string (strOf ((putC c).1))) (vy := .string (strOf ((putC c).1))) rfl rfl rfl rfl (Eq.trans (neq_str _ _) (by rw [(sameT_refl _)] <;> rfl)) ?_
  refine r_pick (v := .bool false) rfl rfl rfl ?_
  refine r_move (v := .bool false) rfl rfl rfl ?_
  refine r_load (p := pt 0 0) (v := claimV c) rfl rfl rfl (by kernel_rfl) ?_
  have hce14 := putC_chk c
  refine r_callP (CheckClaim_ok (G := G) c) (vals := [claimV c]) (res' := .int .i64 ((chkC c))) rfl rfl rfl rfl rfl rfl ?_
  refine r_move (v := .int .i64 (((putC c).2))) rfl rfl rfl ?_
  refine r_bin (v := .bool false) (vx := .int .i64 ((chkC c))) (vy := .int .i64 (((putC c).2))) rfl rfl rfl rfl (neq_f (by omega)) ?_
  refine r_pick (v := .bool false) rfl rfl rfl ?_
  refine r_doneN (x_then ?_)
  refine c_false rfl ?_
  refine c_skip (x_then (c_seq (c_seq (c_reg ?_))))
  refine r_move (v := .int .i64 (((putC c).2))) rfl rfl rfl ?_
  by_cases h1 : (((putC c).2)) ≠ 0
  refine r_bin (v := .bool true) (vx := .int .i64 (((putC c).2))) (vy := .int .i64 0) rfl rfl rfl rfl (neq_t (by omega)) ?_
  refine r_doneN (x_then ?_)
  refine c_true rfl ?_
  refine c_seq (c_reg ?_)
  refine r_callP (claims_ok (G := G)) (vals := []) (res' := .bool true) rfl rfl rfl rfl rfl rfl ?_
  refine r_assign (v := .bool true) rfl rfl rfl ?_
  refine r_doneN (x_then (c_ret (x_thenR (x_end ?_))))
  exact end_pv (v := .bool true) rfl rfl rfl
  refine r_bin (v := .bool false) (vx := .int .i64 (((putC c).2))) (vy := .int .i64 0) rfl rfl rfl rfl (neq_f (by omega)) ?_
  refine r_doneN (x_then ?_)
  refine c_false rfl ?_
  refine c_skip (x_then (c_seq (c_reg ?_)))
  refine r_move (v := slv 1 0 ((putC c).1.length) ((putC c).1.length)) rfl rfl rfl ?_
  have hg15 := gotC_put (c := c) (putC_1 (by omega))
  have hg015 := hg15.1
  have hgl15 := putC_len c
  refine r_callN (e := [some (1, 0)]) (nid := 0) (GetClaim_ok (G := G) ((putC c).1) ((putC c).1.length) (by omega) (by omega)) (vals := [slv 1 0 ((putC c).1.length) ((putC c).1.length)]) (v := .tuple #[claimV ((gotC ((putC c).1)).1), .int .i64 (((gotC ((putC c).1)).2))]) (H' := [bxB 36 (claimC c), rowB ((putC c).1), rowB ((putC c).1), hole]) rfl rfl rfl rfl rfl rfl rfl ⟨⟨⟨rfl, rfl, rfl, by first | omega | exact Nat.le_refl _, by first | omega | exact Nat.le_refl _⟩, trivial⟩, ⟨(emb_rdW rfl), trivial⟩, rfl, rfl, rfl⟩ (by kernel_rfl) (by kernel_rfl) ?_
  refine r_move (v := .tuple #[claimV ((gotC ((putC c).1)).1), .int .i64 (((gotC ((putC c).1)).2))]) rfl rfl rfl ?_
  refine r_extract (vs := #[claimV ((gotC ((putC c).1)).1), .int .i64 (((gotC ((putC c).1)).2))]) (v := claimV ((gotC ((putC c).1)).1)) rfl rfl rfl rfl ?_
  refine r_extract (vs := #[claimV ((gotC ((putC c).1)).1), .int .i64 (((gotC ((putC c).1)).2))]) (v := .int .i64 (((gotC ((putC c).1)).2))) rfl rfl rfl rfl ?_
  refine r_alloc (b := bxB 36 (claimC (⟨0, 0, 0, 0, dz⟩ : Claim))) (nid := 3) (H' := [bxB 36 (claimC c), rowB ((putC c).1), rowB ((putC c).1), bxB 36 (claimC (⟨0, 0, 0, 0, dz⟩ : Claim))]) rfl rfl (by kernel_rfl) (by kernel_rfl) ?_
  refine r_store (p := pt 3 0) (v := claimV ((gotC ((putC c).1)).1)) (b := 3) (blk := bxB 36 (claimC ((gotC ((putC c).1)).1))) (H' := [bxB 36 (claimC c), rowB ((putC c).1), rowB ((putC c).1), bxB 36 (claimC ((gotC ((putC c).1)).1))]) rfl rfl rfl (by kernel_rfl) (by kernel_rfl) ?_
  refine r_assign (v := .int .i64 (((gotC ((putC c).1)).2))) rfl rfl rfl ?_
  refine r_doneN (x_then (c_seq (c_reg ?_)))
  refine r_callP (claims_ok (G := G)) (vals := []) (res' := .bool true) rfl rfl rfl rfl rfl rfl ?_
  refine r_move (v := .bool true) rfl rfl rfl ?_
  refine r_move (v := .int .i64 (((gotC ((putC c).1)).2))) rfl rfl rfl ?_
  refine r_bin (v := .bool true) (vx := .int .i64 (((gotC ((putC c).1)).2))) (vy := .int .i64 0) rfl rfl rfl rfl (eql_t (by omega)) ?_
  refine r_pick (v := .bool true) rfl rfl rfl ?_
  refine r_move (v := .bool true) rfl rfl rfl ?_
  refine r_load (p := pt 3 0) (v := claimV ((gotC ((putC c).1)).1)) rfl rfl rfl (by kernel_rfl) ?_
  refine r_load (p := pt 0 0) (v := claimV c) rfl rfl rfl (by kernel_rfl) ?_
  refine r_bin (v := .bool true) (vx := claimV ((gotC ((putC c).1)).1)) (vy := claimV c) rfl rfl rfl rfl (Eq.trans (eql_Claim ((gotC ((putC c).1)).1) c) (by rw [hg15.2] <;> rfl)) ?_
  refine r_pick (v := .bool true) rfl rfl rfl ?_
  refine r_assign (v := .bool true) rfl rfl rfl ?_
  refine r_doneN (x_then (c_ret (x_end ?_)))
  exact end_pv (v := .bool true) rfl rfl rfl
end Go.Flat
