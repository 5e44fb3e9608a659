/- Walks and plain laws: what each theorem says, within the bounds that it names. -/
import Derived.Test.YtoheeojjdpdljaaDoorC1
import Derived.Test.YtoheeojjdpdljaaDoorH23
import Derived.Test.YtoheeojjdpdljaaDoorH8
set_option linter.unusedVariables false
set_option linter.unusedSimpArgs false
set_option maxRecDepth 20000
namespace Go.Flat
open Go.Proofs
variable {G : Glob}
def claimL (c : Claim) : List ByteArray := [(numS c.region).1, (numS c.epoch).1, (numS c.node).1, (numS c.size).1, strOf (dgL c.root)]
theorem claimL_sz (c : Claim) : ∀ x, x ∈ claimL c → x.size ≤ 65536 := by
  intro x hx
  have h1 := numS_size c.region
  have h2 := numS_size c.epoch
  have h3 := numS_size c.node
  have h4 := numS_size c.size
  simp only [claimL, List.mem_cons, List.not_mem_nil, or_false] at hx
  rcases hx with rfl | rfl | rfl | rfl | rfl
  all_goals first | omega | (rw [strOf_size, dgL_len]; omega)
theorem putC_0 {c : Claim} (h : rightC c) : (putC c).2 = 0 := by rw [show putC c = _ from if_pos h]
theorem putC_1 {c : Claim} (h : (putC c).2 = 0) : rightC c := by
  refine Decidable.byContradiction fun q => ?_
  rw [show putC c = ([], 60) from if_neg q] at h; exact absurd h (by decide)
theorem dgL_cp (d : D) : dgL (cpM dz (strOf (dgL d))) = dgL d := by
  have h : sameB 32 (cpM dz (strOf (dgL d))) d = true := cpD_dgL d
  simp only [sameB, List.all_eq_true, List.mem_range, beq_iff_eq] at h
  unfold dgL
  exact List.map_congr_left fun i hi => h i (List.mem_range.1 hi)
theorem gotC_put {c : Claim} (hr : rightC c) : (gotC (putC c).1).2 = 0 ∧ eqClaim (gotC (putC c).1).1 c = true := by
  have hr' := hr
  unfold rightC at hr'
  have hb : (putC c).1 = bytesR (claimL c) := by rw [show putC c = _ from if_pos hr]; rfl
  have hrd : readF (putC c).1 = (claimF c, 0) := by rw [hb]; exact readF_bytes (claimL c) (by simp [claimL]) (claimL_sz c)
  have v1 := valS_numS (n := c.region) (by omega) (by omega)
  have v2 := valS_numS (n := c.epoch) (by omega) (by omega)
  have v3 := valS_numS (n := c.node) (by omega) (by omega)
  have v4 := valS_numS (n := c.size) (by omega) (by omega)
  have hx : takeCL (claimF c) ⟨0, 0, 0, 0, dz⟩ = ⟨c.region, c.epoch, c.node, c.size, cpM dz (strOf (dgL c.root))⟩ := by
    simp [claimF, takeCL, takeC, v1, v2, v3, v4]
  have hq : rightC ⟨c.region, c.epoch, c.node, c.size, cpM dz (strOf (dgL c.root))⟩ := hr
  have hpb : (putC ⟨c.region, c.epoch, c.node, c.size, cpM dz (strOf (dgL c.root))⟩).1 = (putC c).1 := by
    rw [hb, show putC ⟨c.region, c.epoch, c.node, c.size, cpM dz (strOf (dgL c.root))⟩ = _ from if_pos hq]
    show bytesR (claimL ⟨c.region, c.epoch, c.node, c.size, cpM dz (strOf (dgL c.root))⟩) = bytesR (claimL c)
    unfold claimL
    rw [dgL_cp]
  have e : gotC (putC c).1 = (⟨c.region, c.epoch, c.node, c.size, cpM dz (strOf (dgL c.root))⟩, 0) := by
    unfold gotC
    rw [hrd, hx]
    exact if_pos ⟨rfl, putC_0 hq, by rw [hpb]; exact (sameT_iff _ _).2 rfl⟩
  rw [e]
  refine ⟨rfl, ?_⟩
  have h : sameB 32 (cpM dz (strOf (dgL c.root))) c.root = true := cpD_dgL c.root
  simp [eqClaim, h]
theorem c0_right : rightC ⟨1, 2, 3, 0, dz⟩ := by
  show (1 ≤ (1 : Int) ∧ (1 : Int) ≤ 5) ∧ (1 ≤ (2 : Int) ∧ (2 : Int) ≤ 900000000) ∧ (1 ≤ (3 : Int) ∧ (3 : Int) ≤ 3) ∧ (0 ≤ (0 : Int) ∧ (0 : Int) ≤ 100000)
  omega
theorem claims_ok  : CallL Tryd.prog G 26 [] [] (.bool true) [] := by
  refine walk (fn := Tryd.f26) (nt := 38) rfl rfl rfl rfl ?_
  refine c_hole 3 (H' := [hole, hole, hole]) rfl ?_
  refine c_seq (c_reg ?_)
  refine r_assign (v := .bool false) rfl rfl rfl ?_
  refine r_doneN (x_then (c_seq (c_reg ?_)))
  refine r_build (vs := [(0, .int .i64 1), (1, .int .i64 2), (2, .int .i64 3)]) (v := claimV (⟨1, 2, 3, 0, dz⟩ : Claim)) rfl rfl rfl (by kernel_rfl) ?_
  refine r_alloc (b := bxB 36 (claimC (⟨0, 0, 0, 0, dz⟩ : Claim))) (nid := 0) (H' := [bxB 36 (claimC (⟨0, 0, 0, 0, dz⟩ : Claim)), hole, hole]) rfl rfl (by kernel_rfl) (by kernel_rfl) ?_
  refine r_store (p := pt 0 0) (v := claimV (⟨1, 2, 3, 0, dz⟩ : Claim)) (b := 0) (blk := bxB 36 (claimC (⟨1, 2, 3, 0, dz⟩ : Claim))) (H' := [bxB 36 (claimC (⟨1, 2, 3, 0, dz⟩ : Claim)), hole, hole]) rfl rfl rfl (by kernel_rfl) (by kernel_rfl) ?_
  refine r_doneN (x_then (c_seq (c_reg ?_)))
  refine r_load (p := pt 0 0) (v := claimV (⟨1, 2, 3, 0, dz⟩ : Claim)) rfl rfl rfl (by kernel_rfl) ?_
  have hpl6 := putC_len (⟨1, 2, 3, 0, dz⟩ : Claim)
  have hpz6 := putC_0 (c := (⟨1, 2, 3, 0, dz⟩ : Claim)) c0_right
  refine r_callN (e := []) (nid := 1) (PutClaim_ok (G := G) (⟨1, 2, 3, 0, dz⟩ : Claim)) (vals := [claimV (⟨1, 2, 3, 0, dz⟩ : Claim)]) (v := .tuple #[slv 1 0 ((putC (⟨1, 2, 3, 0, dz⟩ : Claim)).1.length) ((putC (⟨1, 2, 3, 0, dz⟩ : Claim)).1.length), .int .i64 (((putC (⟨1, 2, 3, 0, dz⟩ : Claim)).2))]) (H' := [bxB 36 (claimC (⟨1, 2, 3, 0, dz⟩ : Claim)), rowB ((putC (⟨1, 2, 3, 0, dz⟩ : Claim)).1), hole]) rfl rfl rfl rfl rfl rfl rfl ⟨⟨rfl, trivial⟩, trivial, rfl, rfl, rfl⟩ (by kernel_rfl) (by kernel_rfl) ?_
  refine r_move (v := .tuple #[slv 1 0 ((putC (⟨1, 2, 3, 0, dz⟩ : Claim)).1.length) ((putC (⟨1, 2, 3, 0, dz⟩ : Claim)).1.length), .int .i64 (((putC (⟨1, 2, 3, 0, dz⟩ : Claim)).2))]) rfl rfl rfl ?_
  refine r_extract (vs := #[slv 1 0 ((putC (⟨1, 2, 3, 0, dz⟩ : Claim)).1.length) ((putC (⟨1, 2, 3, 0, dz⟩ : Claim)).1.length), .int .i64 (((putC (⟨1, 2, 3, 0, dz⟩ : Claim)).2))]) (v := slv 1 0 ((putC (⟨1, 2, 3, 0, dz⟩ : Claim)).1.length) ((putC (⟨1, 2, 3, 0, dz⟩ : Claim)).1.length)) rfl rfl rfl rfl ?_
  refine r_extract (vs := #[slv 1 0 ((putC (⟨1, 2, 3, 0, dz⟩ : Claim)).1.length) ((putC (⟨1, 2, 3, 0, dz⟩ : Claim)).1.length), .int .i64 (((putC (⟨1, 2, 3, 0, dz⟩ : Claim)).2))]) (v := .int .i64 (((putC (⟨1, 2, 3, 0, dz⟩ : Claim)).2))) rfl rfl rfl rfl ?_
  refine r_assign (v := slv 1 0 ((putC (⟨1, 2, 3, 0, dz⟩ : Claim)).1.length) ((putC (⟨1, 2, 3, 0, dz⟩ : Claim)).1.length)) rfl rfl rfl ?_
  refine r_assign (v := .int .i64 (((putC (⟨1, 2, 3, 0, dz⟩ : Claim)).2))) rfl rfl rfl ?_
  refine r_doneN (x_then (c_seq (c_reg ?_)))
  refine r_move (v := slv 1 0 ((putC (⟨1, 2, 3, 0, dz⟩ : Claim)).1.length) ((putC (⟨1, 2, 3, 0, dz⟩ : Claim)).1.length)) rfl rfl rfl ?_
  have hg7 := gotC_put (c := (⟨1, 2, 3, 0, dz⟩ : Claim)) c0_right
  have hg07 := hg7.1
  have hgl7 := putC_len (⟨1, 2, 3, 0, dz⟩ : Claim)
  refine r_callN (e := [some (1, 0)]) (nid := 0) (GetClaim_ok (G := G) ((putC (⟨1, 2, 3, 0, dz⟩ : Claim)).1) ((putC (⟨1, 2, 3, 0, dz⟩ : Claim)).1.length) (by omega) (by omega)) (vals := [slv 1 0 ((putC (⟨1, 2, 3, 0, dz⟩ : Claim)).1.length) ((putC (⟨1, 2, 3, 0, dz⟩ : Claim)).1.length)]) (v := .tuple #[claimV ((gotC ((putC (⟨1, 2, 3, 0, dz⟩ : Claim)).1)).1), .int .i64 (((gotC ((putC (⟨1, 2, 3, 0, dz⟩ : Claim)).1)).2))]) (H' := [bxB 36 (claimC (⟨1, 2, 3, 0, dz⟩ : Claim)), rowB ((putC (⟨1, 2, 3, 0, dz⟩ : Claim)).1), hole]) rfl rfl rfl rfl rfl rfl rfl ⟨⟨⟨rfl, rfl, rfl, by first | omega | exact Nat.le_refl _, by first | omega | exact Nat.le_refl _⟩, trivial⟩, ⟨(emb_rdW rfl), trivial⟩, rfl, rfl, rfl⟩ (by kernel_rfl) (by kernel_rfl) ?_
  refine r_move (v := .tuple #[claimV ((gotC ((putC (⟨1, 2, 3, 0, dz⟩ : Claim)).1)).1), .int .i64 (((gotC ((putC (⟨1, 2, 3, 0, dz⟩ : Claim)).1)).2))]) rfl rfl rfl ?_
  refine r_extract (vs := #[claimV ((gotC ((putC (⟨1, 2, 3, 0, dz⟩ : Claim)).1)).1), .int .i64 (((gotC ((putC (⟨1, 2, 3, 0, dz⟩ : Claim)).1)).2))]) (v := claimV ((gotC ((putC (⟨1, 2, 3, 0, dz⟩ : Claim)).1)).1)) rfl rfl rfl rfl ?_
  refine r_extract (vs := #[claimV ((gotC ((putC (⟨1, 2, 3, 0, dz⟩ : Claim)).1)).1), .int .i64 (((gotC ((putC (⟨1, 2, 3, 0, dz⟩ : Claim)).1)).2))]) (v := .int .i64 (((gotC ((putC (⟨1, 2, 3, 0, dz⟩ : Claim)).1)).2))) rfl rfl rfl rfl ?_
  refine r_alloc (b := bxB 36 (claimC (⟨0, 0, 0, 0, dz⟩ : Claim))) (nid := 2) (H' := [bxB 36 (claimC (⟨1, 2, 3, 0, dz⟩ : Claim)), rowB ((putC (⟨1, 2, 3, 0, dz⟩ : Claim)).1), bxB 36 (claimC (⟨0, 0, 0, 0, dz⟩ : Claim))]) rfl rfl (by kernel_rfl) (by kernel_rfl) ?_
  refine r_store (p := pt 2 0) (v := claimV ((gotC ((putC (⟨1, 2, 3, 0, dz⟩ : Claim)).1)).1)) (b := 2) (blk := bxB 36 (claimC ((gotC ((putC (⟨1, 2, 3, 0, dz⟩ : Claim)).1)).1))) (H' := [bxB 36 (claimC (⟨1, 2, 3, 0, dz⟩ : Claim)), rowB ((putC (⟨1, 2, 3, 0, dz⟩ : Claim)).1), bxB 36 (claimC ((gotC ((putC (⟨1, 2, 3, 0, dz⟩ : Claim)).1)).1))]) rfl rfl rfl (by kernel_rfl) (by kernel_rfl) ?_
  refine r_assign (v := .int .i64 (((gotC ((putC (⟨1, 2, 3, 0, dz⟩ : Claim)).1)).2))) rfl rfl rfl ?_
  refine r_doneN (x_then (c_seq (c_reg ?_)))
  refine r_move (v := .int .i64 (((putC (⟨1, 2, 3, 0, dz⟩ : Claim)).2))) rfl rfl rfl ?_
  refine r_bin (v := .bool true) (vx := .int .i64 (((putC (⟨1, 2, 3, 0, dz⟩ : Claim)).2))) (vy := .int .i64 0) rfl rfl rfl rfl (eql_t (by omega)) ?_
  refine r_move (v := .bool true) rfl rfl rfl ?_
  refine r_move (v := .int .i64 (((gotC ((putC (⟨1, 2, 3, 0, dz⟩ : Claim)).1)).2))) rfl rfl rfl ?_
  refine r_bin (v := .bool true) (vx := .int .i64 (((gotC ((putC (⟨1, 2, 3, 0, dz⟩ : Claim)).1)).2))) (vy := .int .i64 0) rfl rfl rfl rfl (eql_t (by omega)) ?_
  refine r_pick (v := .bool true) rfl rfl rfl ?_
  refine r_move (v := .bool true) rfl rfl rfl ?_
  refine r_load (p := pt 2 0) (v := claimV ((gotC ((putC (⟨1, 2, 3, 0, dz⟩ : Claim)).1)).1)) rfl rfl rfl (by kernel_rfl) ?_
  refine r_load (p := pt 0 0) (v := claimV (⟨1, 2, 3, 0, dz⟩ : Claim)) rfl rfl rfl (by kernel_rfl) ?_
  refine r_bin (v := .bool true) (vx := claimV ((gotC ((putC (⟨1, 2, 3, 0, dz⟩ : Claim)).1)).1)) (vy := claimV (⟨1, 2, 3, 0, dz⟩ : Claim)) rfl rfl rfl rfl (Eq.trans (eql_Claim ((gotC ((putC (⟨1, 2, 3, 0, dz⟩ : Claim)).1)).1) (⟨1, 2, 3, 0, dz⟩ : Claim)) (by rw [hg7.2] <;> rfl)) ?_
  refine r_pick (v := .bool true) rfl rfl rfl ?_
  refine r_move (v := .bool true) rfl rfl rfl ?_
  refine r_load (p := pt 0 0) (v := claimV (⟨1, 2, 3, 0, dz⟩ : Claim)) rfl rfl rfl (by kernel_rfl) ?_
  refine r_callP ((CheckClaim_ok (G := G) (⟨1, 2, 3, 0, dz⟩ : Claim)).res (congrArg (Value.int .i64) (show chkC (⟨1, 2, 3, 0, dz⟩ : Claim) = 0 from by kernel_rfl))) (vals := [claimV (⟨1, 2, 3, 0, dz⟩ : Claim)]) (res' := .int .i64 0) rfl rfl rfl rfl rfl rfl ?_
  refine r_bin (v := .bool true) (vx := .int .i64 0) (vy := .int .i64 0) rfl rfl rfl rfl (eql_t (by omega)) ?_
  refine r_pick (v := .bool true) rfl rfl rfl ?_
  refine r_move (v := .bool true) rfl rfl rfl ?_
  refine r_build (vs := []) (v := claimV (⟨0, 0, 0, 0, dz⟩ : Claim)) rfl rfl rfl (by kernel_rfl) ?_
  refine r_callP ((CheckClaim_ok (G := G) (⟨0, 0, 0, 0, dz⟩ : Claim)).res (congrArg (Value.int .i64) (show chkC (⟨0, 0, 0, 0, dz⟩ : Claim) = 60 from by kernel_rfl))) (vals := [claimV (⟨0, 0, 0, 0, dz⟩ : Claim)]) (res' := .int .i64 60) rfl rfl rfl rfl rfl rfl ?_
  refine r_bin (v := .bool true) (vx := .int .i64 60) (vy := .int .i64 60) rfl rfl rfl rfl (eql_t (by omega)) ?_
  refine r_pick (v := .bool true) rfl rfl rfl ?_
  refine r_assign (v := .bool true) rfl rfl rfl ?_
  refine r_doneN (x_then (c_ret (x_end ?_)))
  exact end_pv (v := .bool true) rfl rfl rfl
end Go.Flat
