/- Walks and plain laws: what each theorem says, within the bounds that it names. -/
import Derived.Test.YtgmnjggeffdjhaaDoorG1
set_option linter.unusedVariables false
set_option linter.unusedSimpArgs false
set_option maxRecDepth 20000
namespace Go.Flat
open Go.Proofs
variable {G : Glob}
set_option maxHeartbeats 8000000 in
theorem AnchorsGrows_ok (kk : Nat → BitVec 32) (hG : G 1 = some (rowE w32 64 kk)) (hG1 : G 3 = some (rowE u8N 64 dbF)) (l : List Item) (c : Nat) (hl : l.length ≤ c) (hcc : c ≤ 9223372036854775807) (other : List Item) (c2 : Nat) (hl2 : other.length ≤ c2) (hcc2 : c2 ≤ 9223372036854775807) (sizes : List Int) (c3 : Nat) (hl3 : sizes.length ≤ c3) (hcc3 : c3 ≤ 9223372036854775807) (region node : Int) : CallL Tryd.prog G 8 [slv 0 0 l.length c, slv 1 0 other.length c2, slv 2 0 sizes.length c3, .int .i64 region, .int .i64 node] [rwR cItem l, rwR cItem other, rwR cInt sizes] (.bool true) [rwR cItem l, rwR cItem other, rwR cInt sizes] := by
  refine walk (fn := Tryd.f8) (nt := 155) rfl rfl rfl rfl ?_
  refine c_hole 2 (H' := [rwR cItem l, rwR cItem other, rwR cInt sizes, hole, hole]) rfl ?_
  refine c_seq (c_reg ?_)
  refine r_assign (v := .bool false) rfl rfl rfl ?_
  refine r_doneN (x_then (c_seq (c_seq (c_reg ?_))))
  refine r_move (v := slv 0 0 l.length c) rfl rfl rfl ?_
  refine r_callN (e := [some (0, 0)]) (nid := 0) (refBig_ok (G := G) l l.length c rfl (by omega) (by omega)) (vals := [slv 0 0 l.length c]) (v := .bool (bigB l)) (H' := [rwR cItem l, rwR cItem other, rwR cInt sizes, hole, hole]) rfl rfl rfl rfl rfl rfl rfl ⟨⟨⟨rfl, rfl, rfl, by first | omega | exact Nat.le_refl _, by first | omega | exact Nat.le_refl _⟩, trivial⟩, ⟨(emb_rwR rfl), trivial⟩, rfl, rfl, rfl⟩ rfl (by kernel_rfl) ?_
  refine r_move (v := .bool (bigB l)) rfl rfl rfl ?_
  rcases Bool.eq_false_or_eq_true (bigB l) with h1 | h1
  refine r_skip (by exact congrArg (fun b => some (b == false)) h1) rfl ?_
  refine r_skip (by exact congrArg (fun b => some (b == false)) h1) rfl ?_
  refine r_pick (v := .bool true) rfl rfl (by show some (if _ then _ else _) = _; rw [h1] <;> rfl) ?_
  refine r_move (v := .bool true) rfl rfl rfl ?_
  refine r_skip rfl rfl (r_skip rfl rfl (r_skip rfl rfl ?_))
  refine r_pick (v := .bool true) rfl rfl rfl ?_
  refine r_move (v := .bool true) rfl rfl rfl ?_
  refine r_skip rfl rfl (r_skip rfl rfl (r_skip rfl rfl ?_))
  refine r_pick (v := .bool true) rfl rfl rfl ?_
  refine r_move (v := .bool true) rfl rfl rfl ?_
  refine r_skip rfl rfl (r_skip rfl rfl (r_skip rfl rfl ?_))
  refine r_pick (v := .bool true) rfl rfl rfl ?_
  refine r_move (v := .bool true) rfl rfl rfl ?_
  refine r_skip rfl rfl (r_skip rfl rfl ?_)
  refine r_pick (v := .bool true) rfl rfl rfl ?_
  refine r_move (v := .bool true) rfl rfl rfl ?_
  refine r_skip rfl rfl (r_skip rfl rfl ?_)
  refine r_pick (v := .bool true) rfl rfl rfl ?_
  refine r_move (v := .bool true) rfl rfl rfl ?_
  refine r_skip rfl rfl (r_skip rfl rfl ?_)
  refine r_pick (v := .bool true) rfl rfl rfl ?_
  refine r_move (v := .bool true) rfl rfl rfl ?_
  refine r_skip rfl rfl (r_skip rfl rfl ?_)
  refine r_pick (v := .bool true) rfl rfl rfl ?_
  refine r_doneN (x_then (c_true rfl (c_seq (c_reg ?_))))
  refine r_callP (admits_ok (G := G) kk hG) (vals := []) (res' := .bool true) rfl rfl rfl rfl rfl rfl ?_
  refine r_assign (v := .bool true) rfl rfl rfl ?_
  refine r_doneN (x_then (c_ret (x_thenR (x_end ?_))))
  exact end_map [0, 1, 2] (v := .bool true) rfl (by kernel_rfl) rfl rfl (by decide) (by simp [keptB, rwR, cItem, cInt]) rfl
  refine r_move (v := slv 1 0 other.length c2) (by exact congrArg (fun b => some (b == false)) h1) rfl rfl ?_
  refine r_callN (e := [some (1, 0)]) (nid := 0) (refBig_ok (G := G) other other.length c2 rfl (by omega) (by omega)) (vals := [slv 1 0 other.length c2]) (v := .bool (bigB other)) (H' := [rwR cItem l, rwR cItem other, rwR cInt sizes, hole, hole]) (by exact congrArg (fun b => some (b == false)) h1) rfl rfl rfl rfl rfl rfl ⟨⟨⟨rfl, rfl, rfl, by first | omega | exact Nat.le_refl _, by first | omega | exact Nat.le_refl _⟩, trivial⟩, ⟨(emb_rwR rfl), trivial⟩, rfl, rfl, rfl⟩ rfl (by kernel_rfl) ?_
  refine r_pick (v := .bool (bigB other)) rfl rfl (by show some (if _ then _ else _) = _; rw [h1] <;> rfl) ?_
  refine r_move (v := .bool (bigB other)) rfl rfl rfl ?_
  rcases Bool.eq_false_or_eq_true (bigB other) with h2 | h2
  refine r_skip (by exact congrArg (fun b => some (b == false)) h2) rfl ?_
  refine r_skip (by exact congrArg (fun b => some (b == false)) h2) rfl ?_
  refine r_skip (by exact congrArg (fun b => some (b == false)) h2) rfl ?_
  refine r_pick (v := .bool true) rfl rfl (by show some (if _ then _ else _) = _; rw [h2] <;> rfl) ?_
  refine r_move (v := .bool true) rfl rfl rfl ?_
  refine r_skip rfl rfl (r_skip rfl rfl (r_skip rfl rfl ?_))
  refine r_pick (v := .bool true) rfl rfl rfl ?_
  refine r_move (v := .bool true) rfl rfl rfl ?_
  refine r_skip rfl rfl (r_skip rfl rfl (r_skip rfl rfl ?_))
  refine r_pick (v := .bool true) rfl rfl rfl ?_
  refine r_move (v := .bool true) rfl rfl rfl ?_
  refine r_skip rfl rfl (r_skip rfl rfl ?_)
  refine r_pick (v := .bool true) rfl rfl rfl ?_
  refine r_move (v := .bool true) rfl rfl rfl ?_
  refine r_skip rfl rfl (r_skip rfl rfl ?_)
  refine r_pick (v := .bool true) rfl rfl rfl ?_
  refine r_move (v := .bool true) rfl rfl rfl ?_
  refine r_skip rfl rfl (r_skip rfl rfl ?_)
  refine r_pick (v := .bool true) rfl rfl rfl ?_
  refine r_move (v := .bool true) rfl rfl rfl ?_
  refine r_skip rfl rfl (r_skip rfl rfl ?_)
  refine r_pick (v := .bool true) rfl rfl rfl ?_
  refine r_doneN (x_then (c_true rfl (c_seq (c_reg ?_))))
  refine r_callP (admits_ok (G := G) kk hG) (vals := []) (res' := .bool true) rfl rfl rfl rfl rfl rfl ?_
  refine r_assign (v := .bool true) rfl rfl rfl ?_
  refine r_doneN (x_then (c_ret (x_thenR (x_end ?_))))
  exact end_map [0, 1, 2] (v := .bool true) rfl (by kernel_rfl) rfl rfl (by decide) (by simp [keptB, rwR, cItem, cInt]) rfl
  refine r_move (v := slv 2 0 sizes.length c3) (by exact congrArg (fun b => some (b == false)) h2) rfl rfl ?_
  refine r_len (p := slv 2 0 sizes.length c3) (v := .int .i64 (sizes.length : Nat)) (by exact congrArg (fun b => some (b == false)) h2) rfl rfl rfl ?_
  by_cases h3 : 10 < (sizes.length : Nat)
  refine r_bin (v := .bool true) (vx := .int .i64 (sizes.length : Nat)) (vy := .int .i64 10) (by exact congrArg (fun b => some (b == false)) h2) rfl rfl rfl (gtr_t (by omega)) ?_
  refine r_pick (v := .bool true) rfl rfl (by show some (if _ then _ else _) = _; rw [h2] <;> rfl) ?_
  refine r_move (v := .bool true) rfl rfl rfl ?_
  refine r_skip rfl rfl (r_skip rfl rfl (r_skip rfl rfl ?_))
  refine r_pick (v := .bool true) rfl rfl rfl ?_
  refine r_move (v := .bool true) rfl rfl rfl ?_
  refine r_skip rfl rfl (r_skip rfl rfl (r_skip rfl rfl ?_))
  refine r_pick (v := .bool true) rfl rfl rfl ?_
  refine r_move (v := .bool true) rfl rfl rfl ?_
  refine r_skip rfl rfl (r_skip rfl rfl ?_)
  refine r_pick (v := .bool true) rfl rfl rfl ?_
  refine r_move (v := .bool true) rfl rfl rfl ?_
  refine r_skip rfl rfl (r_skip rfl rfl ?_)
  refine r_pick (v := .bool true) rfl rfl rfl ?_
  refine r_move (v := .bool true) rfl rfl rfl ?_
  refine r_skip rfl rfl (r_skip rfl rfl ?_)
  refine r_pick (v := .bool true) rfl rfl rfl ?_
  refine r_move (v := .bool true) rfl rfl rfl ?_
  refine r_skip rfl rfl (r_skip rfl rfl ?_)
  refine r_pick (v := .bool true) rfl rfl rfl ?_
  refine r_doneN (x_then (c_true rfl (c_seq (c_reg ?_))))
  refine r_callP (admits_ok (G := G) kk hG) (vals := []) (res' := .bool true) rfl rfl rfl rfl rfl rfl ?_
  refine r_assign (v := .bool true) rfl rfl rfl ?_
  refine r_doneN (x_then (c_ret (x_thenR (x_end ?_))))
  exact end_map [0, 1, 2] (v := .bool true) rfl (by kernel_rfl) rfl rfl (by decide) (by simp [keptB, rwR, cItem, cInt]) rfl
  refine r_bin (v := .bool false) (vx := .int .i64 (sizes.length : Nat)) (vy := .int .i64 10) (by exact congrArg (fun b => some (b == false)) h2) rfl rfl rfl (gtr_f (by omega)) ?_
  refine r_pick (v := .bool false) rfl rfl (by show some (if _ then _ else _) = _; rw [h2] <;> rfl) ?_
  refine r_move (v := .bool false) rfl rfl rfl ?_
  refine r_move (v := slv 0 0 l.length c) rfl rfl rfl ?_
  have hbg_l : l.length ≤ 60 := bigB_len (by assumption)
  refine r_callN (e := [some (0, 0)]) (nid := 0) (LCheck_ok (G := G) l l.length c rfl (by omega) (by omega)) (vals := [slv 0 0 l.length c]) (v := .int .i64 ((chkL l))) (H' := [rwR cItem l, rwR cItem other, rwR cInt sizes, hole, hole]) rfl rfl rfl rfl rfl rfl rfl ⟨⟨⟨rfl, rfl, rfl, by first | omega | exact Nat.le_refl _, by first | omega | exact Nat.le_refl _⟩, trivial⟩, ⟨(emb_rwR rfl), trivial⟩, rfl, rfl, rfl⟩ rfl (by kernel_rfl) ?_
  by_cases h4 : ((chkL l)) ≠ 0
  refine r_bin (v := .bool true) (vx := .int .i64 ((chkL l))) (vy := .int .i64 0) rfl rfl rfl rfl (neq_t (by omega)) ?_
  refine r_pick (v := .bool true) rfl rfl rfl ?_
  refine r_move (v := .bool true) rfl rfl rfl ?_
  refine r_skip rfl rfl (r_skip rfl rfl (r_skip rfl rfl ?_))
  refine r_pick (v := .bool true) rfl rfl rfl ?_
  refine r_move (v := .bool true) rfl rfl rfl ?_
  refine r_skip rfl rfl (r_skip rfl rfl ?_)
  refine r_pick (v := .bool true) rfl rfl rfl ?_
  refine r_move (v := .bool true) rfl rfl rfl ?_
  refine r_skip rfl rfl (r_skip rfl rfl ?_)
  refine r_pick (v := .bool true) rfl rfl rfl ?_
  refine r_move (v := .bool true) rfl rfl rfl ?_
  refine r_skip rfl rfl (r_skip rfl rfl ?_)
  refine r_pick (v := .bool true) rfl rfl rfl ?_
  refine r_move (v := .bool true) rfl rfl rfl ?_
  refine r_skip rfl rfl (r_skip rfl rfl ?_)
  refine r_pick (v := .bool true) rfl rfl rfl ?_
  refine r_doneN (x_then (c_true rfl (c_seq (c_reg ?_))))
  refine r_callP (admits_ok (G := G) kk hG) (vals := []) (res' := .bool true) rfl rfl rfl rfl rfl rfl ?_
  refine r_assign (v := .bool true) rfl rfl rfl ?_
  refine r_doneN (x_then (c_ret (x_thenR (x_end ?_))))
  exact end_map [0, 1, 2] (v := .bool true) rfl (by kernel_rfl) rfl rfl (by decide) (by simp [keptB, rwR, cItem, cInt]) rfl
  refine r_bin (v := .bool false) (vx := .int .i64 ((chkL l))) (vy := .int .i64 0) rfl rfl rfl rfl (neq_f (by omega)) ?_
  refine r_pick (v := .bool false) rfl rfl rfl ?_
  refine r_move (v := .bool false) rfl rfl rfl ?_
  refine r_move (v := slv 1 0 other.length c2) rfl rfl rfl ?_
  have hbg_other : other.length ≤ 60 := bigB_len (by assumption)
  refine r_callN (e := [some (1, 0)]) (nid := 0) (LCheck_ok (G := G) other other.length c2 rfl (by omega) (by omega)) (vals := [slv 1 0 other.length c2]) (v := .int .i64 ((chkL other))) (H' := [rwR cItem l, rwR cItem other, rwR cInt sizes, hole, hole]) rfl rfl rfl rfl rfl rfl rfl ⟨⟨⟨rfl, rfl, rfl, by first | omega | exact Nat.le_refl _, by first | omega | exact Nat.le_refl _⟩, trivial⟩, ⟨(emb_rwR rfl), trivial⟩, rfl, rfl, rfl⟩ rfl (by kernel_rfl) ?_
  by_cases h5 : ((chkL other)) ≠ 0
  refine r_bin (v := .bool true) (vx := .int .i64 ((chkL other))) (vy := .int .i64 0) rfl rfl rfl rfl (neq_t (by omega)) ?_
  refine r_pick (v := .bool true) rfl rfl rfl ?_
  refine r_move (v := .bool true) rfl rfl rfl ?_
  refine r_skip rfl rfl (r_skip rfl rfl ?_)
  refine r_pick (v := .bool true) rfl rfl rfl ?_
  refine r_move (v := .bool true) rfl rfl rfl ?_
  refine r_skip rfl rfl (r_skip rfl rfl ?_)
  refine r_pick (v := .bool true) rfl rfl rfl ?_
  refine r_move (v := .bool true) rfl rfl rfl ?_
  refine r_skip rfl rfl (r_skip rfl rfl ?_)
  refine r_pick (v := .bool true) rfl rfl rfl ?_
  refine r_move (v := .bool true) rfl rfl rfl ?_
  refine r_skip rfl rfl (r_skip rfl rfl ?_)
  refine r_pick (v := .bool true) rfl rfl rfl ?_
  refine r_doneN (x_then (c_true rfl (c_seq (c_reg ?_))))
  refine r_callP (admits_ok (G := G) kk hG) (vals := []) (res' := .bool true) rfl rfl rfl rfl rfl rfl ?_
  refine r_assign (v := .bool true) rfl rfl rfl ?_
  refine r_doneN (x_then (c_ret (x_thenR (x_end ?_))))
  exact end_map [0, 1, 2] (v := .bool true) rfl (by kernel_rfl) rfl rfl (by decide) (by simp [keptB, rwR, cItem, cInt]) rfl
  refine r_bin (v := .bool false) (vx := .int .i64 ((chkL other))) (vy := .int .i64 0) rfl rfl rfl rfl (neq_f (by omega)) ?_
  refine r_pick (v := .bool false) rfl rfl rfl ?_
  refine r_move (v := .bool false) rfl rfl rfl ?_
  refine r_move (v := .int .i64 region) rfl rfl rfl ?_
  by_cases h6 : region < 1
  refine r_bin (v := .bool true) (vx := .int .i64 region) (vy := .int .i64 1) rfl rfl rfl rfl (lss_t (by omega)) ?_
  refine r_pick (v := .bool true) rfl rfl rfl ?_
  refine r_move (v := .bool true) rfl rfl rfl ?_
  refine r_skip rfl rfl (r_skip rfl rfl ?_)
  refine r_pick (v := .bool true) rfl rfl rfl ?_
  refine r_move (v := .bool true) rfl rfl rfl ?_
  refine r_skip rfl rfl (r_skip rfl rfl ?_)
  refine r_pick (v := .bool true) rfl rfl rfl ?_
  refine r_move (v := .bool true) rfl rfl rfl ?_
  refine r_skip rfl rfl (r_skip rfl rfl ?_)
  refine r_pick (v := .bool true) rfl rfl rfl ?_
  refine r_doneN (x_then (c_true rfl (c_seq (c_reg ?_))))
  refine r_callP (admits_ok (G := G) kk hG) (vals := []) (res' := .bool true) rfl rfl rfl rfl rfl rfl ?_
  refine r_assign (v := .bool true) rfl rfl rfl ?_
  refine r_doneN (x_then (c_ret (x_thenR (x_end ?_))))
  exact end_map [0, 1, 2] (v := .bool true) rfl (by kernel_rfl) rfl rfl (by decide) (by simp [keptB, rwR, cItem, cInt]) rfl
  refine r_bin (v := .bool false) (vx := .int .i64 region) (vy := .int .i64 1) rfl rfl rfl rfl (lss_f (by omega)) ?_
  refine r_pick (v := .bool false) rfl rfl rfl ?_
  refine r_move (v := .bool false) rfl rfl rfl ?_
  refine r_move (v := .int .i64 region) rfl rfl rfl ?_
  by_cases h7 : 5 < region
  refine r_bin (v := .bool true) (vx := .int .i64 region) (vy := .int .i64 5) rfl rfl rfl rfl (gtr_t (by omega)) ?_
  refine r_pick (v := .bool true) rfl rfl rfl ?_
  refine r_move (v := .bool true) rfl rfl rfl ?_
  refine r_skip rfl rfl (r_skip rfl rfl ?_)
  refine r_pick (v := .bool true) rfl rfl rfl ?_
  refine r_move (v := .bool true) rfl rfl rfl ?_
  refine r_skip rfl rfl (r_skip rfl rfl ?_)
  refine r_pick (v := .bool true) rfl rfl rfl ?_
  refine r_doneN (x_then (c_true rfl (c_seq (c_reg ?_))))
  refine r_callP (admits_ok (G := G) kk hG) (vals := []) (res' := .bool true) rfl rfl rfl rfl rfl rfl ?_
  refine r_assign (v := .bool true) rfl rfl rfl ?_
  refine r_doneN (x_then (c_ret (x_thenR (x_end ?_))))
  exact end_map [0, 1, 2] (v := .bool true) rfl (by kernel_rfl) rfl rfl (by decide) (by simp [keptB, rwR, cItem, cInt]) rfl
  refine r_bin (v := .bool false) (vx := .int .i64 region) (vy := .int .i64 5) rfl rfl rfl rfl (gtr_f (by omega)) ?_
  refine r_pick (v := .bool false) rfl rfl rfl ?_
  refine r_move (v := .bool false) rfl rfl rfl ?_
  refine r_move (v := .int .i64 node) rfl rfl rfl ?_
  by_cases h8 : node < 1
  refine r_bin (v := .bool true) (vx := .int .i64 node) (vy := .int .i64 1) rfl rfl rfl rfl (lss_t (by omega)) ?_
  refine r_pick (v := .bool true) rfl rfl rfl ?_
  refine r_move (v := .bool true) rfl rfl rfl ?_
  refine r_skip rfl rfl (r_skip rfl rfl ?_)
  refine r_pick (v := .bool true) rfl rfl rfl ?_
  refine r_doneN (x_then (c_true rfl (c_seq (c_reg ?_))))
  refine r_callP (admits_ok (G := G) kk hG) (vals := []) (res' := .bool true) rfl rfl rfl rfl rfl rfl ?_
  refine r_assign (v := .bool true) rfl rfl rfl ?_
  refine r_doneN (x_then (c_ret (x_thenR (x_end ?_))))
  exact end_map [0, 1, 2] (v := .bool true) rfl (by kernel_rfl) rfl rfl (by decide) (by simp [keptB, rwR, cItem, cInt]) rfl
  refine r_bin (v := .bool false) (vx := .int .i64 node) (vy := .int .i64 1) rfl rfl rfl rfl (lss_f (by omega)) ?_
  refine r_pick (v := .bool false) rfl rfl rfl ?_
  refine r_move (v := .bool false) rfl rfl rfl ?_
  refine r_move (v := .int .i64 node) rfl rfl rfl ?_
  by_cases h9 : 3 < node
  refine r_bin (v := .bool true) (vx := .int .i64 node) (vy := .int .i64 3) rfl rfl rfl rfl (gtr_t (by omega)) ?_
  refine r_pick (v := .bool true) rfl rfl rfl ?_
  refine r_doneN (x_then (c_true rfl (c_seq (c_reg ?_))))
  refine r_callP (admits_ok (G := G) kk hG) (vals := []) (res' := .bool true) rfl rfl rfl rfl rfl rfl ?_
  refine r_assign (v := .bool true) rfl rfl rfl ?_
  refine r_doneN (x_then (c_ret (x_thenR (x_end ?_))))
  exact end_map [0, 1, 2] (v := .bool true) rfl (by kernel_rfl) rfl rfl (by decide) (by simp [keptB, rwR, cItem, cInt]) rfl
  refine r_bin (v := .bool false) (vx := .int .i64 node) (vy := .int .i64 3) rfl rfl rfl rfl (gtr_f (by omega)) ?_
  refine r_pick (v := .bool false) rfl rfl rfl ?_
  refine r_doneN (x_then (c_false rfl (c_skip (x_then (c_seq ?_)))))
  have hbq_l : l.length ≤ 60 := bigB_len (by assumption)
  have hck_l : rightL l := chkL_pos (by omega)
  have hbq_other : other.length ≤ 60 := bigB_len (by assumption)
  have hck_other : rightL other := chkL_pos (by omega)
  refine c_reg ?_
  refine r_move (v := slv 1 0 other.length c2) rfl rfl rfl ?_
  refine r_move (v := .int .i64 region) rfl rfl rfl ?_
  refine r_callN (e := [some (1, 0)]) (nid := 0) (Latest_ok (G := G) other other.length c2 rfl (by omega) (by omega) region) (vals := [slv 1 0 other.length c2, .int .i64 region]) (v := .tuple #[signedV ((latL other region).1), .bool ((latL other region).2)]) (H' := [rwR cItem l, rwR cItem other, rwR cInt sizes, hole, hole]) rfl rfl rfl rfl rfl rfl rfl ⟨⟨⟨rfl, rfl, rfl, by first | omega | exact Nat.le_refl _, by first | omega | exact Nat.le_refl _⟩, rfl, trivial⟩, ⟨(emb_rwR rfl), trivial⟩, rfl, rfl, rfl⟩ (by kernel_rfl) (by kernel_rfl) ?_
  refine r_move (v := .tuple #[signedV ((latL other region).1), .bool ((latL other region).2)]) rfl rfl rfl ?_
  refine r_extract (vs := #[signedV ((latL other region).1), .bool ((latL other region).2)]) (v := signedV ((latL other region).1)) rfl rfl rfl rfl ?_
  refine r_extract (vs := #[signedV ((latL other region).1), .bool ((latL other region).2)]) (v := .bool ((latL other region).2)) rfl rfl rfl rfl ?_
  refine r_alloc (b := bxB 69 (signedC (⟨(⟨0, 0, 0, dz, 0⟩ : Head), 0, dz⟩ : Signed))) (nid := 3) (H' := [rwR cItem l, rwR cItem other, rwR cInt sizes, bxB 69 (signedC (⟨(⟨0, 0, 0, dz, 0⟩ : Head), 0, dz⟩ : Signed)), hole]) rfl rfl (by kernel_rfl) (by kernel_rfl) ?_
  refine r_store (p := pt 3 0) (v := signedV ((latL other region).1)) (b := 3) (blk := bxB 69 (signedC ((latL other region).1))) (H' := [rwR cItem l, rwR cItem other, rwR cInt sizes, bxB 69 (signedC ((latL other region).1)), hole]) rfl rfl rfl (by kernel_rfl) (by kernel_rfl) ?_
  refine r_assign (v := .bool ((latL other region).2)) rfl rfl rfl ?_
  refine r_doneN (x_then (c_seq (c_seq (c_reg ?_))))
  refine r_move (v := .bool ((latL other region).2)) rfl rfl rfl ?_
  refine r_doneN (x_then ?_)
  rcases Bool.eq_false_or_eq_true ((latL other region).2) with h10 | h10
  refine c_true (congrArg Value.bool h10) ?_
  refine c_seq (c_reg ?_)
  refine r_callP (admits_ok (G := G) kk hG) (vals := []) (res' := .bool true) rfl rfl rfl rfl rfl rfl ?_
  refine r_assign (v := .bool true) rfl rfl rfl ?_
  refine r_doneN (x_then (c_ret (x_thenR (x_end ?_))))
  exact end_map [0, 1, 2] (v := .bool true) rfl (by kernel_rfl) rfl rfl (by decide) (by simp [keptB, rwR, cItem, cInt]) rfl
  refine c_false (congrArg Value.bool h10) ?_
  refine c_skip (x_then (c_seq (c_reg ?_)))
  refine r_move (v := slv 1 0 other.length c2) rfl rfl rfl ?_
  refine r_callN (e := [some (1, 0)]) (nid := 4) (refOwn_ok (G := G) other other.length c2 rfl (by omega) (by omega)) (vals := [slv 1 0 other.length c2]) (v := slv 4 0 other.length other.length) (H' := [rwR cItem l, rwR cItem other, rwR cInt sizes, bxB 69 (signedC ((latL other region).1)), rwB cItem other]) rfl rfl rfl rfl rfl rfl rfl ⟨⟨⟨rfl, rfl, rfl, by first | omega | exact Nat.le_refl _, by first | omega | exact Nat.le_refl _⟩, trivial⟩, ⟨(emb_rwR rfl), trivial⟩, rfl, rfl, rfl⟩ (by kernel_rfl) (by kernel_rfl) ?_
  refine r_assign (v := slv 4 0 other.length other.length) rfl rfl rfl ?_
  refine r_doneN (x_then (c_seq (c_reg ?_)))
  refine r_assign (v := .int .i64 1) rfl rfl rfl ?_
  refine r_doneN (x_then (c_seq (c_seq (c_reg ?_))))
  refine r_move (v := slv 1 0 other.length c2) rfl rfl rfl ?_
  refine r_len (p := slv 1 0 other.length c2) (v := .int .i64 (other.length : Nat)) rfl rfl rfl rfl ?_
  by_cases h11 : 0 < (other.length : Nat)
  refine r_bin (v := .bool true) (vx := .int .i64 (other.length : Nat)) (vy := .int .i64 0) rfl rfl rfl rfl (gtr_t (by omega)) ?_
  refine r_doneN (x_then (c_true rfl (c_reg ?_)))
  refine r_move (v := slv 1 0 other.length c2) rfl rfl rfl ?_
  refine r_move (v := slv 1 0 other.length c2) rfl rfl rfl ?_
  refine r_len (p := slv 1 0 other.length c2) (v := .int .i64 (other.length : Nat)) rfl rfl rfl rfl ?_
  refine r_bin (v := .int .i64 ((other.length : Nat) - 1)) (vx := .int .i64 (other.length : Nat)) (vy := .int .i64 1) rfl rfl rfl rfl (bin_sub (by omega) (by omega) (by omega)) ?_
  refine r_idxS (b := 1) (o := 0) (j := (other.length - 1) * 110) (m := other.length) (c := c2) (sz := 110) (i := (other.length : Nat) - 1) (k := .i64) rfl rfl rfl rfl rfl (by omega) (by omega) (by omega) ?_
  refine r_fieldAddr (b := 1) (o := (other.length - 1) * 110) (n := 0) (o' := (other.length - 1) * 110) rfl rfl rfl rfl (by omega) ?_
  refine r_load (p := pt 1 ((other.length - 1) * 110)) (v := .int .i64 (((other.getD (other.length - 1) default).epoch))) rfl rfl rfl (load_fld1 cItem (l := other) (i := other.length - 1) (k := 0) (m := 110) rfl rfl rfl rfl (by omega) (by omega) (by kernel_rfl) rfl) ?_
  refine r_assign (v := .int .i64 (((other.getD (other.length - 1) default).epoch))) rfl rfl rfl ?_
  refine r_doneN (x_then (c_seq (c_reg ?_)))
  refine r_assign (v := .int .i64 0) rfl rfl rfl ?_
  refine r_doneN (x_then (c_seq (c_seq (c_reg ?_))))
  refine r_assign (v := .int .i64 0) rfl rfl rfl ?_
  refine r_doneN (x_then (c_block ?_))
  refine c_loopN (fun x : Nat × Nat × Int × Int × (List Item) => match x with | (i, m, last, ep, all) => [slv 0 0 l.length c, slv 1 0 other.length c2, slv 2 0 sizes.length c3, .int .i64 region, .int .i64 node, dead, dead, dead, dead, dead, dead, pt 3 0, .bool ((latL other region).2), slv 4 0 m m, .int .i64 ep, .int .i64 last, .int .i64 (i : Nat), dead, dead, dead, dead, dead, dead, dead, dead, dead, dead, dead, dead, dead, dead, dead, dead, dead, dead, dead, dead, dead, dead, dead, dead, dead, dead, dead, dead, dead, dead, dead, dead, dead, dead, dead, dead, dead, dead, dead, dead, dead, dead, dead, dead, dead, dead, dead, dead, dead, dead, dead, dead, dead, dead, dead, dead, dead, dead, dead, dead, dead, dead, dead, dead, dead]) (fun x : Nat × Nat × Int × Int × (List Item) => match x with | (i, m, last, ep, all) => [rwR cItem l, rwR cItem other, rwR cInt sizes, bxB 69 (signedC ((latL other region).1)), rwB cItem all]) (fun x : Nat × Nat × Int × Int × (List Item) => match x with | (i, m, last, ep, all) => growI kk l region ep all last ∧ all.length = m ∧ m ≤ 60 + i ∧ (1 ≤ ep ∧ ep ≤ 900000000) ∧ i ≤ sizes.length) (fun x : Nat × Nat × Int × Int × (List Item) => match x with | (i, m, last, ep, all) => sizes.length - i) (0, other.length, 0, (((other.getD (other.length - 1) default).epoch)), other) ⟨grow_zero hck_other (by assumption) (fun _ => Int.le_refl _), rfl, by omega, grow_ep hck_other (by omega), by omega⟩ ?_ ?_
  · refine weak_to (n := 5) rfl ?_ (by kernel_rfl) (by kernel_rfl)
    repeat (first | exact trivial | refine ⟨.inl rfl, ?_⟩ | refine ⟨.inr ⟨rfl, rfl⟩, ?_⟩ | refine ⟨.inr ⟨congrArg (Value.int .i64) (by first | omega | (dsimp only; omega)), rfl⟩, ?_⟩)
  rintro ⟨i, m, last, ep, all⟩ ⟨hg, ha, hm, hep, hi⟩
  dsimp only at *
  refine c_hole 6 (H' := [rwR cItem l, rwR cItem other, rwR cInt sizes, bxB 69 (signedC ((latL other region).1)), rwB cItem all, hole, hole, hole, hole, hole, hole]) rfl ?_
  refine c_seq (c_seq (c_reg ?_))
  refine r_move (v := .int .i64 (i : Nat)) rfl rfl rfl ?_
  refine r_move (v := slv 2 0 sizes.length c3) rfl rfl rfl ?_
  refine r_len (p := slv 2 0 sizes.length c3) (v := .int .i64 (sizes.length : Nat)) rfl rfl rfl rfl ?_
  by_cases h12 : (i : Nat) < (sizes.length : Nat)
  refine r_bin (v := .bool true) (vx := .int .i64 (i : Nat)) (vy := .int .i64 (sizes.length : Nat)) rfl rfl rfl rfl (lss_t (by omega)) ?_
  refine r_doneN (x_then (c_true rfl (c_skip (x_then (c_seq (c_block (c_seq (c_reg ?_))))))))
  refine r_move (v := slv 2 0 sizes.length c3) rfl rfl rfl ?_
  refine r_move (v := .int .i64 (i : Nat)) rfl rfl rfl ?_
  refine r_idxS (b := 2) (o := 0) (j := i) (m := sizes.length) (c := c3) (sz := 1) (i := (i : Nat)) (k := .i64) rfl rfl rfl rfl rfl (by omega) (by omega) (by omega) ?_
  refine r_load (p := pt 2 i) (v := .int .i64 ((sizes.getD i default))) rfl rfl rfl (load_rw1 (m := 1) cInt (l := sizes) (i := i) rfl rfl rfl rfl (by omega) (by omega) rfl rfl) ?_
  refine r_assign (v := .int .i64 ((sizes.getD i default))) rfl rfl rfl ?_
  refine r_doneN (x_then (c_seq (c_seq ?_)))
  have hla : 0 ≤ last := hg.2.2.1
  have hlb : last ≤ l.length := hg.2.2.2.1
  refine c_reg ?_
  refine r_move (v := .int .i64 ((sizes.getD i default))) rfl rfl rfl ?_
  refine r_move (v := .int .i64 last) rfl rfl rfl ?_
  by_cases h13 : ((sizes.getD i default)) < last
  refine r_bin (v := .bool true) (vx := .int .i64 ((sizes.getD i default))) (vy := .int .i64 last) rfl rfl rfl rfl (lss_t (by omega)) ?_
  refine r_move (v := .bool true) rfl rfl rfl ?_
  refine r_skip rfl rfl (r_skip rfl rfl (r_skip rfl rfl (r_skip rfl rfl ?_)))
  refine r_pick (v := .bool true) rfl rfl rfl ?_
  refine r_doneN (x_then (c_true rfl (c_exit (x_thenE (x_block rfl (x_then (c_reg ?_)))))))
  refine r_move (v := .int .i64 (i : Nat)) rfl rfl rfl ?_
  refine r_bin (v := .int .i64 ((i : Nat) + 1)) (vx := .int .i64 (i : Nat)) (vy := .int .i64 1) rfl rfl rfl rfl (bin_add (by omega) (by omega) (by omega)) ?_
  refine r_assign (v := .int .i64 ((i : Nat) + 1)) rfl rfl rfl ?_
  refine r_doneN ?_
  refine x_round ⟨((i + 1), m, last, ep, all), ⟨hg, ha, by dsimp only; omega, hep, by dsimp only; omega⟩, by show sizes.length - (i + 1) < sizes.length - i; omega, ?_⟩
  refine weak_to (n := 5) rfl ?_ (by kernel_rfl) (by kernel_rfl)
  repeat (first | exact trivial | refine ⟨.inl rfl, ?_⟩ | refine ⟨.inr ⟨rfl, rfl⟩, ?_⟩ | refine ⟨.inr ⟨congrArg (Value.int .i64) (by first | omega | (dsimp only; omega)), rfl⟩, ?_⟩)
  refine r_bin (v := .bool false) (vx := .int .i64 ((sizes.getD i default))) (vy := .int .i64 last) rfl rfl rfl rfl (lss_f (by omega)) ?_
  refine r_move (v := .bool false) rfl rfl rfl ?_
  refine r_move (v := .int .i64 ((sizes.getD i default))) rfl rfl rfl ?_
  refine r_move (v := slv 0 0 l.length c) rfl rfl rfl ?_
  refine r_len (p := slv 0 0 l.length c) (v := .int .i64 (l.length : Nat)) rfl rfl rfl rfl ?_
  by_cases h14 : (l.length : Nat) < ((sizes.getD i default))
  refine r_bin (v := .bool true) (vx := .int .i64 ((sizes.getD i default))) (vy := .int .i64 (l.length : Nat)) rfl rfl rfl rfl (gtr_t (by omega)) ?_
  refine r_pick (v := .bool true) rfl rfl rfl ?_
  refine r_doneN (x_then (c_true rfl (c_exit (x_thenE (x_block rfl (x_then (c_reg ?_)))))))
  refine r_move (v := .int .i64 (i : Nat)) rfl rfl rfl ?_
  refine r_bin (v := .int .i64 ((i : Nat) + 1)) (vx := .int .i64 (i : Nat)) (vy := .int .i64 1) rfl rfl rfl rfl (bin_add (by omega) (by omega) (by omega)) ?_
  refine r_assign (v := .int .i64 ((i : Nat) + 1)) rfl rfl rfl ?_
  refine r_doneN ?_
  refine x_round ⟨((i + 1), m, last, ep, all), ⟨hg, ha, by dsimp only; omega, hep, by dsimp only; omega⟩, by show sizes.length - (i + 1) < sizes.length - i; omega, ?_⟩
  refine weak_to (n := 5) rfl ?_ (by kernel_rfl) (by kernel_rfl)
  repeat (first | exact trivial | refine ⟨.inl rfl, ?_⟩ | refine ⟨.inr ⟨rfl, rfl⟩, ?_⟩ | refine ⟨.inr ⟨congrArg (Value.int .i64) (by first | omega | (dsimp only; omega)), rfl⟩, ?_⟩)
  refine r_bin (v := .bool false) (vx := .int .i64 ((sizes.getD i default))) (vy := .int .i64 (l.length : Nat)) rfl rfl rfl rfl (gtr_f (by omega)) ?_
  refine r_pick (v := .bool false) rfl rfl rfl ?_
  refine r_doneN (x_then (c_false rfl (c_skip (x_then (c_seq ?_)))))
  obtain ⟨gs1, gs2, gs3, gs4, gs5⟩ := grow_step (kk := kk) (node := node) (n := ((sizes.getD i default))) (i := (i : Int)) hck_l ⟨by omega, by omega⟩ ⟨by omega, by omega⟩ hep hg (by omega) (by omega) (by omega) ⟨by omega, by omega⟩
  refine c_reg ?_
  refine r_move (v := slv 0 0 l.length c) rfl rfl rfl ?_
  refine r_move (v := .int .i64 ((sizes.getD i default))) rfl rfl rfl ?_
  refine r_move (v := .int .i64 region) rfl rfl rfl ?_
  refine r_move (v := .int .i64 (i : Nat)) rfl rfl rfl ?_
  refine r_callN (e := [some (0, 0)]) (nid := 0) (HHead_ok (G := G) kk hG hG1 l l.length c rfl (by omega) (by omega) ((sizes.getD i default)) region 1 (i : Nat)) (vals := [slv 0 0 l.length c, .int .i64 ((sizes.getD i default)), .int .i64 region, .int .i64 1, .int .i64 (i : Nat)]) (v := .tuple #[headV ((headH kk l ((sizes.getD i default)) region 1 (i : Nat)).1), .int .i64 (((headH kk l ((sizes.getD i default)) region 1 (i : Nat)).2))]) (H' := [rwR cItem l, rwR cItem other, rwR cInt sizes, bxB 69 (signedC ((latL other region).1)), rwB cItem all, hole, hole, hole, hole, hole, hole]) rfl rfl rfl rfl rfl rfl rfl ⟨⟨⟨rfl, rfl, rfl, by first | omega | exact Nat.le_refl _, by first | omega | exact Nat.le_refl _⟩, rfl, rfl, rfl, rfl, trivial⟩, ⟨(emb_rwR rfl), trivial⟩, rfl, rfl, rfl⟩ (by kernel_rfl) (by kernel_rfl) ?_
  refine r_move (v := .tuple #[headV ((headH kk l ((sizes.getD i default)) region 1 (i : Nat)).1), .int .i64 (((headH kk l ((sizes.getD i default)) region 1 (i : Nat)).2))]) rfl rfl rfl ?_
  refine r_extract (vs := #[headV ((headH kk l ((sizes.getD i default)) region 1 (i : Nat)).1), .int .i64 (((headH kk l ((sizes.getD i default)) region 1 (i : Nat)).2))]) (v := headV ((headH kk l ((sizes.getD i default)) region 1 (i : Nat)).1)) rfl rfl rfl rfl ?_
  refine r_extract (vs := #[headV ((headH kk l ((sizes.getD i default)) region 1 (i : Nat)).1), .int .i64 (((headH kk l ((sizes.getD i default)) region 1 (i : Nat)).2))]) (v := .int .i64 (((headH kk l ((sizes.getD i default)) region 1 (i : Nat)).2))) rfl rfl rfl rfl ?_
  refine r_alloc (b := bxB 36 (headC (⟨0, 0, 0, dz, 0⟩ : Head))) (nid := 5) (H' := [rwR cItem l, rwR cItem other, rwR cInt sizes, bxB 69 (signedC ((latL other region).1)), rwB cItem all, bxB 36 (headC (⟨0, 0, 0, dz, 0⟩ : Head)), hole, hole, hole, hole, hole]) rfl rfl (by kernel_rfl) (by kernel_rfl) ?_
  refine r_store (p := pt 5 0) (v := headV ((headH kk l ((sizes.getD i default)) region 1 (i : Nat)).1)) (b := 5) (blk := bxB 36 (headC ((headH kk l ((sizes.getD i default)) region 1 (i : Nat)).1))) (H' := [rwR cItem l, rwR cItem other, rwR cInt sizes, bxB 69 (signedC ((latL other region).1)), rwB cItem all, bxB 36 (headC ((headH kk l ((sizes.getD i default)) region 1 (i : Nat)).1)), hole, hole, hole, hole, hole]) rfl rfl rfl (by kernel_rfl) (by kernel_rfl) ?_
  refine r_assign (v := .int .i64 (((headH kk l ((sizes.getD i default)) region 1 (i : Nat)).2))) rfl rfl rfl ?_
  refine r_doneN (x_then (c_seq (c_reg ?_)))
  refine r_build (vs := []) (v := dgV dz) rfl rfl rfl (by kernel_rfl) ?_
  refine r_load (p := pt 5 0) (v := headV ((headH kk l ((sizes.getD i default)) region 1 (i : Nat)).1)) rfl rfl rfl (by kernel_rfl) ?_
  refine r_move (v := .int .i64 node) rfl rfl rfl ?_
  refine r_callP (Sign_ok' (G := G) kk hG dz ((headH kk l ((sizes.getD i default)) region 1 (i : Nat)).1) node) (vals := [dgV dz, headV ((headH kk l ((sizes.getD i default)) region 1 (i : Nat)).1), .int .i64 node]) (res' := .tuple #[signedV ((signR kk dz ((headH kk l ((sizes.getD i default)) region 1 (i : Nat)).1) node).1), .int .i64 (((signR kk dz ((headH kk l ((sizes.getD i default)) region 1 (i : Nat)).1) node).2))]) rfl rfl rfl rfl rfl (by kernel_rfl) ?_
  refine r_move (v := .tuple #[signedV ((signR kk dz ((headH kk l ((sizes.getD i default)) region 1 (i : Nat)).1) node).1), .int .i64 (((signR kk dz ((headH kk l ((sizes.getD i default)) region 1 (i : Nat)).1) node).2))]) rfl rfl rfl ?_
  refine r_extract (vs := #[signedV ((signR kk dz ((headH kk l ((sizes.getD i default)) region 1 (i : Nat)).1) node).1), .int .i64 (((signR kk dz ((headH kk l ((sizes.getD i default)) region 1 (i : Nat)).1) node).2))]) (v := signedV ((signR kk dz ((headH kk l ((sizes.getD i default)) region 1 (i : Nat)).1) node).1)) rfl rfl rfl rfl ?_
  refine r_extract (vs := #[signedV ((signR kk dz ((headH kk l ((sizes.getD i default)) region 1 (i : Nat)).1) node).1), .int .i64 (((signR kk dz ((headH kk l ((sizes.getD i default)) region 1 (i : Nat)).1) node).2))]) (v := .int .i64 (((signR kk dz ((headH kk l ((sizes.getD i default)) region 1 (i : Nat)).1) node).2))) rfl rfl rfl rfl ?_
  refine r_alloc (b := bxB 69 (signedC (⟨(⟨0, 0, 0, dz, 0⟩ : Head), 0, dz⟩ : Signed))) (nid := 6) (H' := [rwR cItem l, rwR cItem other, rwR cInt sizes, bxB 69 (signedC ((latL other region).1)), rwB cItem all, bxB 36 (headC ((headH kk l ((sizes.getD i default)) region 1 (i : Nat)).1)), bxB 69 (signedC (⟨(⟨0, 0, 0, dz, 0⟩ : Head), 0, dz⟩ : Signed)), hole, hole, hole, hole]) rfl rfl (by kernel_rfl) (by kernel_rfl) ?_
  refine r_store (p := pt 6 0) (v := signedV ((signR kk dz ((headH kk l ((sizes.getD i default)) region 1 (i : Nat)).1) node).1)) (b := 6) (blk := bxB 69 (signedC ((signR kk dz ((headH kk l ((sizes.getD i default)) region 1 (i : Nat)).1) node).1))) (H' := [rwR cItem l, rwR cItem other, rwR cInt sizes, bxB 69 (signedC ((latL other region).1)), rwB cItem all, bxB 36 (headC ((headH kk l ((sizes.getD i default)) region 1 (i : Nat)).1)), bxB 69 (signedC ((signR kk dz ((headH kk l ((sizes.getD i default)) region 1 (i : Nat)).1) node).1)), hole, hole, hole, hole]) rfl rfl rfl (by kernel_rfl) (by kernel_rfl) ?_
  refine r_assign (v := .int .i64 (((signR kk dz ((headH kk l ((sizes.getD i default)) region 1 (i : Nat)).1) node).2))) rfl rfl rfl ?_
  refine r_doneN (x_then (c_seq (c_reg ?_)))
  refine r_move (v := slv 0 0 l.length c) rfl rfl rfl ?_
  refine r_move (v := .int .i64 last) rfl rfl rfl ?_
  refine r_move (v := .int .i64 ((sizes.getD i default))) rfl rfl rfl ?_
  have hpl5 := conH_len kk l last ((sizes.getD i default))
  refine r_callN (e := [some (0, 0)]) (nid := 7) (HCons_ok (G := G) kk hG hG1 l l.length c rfl (by omega) (by omega) last ((sizes.getD i default))) (vals := [slv 0 0 l.length c, .int .i64 last, .int .i64 ((sizes.getD i default))]) (v := .tuple #[slv 7 0 ((conH kk l last ((sizes.getD i default))).1.length) ((conH kk l last ((sizes.getD i default))).1.length), .int .i64 (((conH kk l last ((sizes.getD i default))).2))]) (H' := [rwR cItem l, rwR cItem other, rwR cInt sizes, bxB 69 (signedC ((latL other region).1)), rwB cItem all, bxB 36 (headC ((headH kk l ((sizes.getD i default)) region 1 (i : Nat)).1)), bxB 69 (signedC ((signR kk dz ((headH kk l ((sizes.getD i default)) region 1 (i : Nat)).1) node).1)), dsB ((conH kk l last ((sizes.getD i default))).1), hole, hole, hole]) rfl rfl rfl rfl rfl rfl rfl ⟨⟨⟨rfl, rfl, rfl, by first | omega | exact Nat.le_refl _, by first | omega | exact Nat.le_refl _⟩, rfl, rfl, trivial⟩, ⟨(emb_rwR rfl), trivial⟩, rfl, rfl, rfl⟩ (by kernel_rfl) (by kernel_rfl) ?_
  refine r_move (v := .tuple #[slv 7 0 ((conH kk l last ((sizes.getD i default))).1.length) ((conH kk l last ((sizes.getD i default))).1.length), .int .i64 (((conH kk l last ((sizes.getD i default))).2))]) rfl rfl rfl ?_
  refine r_extract (vs := #[slv 7 0 ((conH kk l last ((sizes.getD i default))).1.length) ((conH kk l last ((sizes.getD i default))).1.length), .int .i64 (((conH kk l last ((sizes.getD i default))).2))]) (v := slv 7 0 ((conH kk l last ((sizes.getD i default))).1.length) ((conH kk l last ((sizes.getD i default))).1.length)) rfl rfl rfl rfl ?_
  refine r_extract (vs := #[slv 7 0 ((conH kk l last ((sizes.getD i default))).1.length) ((conH kk l last ((sizes.getD i default))).1.length), .int .i64 (((conH kk l last ((sizes.getD i default))).2))]) (v := .int .i64 (((conH kk l last ((sizes.getD i default))).2))) rfl rfl rfl rfl ?_
  refine r_assign (v := slv 7 0 ((conH kk l last ((sizes.getD i default))).1.length) ((conH kk l last ((sizes.getD i default))).1.length)) rfl rfl rfl ?_
  refine r_assign (v := .int .i64 (((conH kk l last ((sizes.getD i default))).2))) rfl rfl rfl ?_
  refine r_doneN (x_then (c_seq (c_seq (c_reg ?_))))
  refine r_move (v := .int .i64 (((headH kk l ((sizes.getD i default)) region 1 (i : Nat)).2))) rfl rfl rfl ?_
  refine r_bin (v := .bool false) (vx := .int .i64 (((headH kk l ((sizes.getD i default)) region 1 (i : Nat)).2))) (vy := .int .i64 0) rfl rfl rfl rfl (neq_f (by omega)) ?_
  refine r_move (v := .bool false) rfl rfl rfl ?_
  refine r_move (v := .int .i64 (((signR kk dz ((headH kk l ((sizes.getD i default)) region 1 (i : Nat)).1) node).2))) rfl rfl rfl ?_
  refine r_bin (v := .bool false) (vx := .int .i64 (((signR kk dz ((headH kk l ((sizes.getD i default)) region 1 (i : Nat)).1) node).2))) (vy := .int .i64 0) rfl rfl rfl rfl (neq_f (by omega)) ?_
  refine r_pick (v := .bool false) rfl rfl rfl ?_
  refine r_move (v := .bool false) rfl rfl rfl ?_
  refine r_move (v := .int .i64 (((conH kk l last ((sizes.getD i default))).2))) rfl rfl rfl ?_
  refine r_bin (v := .bool false) (vx := .int .i64 (((conH kk l last ((sizes.getD i default))).2))) (vy := .int .i64 0) rfl rfl rfl rfl (neq_f (by omega)) ?_
  refine r_pick (v := .bool false) rfl rfl rfl ?_
  refine r_move (v := .bool false) rfl rfl rfl ?_
  refine r_build (vs := []) (v := dgV dz) rfl rfl rfl (by kernel_rfl) ?_
  refine r_move (v := slv 4 0 m m) rfl rfl rfl ?_
  refine r_load (p := pt 6 0) (v := signedV ((signR kk dz ((headH kk l ((sizes.getD i default)) region 1 (i : Nat)).1) node).1)) rfl rfl rfl (by kernel_rfl) ?_
  refine r_move (v := .int .i64 last) rfl rfl rfl ?_
  refine r_move (v := slv 7 0 ((conH kk l last ((sizes.getD i default))).1.length) ((conH kk l last ((sizes.getD i default))).1.length)) rfl rfl rfl ?_
  refine r_callN (e := [some (4, 0), some (7, 0)]) (nid := 0) (Admit_ok (G := G) kk hG dz all m m ha (by omega) (by omega) ((signR kk dz ((headH kk l ((sizes.getD i default)) region 1 (i : Nat)).1) node).1) last ((conH kk l last ((sizes.getD i default))).1) ((conH kk l last ((sizes.getD i default))).1.length) ((conH kk l last ((sizes.getD i default))).1.length) (rfl : _ = _) (by omega) (by omega) (by omega) (by omega)) (vals := [dgV dz, slv 4 0 m m, signedV ((signR kk dz ((headH kk l ((sizes.getD i default)) region 1 (i : Nat)).1) node).1), .int .i64 last, slv 7 0 ((conH kk l last ((sizes.getD i default))).1.length) ((conH kk l last ((sizes.getD i default))).1.length)]) (v := .int .i64 ((admE kk dz all ((signR kk dz ((headH kk l ((sizes.getD i default)) region 1 (i : Nat)).1) node).1) last ((conH kk l last ((sizes.getD i default))).1)))) (H' := [rwR cItem l, rwR cItem other, rwR cInt sizes, bxB 69 (signedC ((latL other region).1)), rwB cItem all, bxB 36 (headC ((headH kk l ((sizes.getD i default)) region 1 (i : Nat)).1)), bxB 69 (signedC ((signR kk dz ((headH kk l ((sizes.getD i default)) region 1 (i : Nat)).1) node).1)), dsB ((conH kk l last ((sizes.getD i default))).1), hole, hole, hole]) rfl rfl rfl rfl rfl rfl rfl ⟨⟨rfl, ⟨rfl, rfl, rfl, by first | omega | exact Nat.le_refl _, by first | omega | exact Nat.le_refl _⟩, rfl, rfl, ⟨rfl, rfl, rfl, by first | omega | exact Nat.le_refl _, by first | omega | exact Nat.le_refl _⟩, trivial⟩, ⟨(emb_rwB rfl), (emb_dsB rfl), trivial⟩, rfl, rfl, rfl⟩ rfl (by kernel_rfl) ?_
  refine r_bin (v := .bool false) (vx := .int .i64 ((admE kk dz all ((signR kk dz ((headH kk l ((sizes.getD i default)) region 1 (i : Nat)).1) node).1) last ((conH kk l last ((sizes.getD i default))).1)))) (vy := .int .i64 0) rfl rfl rfl rfl (neq_f (by omega)) ?_
  refine r_pick (v := .bool false) rfl rfl rfl ?_
  refine r_doneN (x_then (c_false rfl (c_skip (x_then (c_seq (c_reg ?_))))))
  refine r_move (v := slv 4 0 m m) rfl rfl rfl ?_
  refine r_move (v := .int .i64 ep) rfl rfl rfl ?_
  refine r_load (p := pt 6 0) (v := signedV ((signR kk dz ((headH kk l ((sizes.getD i default)) region 1 (i : Nat)).1) node).1)) rfl rfl rfl (by kernel_rfl) ?_
  refine r_callP (item_ok (G := G) ep ((signR kk dz ((headH kk l ((sizes.getD i default)) region 1 (i : Nat)).1) node).1)) (vals := [.int .i64 ep, signedV ((signR kk dz ((headH kk l ((sizes.getD i default)) region 1 (i : Nat)).1) node).1)]) (res' := itemV (anI ep ((signR kk dz ((headH kk l ((sizes.getD i default)) region 1 (i : Nat)).1) node).1))) rfl rfl rfl rfl rfl (by kernel_rfl) ?_
  refine r_lit (vs := [(0, itemV (anI ep ((signR kk dz ((headH kk l ((sizes.getD i default)) region 1 (i : Nat)).1) node).1)))]) (v := slv 8 0 1 1) (blk := rwB cItem [(anI ep ((signR kk dz ((headH kk l ((sizes.getD i default)) region 1 (i : Nat)).1) node).1))]) (nid := 8) (H' := [rwR cItem l, rwR cItem other, rwR cInt sizes, bxB 69 (signedC ((latL other region).1)), rwB cItem all, bxB 36 (headC ((headH kk l ((sizes.getD i default)) region 1 (i : Nat)).1)), bxB 69 (signedC ((signR kk dz ((headH kk l ((sizes.getD i default)) region 1 (i : Nat)).1) node).1)), dsB ((conH kk l last ((sizes.getD i default))).1), rwB cItem [(anI ep ((signR kk dz ((headH kk l ((sizes.getD i default)) region 1 (i : Nat)).1) node).1))], hole, hole]) rfl rfl rfl (by kernel_rfl) (by kernel_rfl) ?_
  have hl6 : (all ++ [(anI ep ((signR kk dz ((headH kk l ((sizes.getD i default)) region 1 (i : Nat)).1) node).1))]).length = m + 1 := by have := ha; have := (rfl : _ = 1); first | (rw [List.length_append]; omega) | (simp; omega) | simp
  refine r_append (p := slv 4 0 m m) (q := slv 8 0 1 1) (v := slv 4 0 (m + 1) (m + 1)) (b := 4) (blk := rwB cItem (all ++ [(anI ep ((signR kk dz ((headH kk l ((sizes.getD i default)) region 1 (i : Nat)).1) node).1))])) (H' := [rwR cItem l, rwR cItem other, rwR cInt sizes, bxB 69 (signedC ((latL other region).1)), rwB cItem (all ++ [(anI ep ((signR kk dz ((headH kk l ((sizes.getD i default)) region 1 (i : Nat)).1) node).1))]), bxB 36 (headC ((headH kk l ((sizes.getD i default)) region 1 (i : Nat)).1)), bxB 69 (signedC ((signR kk dz ((headH kk l ((sizes.getD i default)) region 1 (i : Nat)).1) node).1)), dsB ((conH kk l last ((sizes.getD i default))).1), rwB cItem [(anI ep ((signR kk dz ((headH kk l ((sizes.getD i default)) region 1 (i : Nat)).1) node).1))], hole, hole]) rfl rfl rfl (.inl ⟨_, rfl⟩) rfl rfl (appD_rw cItem (by_ := 216) (k := 1) (n' := m + 1) (ms := [(anI ep ((signR kk dz ((headH kk l ((sizes.getD i default)) region 1 (i : Nat)).1) node).1))]) (fun _ => rfl) rfl rfl (by kernel_rfl) rfl rfl (by have := ha; omega) (by omega) (by decide) (by omega)) rfl (by kernel_rfl) ?_
  refine r_assign (v := slv 4 0 (m + 1) (m + 1)) rfl rfl rfl ?_
  refine r_doneN (x_then (c_reg ?_))
  refine r_move (v := .int .i64 ((sizes.getD i default))) rfl rfl rfl ?_
  refine r_assign (v := .int .i64 ((sizes.getD i default))) rfl rfl rfl ?_
  refine r_doneN (x_blockN (x_then (c_reg ?_)))
  refine r_move (v := .int .i64 (i : Nat)) rfl rfl rfl ?_
  refine r_bin (v := .int .i64 ((i : Nat) + 1)) (vx := .int .i64 (i : Nat)) (vy := .int .i64 1) rfl rfl rfl rfl (bin_add (by omega) (by omega) (by omega)) ?_
  refine r_assign (v := .int .i64 ((i : Nat) + 1)) rfl rfl rfl ?_
  refine r_doneN ?_
  refine x_round ⟨((i + 1), (m + 1), ((sizes.getD i default)), ep, (all ++ [(anI ep ((signR kk dz ((headH kk l ((sizes.getD i default)) region 1 (i : Nat)).1) node).1))])), ⟨gs5, by rw [List.length_append, ha]; rfl, by dsimp only; omega, hep, by dsimp only; omega⟩, by show sizes.length - (i + 1) < sizes.length - i; omega, ?_⟩
  refine weak_to (n := 5) rfl ?_ (by kernel_rfl) (by kernel_rfl)
  repeat (first | exact trivial | refine ⟨.inl rfl, ?_⟩ | refine ⟨.inr ⟨rfl, rfl⟩, ?_⟩ | refine ⟨.inr ⟨congrArg (Value.int .i64) (by first | omega | (dsimp only; omega)), rfl⟩, ?_⟩)
  refine r_bin (v := .bool false) (vx := .int .i64 (i : Nat)) (vy := .int .i64 (sizes.length : Nat)) rfl rfl rfl rfl (lss_f (by omega)) ?_
  refine r_doneN (x_then (c_false rfl (c_exit (x_thenE (x_leaveE (x_block rfl (x_then (c_seq (c_reg ?_)))))))))
  refine r_callP (admits_ok (G := G) kk hG) (vals := []) (res' := .bool true) rfl rfl rfl rfl rfl rfl ?_
  refine r_move (v := .bool true) rfl rfl rfl ?_
  refine r_move (v := slv 4 0 m m) rfl rfl rfl ?_
  have hck_all : chkL all = 0 := if_pos hg.1
  refine r_callN (e := [some (4, 0)]) (nid := 0) (LCheck_ok (G := G) all m m ha (by omega) (by omega)) (vals := [slv 4 0 m m]) (v := .int .i64 ((chkL all))) (H' := [rwR cItem l, rwR cItem other, rwR cInt sizes, bxB 69 (signedC ((latL other region).1)), rwB cItem all, hole, hole, hole, hole, hole, hole]) rfl rfl rfl rfl rfl rfl rfl ⟨⟨⟨rfl, rfl, rfl, by first | omega | exact Nat.le_refl _, by first | omega | exact Nat.le_refl _⟩, trivial⟩, ⟨(emb_rwB rfl), trivial⟩, rfl, rfl, rfl⟩ rfl (by kernel_rfl) ?_
  refine r_bin (v := .bool true) (vx := .int .i64 ((chkL all))) (vy := .int .i64 0) rfl rfl rfl rfl (eql_t (by omega)) ?_
  refine r_pick (v := .bool true) rfl rfl rfl ?_
  refine r_assign (v := .bool true) rfl rfl rfl ?_
  refine r_doneN (x_then (c_ret (x_end ?_)))
  exact end_map [0, 1, 2] (v := .bool true) rfl (by kernel_rfl) rfl rfl (by decide) (by simp [keptB, rwR, cItem, cInt]) rfl
  refine r_bin (v := .bool false) (vx := .int .i64 (other.length : Nat)) (vy := .int .i64 0) rfl rfl rfl rfl (gtr_f (by omega)) ?_
  refine r_doneN (x_then (c_false rfl (c_skip (x_then (c_seq (c_reg ?_))))))
  refine r_assign (v := .int .i64 0) rfl rfl rfl ?_
  refine r_doneN (x_then (c_seq (c_seq (c_reg ?_))))
  refine r_assign (v := .int .i64 0) rfl rfl rfl ?_
  refine r_doneN (x_then (c_block ?_))
  refine c_loopN (fun x : Nat × Nat × Int × Int × (List Item) => match x with | (i, m, last, ep, all) => [slv 0 0 l.length c, slv 1 0 other.length c2, slv 2 0 sizes.length c3, .int .i64 region, .int .i64 node, dead, dead, dead, dead, dead, dead, pt 3 0, .bool ((latL other region).2), slv 4 0 m m, .int .i64 ep, .int .i64 last, .int .i64 (i : Nat), dead, dead, dead, dead, dead, dead, dead, dead, dead, dead, dead, dead, dead, dead, dead, dead, dead, dead, dead, dead, dead, dead, dead, dead, dead, dead, dead, dead, dead, dead, dead, dead, dead, dead, dead, dead, dead, dead, dead, dead, dead, dead, dead, dead, dead, dead, dead, dead, dead, dead, dead, dead, dead, dead, dead, dead, dead, dead]) (fun x : Nat × Nat × Int × Int × (List Item) => match x with | (i, m, last, ep, all) => [rwR cItem l, rwR cItem other, rwR cInt sizes, bxB 69 (signedC ((latL other region).1)), rwB cItem all]) (fun x : Nat × Nat × Int × Int × (List Item) => match x with | (i, m, last, ep, all) => growI kk l region ep all last ∧ all.length = m ∧ m ≤ 60 + i ∧ (1 ≤ ep ∧ ep ≤ 900000000) ∧ i ≤ sizes.length) (fun x : Nat × Nat × Int × Int × (List Item) => match x with | (i, m, last, ep, all) => sizes.length - i) (0, other.length, 0, 1, other) ⟨grow_zero hck_other (by assumption) (fun q => absurd (List.eq_nil_of_length_eq_zero (by omega)) q), rfl, by omega, by omega, by omega⟩ ?_ ?_
  · refine weak_to (n := 5) rfl ?_ (by kernel_rfl) (by kernel_rfl)
    repeat (first | exact trivial | refine ⟨.inl rfl, ?_⟩ | refine ⟨.inr ⟨rfl, rfl⟩, ?_⟩ | refine ⟨.inr ⟨congrArg (Value.int .i64) (by first | omega | (dsimp only; omega)), rfl⟩, ?_⟩)
  rintro ⟨i, m, last, ep, all⟩ ⟨hg, ha, hm, hep, hi⟩
  dsimp only at *
  refine c_hole 6 (H' := [rwR cItem l, rwR cItem other, rwR cInt sizes, bxB 69 (signedC ((latL other region).1)), rwB cItem all, hole, hole, hole, hole, hole, hole]) rfl ?_
  refine c_seq (c_seq (c_reg ?_))
  refine r_move (v := .int .i64 (i : Nat)) rfl rfl rfl ?_
  refine r_move (v := slv 2 0 sizes.length c3) rfl rfl rfl ?_
  refine r_len (p := slv 2 0 sizes.length c3) (v := .int .i64 (sizes.length : Nat)) rfl rfl rfl rfl ?_
  by_cases h15 : (i : Nat) < (sizes.length : Nat)
  refine r_bin (v := .bool true) (vx := .int .i64 (i : Nat)) (vy := .int .i64 (sizes.length : Nat)) rfl rfl rfl rfl (lss_t (by omega)) ?_
  refine r_doneN (x_then (c_true rfl (c_skip (x_then (c_seq (c_block (c_seq (c_reg ?_))))))))
  refine r_move (v := slv 2 0 sizes.length c3) rfl rfl rfl ?_
  refine r_move (v := .int .i64 (i : Nat)) rfl rfl rfl ?_
  refine r_idxS (b := 2) (o := 0) (j := i) (m := sizes.length) (c := c3) (sz := 1) (i := (i : Nat)) (k := .i64) rfl rfl rfl rfl rfl (by omega) (by omega) (by omega) ?_
  refine r_load (p := pt 2 i) (v := .int .i64 ((sizes.getD i default))) rfl rfl rfl (load_rw1 (m := 1) cInt (l := sizes) (i := i) rfl rfl rfl rfl (by omega) (by omega) rfl rfl) ?_
  refine r_assign (v := .int .i64 ((sizes.getD i default))) rfl rfl rfl ?_
  refine r_doneN (x_then (c_seq (c_seq ?_)))
  have hla : 0 ≤ last := hg.2.2.1
  have hlb : last ≤ l.length := hg.2.2.2.1
  refine c_reg ?_
  refine r_move (v := .int .i64 ((sizes.getD i default))) rfl rfl rfl ?_
  refine r_move (v := .int .i64 last) rfl rfl rfl ?_
  by_cases h16 : ((sizes.getD i default)) < last
  refine r_bin (v := .bool true) (vx := .int .i64 ((sizes.getD i default))) (vy := .int .i64 last) rfl rfl rfl rfl (lss_t (by omega)) ?_
  refine r_move (v := .bool true) rfl rfl rfl ?_
  refine r_skip rfl rfl (r_skip rfl rfl (r_skip rfl rfl (r_skip rfl rfl ?_)))
  refine r_pick (v := .bool true) rfl rfl rfl ?_
  refine r_doneN (x_then (c_true rfl (c_exit (x_thenE (x_block rfl (x_then (c_reg ?_)))))))
  refine r_move (v := .int .i64 (i : Nat)) rfl rfl rfl ?_
  refine r_bin (v := .int .i64 ((i : Nat) + 1)) (vx := .int .i64 (i : Nat)) (vy := .int .i64 1) rfl rfl rfl rfl (bin_add (by omega) (by omega) (by omega)) ?_
  refine r_assign (v := .int .i64 ((i : Nat) + 1)) rfl rfl rfl ?_
  refine r_doneN ?_
  refine x_round ⟨((i + 1), m, last, ep, all), ⟨hg, ha, by dsimp only; omega, hep, by dsimp only; omega⟩, by show sizes.length - (i + 1) < sizes.length - i; omega, ?_⟩
  refine weak_to (n := 5) rfl ?_ (by kernel_rfl) (by kernel_rfl)
  repeat (first | exact trivial | refine ⟨.inl rfl, ?_⟩ | refine ⟨.inr ⟨rfl, rfl⟩, ?_⟩ | refine ⟨.inr ⟨congrArg (Value.int .i64) (by first | omega | (dsimp only; omega)), rfl⟩, ?_⟩)
  refine r_bin (v := .bool false) (vx := .int .i64 ((sizes.getD i default))) (vy := .int .i64 last) rfl rfl rfl rfl (lss_f (by omega)) ?_
  refine r_move (v := .bool false) rfl rfl rfl ?_
  refine r_move (v := .int .i64 ((sizes.getD i default))) rfl rfl rfl ?_
  refine r_move (v := slv 0 0 l.length c) rfl rfl rfl ?_
  refine r_len (p := slv 0 0 l.length c) (v := .int .i64 (l.length : Nat)) rfl rfl rfl rfl ?_
  by_cases h17 : (l.length : Nat) < ((sizes.getD i default))
  refine r_bin (v := .bool true) (vx := .int .i64 ((sizes.getD i default))) (vy := .int .i64 (l.length : Nat)) rfl rfl rfl rfl (gtr_t (by omega)) ?_
  refine r_pick (v := .bool true) rfl rfl rfl ?_
  refine r_doneN (x_then (c_true rfl (c_exit (x_thenE (x_block rfl (x_then (c_reg ?_)))))))
  refine r_move (v := .int .i64 (i : Nat)) rfl rfl rfl ?_
  refine r_bin (v := .int .i64 ((i : Nat) + 1)) (vx := .int .i64 (i : Nat)) (vy := .int .i64 1) rfl rfl rfl rfl (bin_add (by omega) (by omega) (by omega)) ?_
  refine r_assign (v := .int .i64 ((i : Nat) + 1)) rfl rfl rfl ?_
  refine r_doneN ?_
  refine x_round ⟨((i + 1), m, last, ep, all), ⟨hg, ha, by dsimp only; omega, hep, by dsimp only; omega⟩, by show sizes.length - (i + 1) < sizes.length - i; omega, ?_⟩
  refine weak_to (n := 5) rfl ?_ (by kernel_rfl) (by kernel_rfl)
  repeat (first | exact trivial | refine ⟨.inl rfl, ?_⟩ | refine ⟨.inr ⟨rfl, rfl⟩, ?_⟩ | refine ⟨.inr ⟨congrArg (Value.int .i64) (by first | omega | (dsimp only; omega)), rfl⟩, ?_⟩)
  refine r_bin (v := .bool false) (vx := .int .i64 ((sizes.getD i default))) (vy := .int .i64 (l.length : Nat)) rfl rfl rfl rfl (gtr_f (by omega)) ?_
  refine r_pick (v := .bool false) rfl rfl rfl ?_
  refine r_doneN (x_then (c_false rfl (c_skip (x_then (c_seq ?_)))))
  obtain ⟨gs1, gs2, gs3, gs4, gs5⟩ := grow_step (kk := kk) (node := node) (n := ((sizes.getD i default))) (i := (i : Int)) hck_l ⟨by omega, by omega⟩ ⟨by omega, by omega⟩ hep hg (by omega) (by omega) (by omega) ⟨by omega, by omega⟩
  refine c_reg ?_
  refine r_move (v := slv 0 0 l.length c) rfl rfl rfl ?_
  refine r_move (v := .int .i64 ((sizes.getD i default))) rfl rfl rfl ?_
  refine r_move (v := .int .i64 region) rfl rfl rfl ?_
  refine r_move (v := .int .i64 (i : Nat)) rfl rfl rfl ?_
  refine r_callN (e := [some (0, 0)]) (nid := 0) (HHead_ok (G := G) kk hG hG1 l l.length c rfl (by omega) (by omega) ((sizes.getD i default)) region 1 (i : Nat)) (vals := [slv 0 0 l.length c, .int .i64 ((sizes.getD i default)), .int .i64 region, .int .i64 1, .int .i64 (i : Nat)]) (v := .tuple #[headV ((headH kk l ((sizes.getD i default)) region 1 (i : Nat)).1), .int .i64 (((headH kk l ((sizes.getD i default)) region 1 (i : Nat)).2))]) (H' := [rwR cItem l, rwR cItem other, rwR cInt sizes, bxB 69 (signedC ((latL other region).1)), rwB cItem all, hole, hole, hole, hole, hole, hole]) rfl rfl rfl rfl rfl rfl rfl ⟨⟨⟨rfl, rfl, rfl, by first | omega | exact Nat.le_refl _, by first | omega | exact Nat.le_refl _⟩, rfl, rfl, rfl, rfl, trivial⟩, ⟨(emb_rwR rfl), trivial⟩, rfl, rfl, rfl⟩ (by kernel_rfl) (by kernel_rfl) ?_
  refine r_move (v := .tuple #[headV ((headH kk l ((sizes.getD i default)) region 1 (i : Nat)).1), .int .i64 (((headH kk l ((sizes.getD i default)) region 1 (i : Nat)).2))]) rfl rfl rfl ?_
  refine r_extract (vs := #[headV ((headH kk l ((sizes.getD i default)) region 1 (i : Nat)).1), .int .i64 (((headH kk l ((sizes.getD i default)) region 1 (i : Nat)).2))]) (v := headV ((headH kk l ((sizes.getD i default)) region 1 (i : Nat)).1)) rfl rfl rfl rfl ?_
  refine r_extract (vs := #[headV ((headH kk l ((sizes.getD i default)) region 1 (i : Nat)).1), .int .i64 (((headH kk l ((sizes.getD i default)) region 1 (i : Nat)).2))]) (v := .int .i64 (((headH kk l ((sizes.getD i default)) region 1 (i : Nat)).2))) rfl rfl rfl rfl ?_
  refine r_alloc (b := bxB 36 (headC (⟨0, 0, 0, dz, 0⟩ : Head))) (nid := 5) (H' := [rwR cItem l, rwR cItem other, rwR cInt sizes, bxB 69 (signedC ((latL other region).1)), rwB cItem all, bxB 36 (headC (⟨0, 0, 0, dz, 0⟩ : Head)), hole, hole, hole, hole, hole]) rfl rfl (by kernel_rfl) (by kernel_rfl) ?_
  refine r_store (p := pt 5 0) (v := headV ((headH kk l ((sizes.getD i default)) region 1 (i : Nat)).1)) (b := 5) (blk := bxB 36 (headC ((headH kk l ((sizes.getD i default)) region 1 (i : Nat)).1))) (H' := [rwR cItem l, rwR cItem other, rwR cInt sizes, bxB 69 (signedC ((latL other region).1)), rwB cItem all, bxB 36 (headC ((headH kk l ((sizes.getD i default)) region 1 (i : Nat)).1)), hole, hole, hole, hole, hole]) rfl rfl rfl (by kernel_rfl) (by kernel_rfl) ?_
  refine r_assign (v := .int .i64 (((headH kk l ((sizes.getD i default)) region 1 (i : Nat)).2))) rfl rfl rfl ?_
  refine r_doneN (x_then (c_seq (c_reg ?_)))
  refine r_build (vs := []) (v := dgV dz) rfl rfl rfl (by kernel_rfl) ?_
  refine r_load (p := pt 5 0) (v := headV ((headH kk l ((sizes.getD i default)) region 1 (i : Nat)).1)) rfl rfl rfl (by kernel_rfl) ?_
  refine r_move (v := .int .i64 node) rfl rfl rfl ?_
  refine r_callP (Sign_ok' (G := G) kk hG dz ((headH kk l ((sizes.getD i default)) region 1 (i : Nat)).1) node) (vals := [dgV dz, headV ((headH kk l ((sizes.getD i default)) region 1 (i : Nat)).1), .int .i64 node]) (res' := .tuple #[signedV ((signR kk dz ((headH kk l ((sizes.getD i default)) region 1 (i : Nat)).1) node).1), .int .i64 (((signR kk dz ((headH kk l ((sizes.getD i default)) region 1 (i : Nat)).1) node).2))]) rfl rfl rfl rfl rfl (by kernel_rfl) ?_
  refine r_move (v := .tuple #[signedV ((signR kk dz ((headH kk l ((sizes.getD i default)) region 1 (i : Nat)).1) node).1), .int .i64 (((signR kk dz ((headH kk l ((sizes.getD i default)) region 1 (i : Nat)).1) node).2))]) rfl rfl rfl ?_
  refine r_extract (vs := #[signedV ((signR kk dz ((headH kk l ((sizes.getD i default)) region 1 (i : Nat)).1) node).1), .int .i64 (((signR kk dz ((headH kk l ((sizes.getD i default)) region 1 (i : Nat)).1) node).2))]) (v := signedV ((signR kk dz ((headH kk l ((sizes.getD i default)) region 1 (i : Nat)).1) node).1)) rfl rfl rfl rfl ?_
  refine r_extract (vs := #[signedV ((signR kk dz ((headH kk l ((sizes.getD i default)) region 1 (i : Nat)).1) node).1), .int .i64 (((signR kk dz ((headH kk l ((sizes.getD i default)) region 1 (i : Nat)).1) node).2))]) (v := .int .i64 (((signR kk dz ((headH kk l ((sizes.getD i default)) region 1 (i : Nat)).1) node).2))) rfl rfl rfl rfl ?_
  refine r_alloc (b := bxB 69 (signedC (⟨(⟨0, 0, 0, dz, 0⟩ : Head), 0, dz⟩ : Signed))) (nid := 6) (H' := [rwR cItem l, rwR cItem other, rwR cInt sizes, bxB 69 (signedC ((latL other region).1)), rwB cItem all, bxB 36 (headC ((headH kk l ((sizes.getD i default)) region 1 (i : Nat)).1)), bxB 69 (signedC (⟨(⟨0, 0, 0, dz, 0⟩ : Head), 0, dz⟩ : Signed)), hole, hole, hole, hole]) rfl rfl (by kernel_rfl) (by kernel_rfl) ?_
  refine r_store (p := pt 6 0) (v := signedV ((signR kk dz ((headH kk l ((sizes.getD i default)) region 1 (i : Nat)).1) node).1)) (b := 6) (blk := bxB 69 (signedC ((signR kk dz ((headH kk l ((sizes.getD i default)) region 1 (i : Nat)).1) node).1))) (H' := [rwR cItem l, rwR cItem other, rwR cInt sizes, bxB 69 (signedC ((latL other region).1)), rwB cItem all, bxB 36 (headC ((headH kk l ((sizes.getD i default)) region 1 (i : Nat)).1)), bxB 69 (signedC ((signR kk dz ((headH kk l ((sizes.getD i default)) region 1 (i : Nat)).1) node).1)), hole, hole, hole, hole]) rfl rfl rfl (by kernel_rfl) (by kernel_rfl) ?_
  refine r_assign (v := .int .i64 (((signR kk dz ((headH kk l ((sizes.getD i default)) region 1 (i : Nat)).1) node).2))) rfl rfl rfl ?_
  refine r_doneN (x_then (c_seq (c_reg ?_)))
  refine r_move (v := slv 0 0 l.length c) rfl rfl rfl ?_
  refine r_move (v := .int .i64 last) rfl rfl rfl ?_
  refine r_move (v := .int .i64 ((sizes.getD i default))) rfl rfl rfl ?_
  have hpl7 := conH_len kk l last ((sizes.getD i default))
  refine r_callN (e := [some (0, 0)]) (nid := 7) (HCons_ok (G := G) kk hG hG1 l l.length c rfl (by omega) (by omega) last ((sizes.getD i default))) (vals := [slv 0 0 l.length c, .int .i64 last, .int .i64 ((sizes.getD i default))]) (v := .tuple #[slv 7 0 ((conH kk l last ((sizes.getD i default))).1.length) ((conH kk l last ((sizes.getD i default))).1.length), .int .i64 (((conH kk l last ((sizes.getD i default))).2))]) (H' := [rwR cItem l, rwR cItem other, rwR cInt sizes, bxB 69 (signedC ((latL other region).1)), rwB cItem all, bxB 36 (headC ((headH kk l ((sizes.getD i default)) region 1 (i : Nat)).1)), bxB 69 (signedC ((signR kk dz ((headH kk l ((sizes.getD i default)) region 1 (i : Nat)).1) node).1)), dsB ((conH kk l last ((sizes.getD i default))).1), hole, hole, hole]) rfl rfl rfl rfl rfl rfl rfl ⟨⟨⟨rfl, rfl, rfl, by first | omega | exact Nat.le_refl _, by first | omega | exact Nat.le_refl _⟩, rfl, rfl, trivial⟩, ⟨(emb_rwR rfl), trivial⟩, rfl, rfl, rfl⟩ (by kernel_rfl) (by kernel_rfl) ?_
  refine r_move (v := .tuple #[slv 7 0 ((conH kk l last ((sizes.getD i default))).1.length) ((conH kk l last ((sizes.getD i default))).1.length), .int .i64 (((conH kk l last ((sizes.getD i default))).2))]) rfl rfl rfl ?_
  refine r_extract (vs := #[slv 7 0 ((conH kk l last ((sizes.getD i default))).1.length) ((conH kk l last ((sizes.getD i default))).1.length), .int .i64 (((conH kk l last ((sizes.getD i default))).2))]) (v := slv 7 0 ((conH kk l last ((sizes.getD i default))).1.length) ((conH kk l last ((sizes.getD i default))).1.length)) rfl rfl rfl rfl ?_
  refine r_extract (vs := #[slv 7 0 ((conH kk l last ((sizes.getD i default))).1.length) ((conH kk l last ((sizes.getD i default))).1.length), .int .i64 (((conH kk l last ((sizes.getD i default))).2))]) (v := .int .i64 (((conH kk l last ((sizes.getD i default))).2))) rfl rfl rfl rfl ?_
  refine r_assign (v := slv 7 0 ((conH kk l last ((sizes.getD i default))).1.length) ((conH kk l last ((sizes.getD i default))).1.length)) rfl rfl rfl ?_
  refine r_assign (v := .int .i64 (((conH kk l last ((sizes.getD i default))).2))) rfl rfl rfl ?_
  refine r_doneN (x_then (c_seq (c_seq (c_reg ?_))))
  refine r_move (v := .int .i64 (((headH kk l ((sizes.getD i default)) region 1 (i : Nat)).2))) rfl rfl rfl ?_
  refine r_bin (v := .bool false) (vx := .int .i64 (((headH kk l ((sizes.getD i default)) region 1 (i : Nat)).2))) (vy := .int .i64 0) rfl rfl rfl rfl (neq_f (by omega)) ?_
  refine r_move (v := .bool false) rfl rfl rfl ?_
  refine r_move (v := .int .i64 (((signR kk dz ((headH kk l ((sizes.getD i default)) region 1 (i : Nat)).1) node).2))) rfl rfl rfl ?_
  refine r_bin (v := .bool false) (vx := .int .i64 (((signR kk dz ((headH kk l ((sizes.getD i default)) region 1 (i : Nat)).1) node).2))) (vy := .int .i64 0) rfl rfl rfl rfl (neq_f (by omega)) ?_
  refine r_pick (v := .bool false) rfl rfl rfl ?_
  refine r_move (v := .bool false) rfl rfl rfl ?_
  refine r_move (v := .int .i64 (((conH kk l last ((sizes.getD i default))).2))) rfl rfl rfl ?_
  refine r_bin (v := .bool false) (vx := .int .i64 (((conH kk l last ((sizes.getD i default))).2))) (vy := .int .i64 0) rfl rfl rfl rfl (neq_f (by omega)) ?_
  refine r_pick (v := .bool false) rfl rfl rfl ?_
  refine r_move (v := .bool false) rfl rfl rfl ?_
  refine r_build (vs := []) (v := dgV dz) rfl rfl rfl (by kernel_rfl) ?_
  refine r_move (v := slv 4 0 m m) rfl rfl rfl ?_
  refine r_load (p := pt 6 0) (v := signedV ((signR kk dz ((headH kk l ((sizes.getD i default)) region 1 (i : Nat)).1) node).1)) rfl rfl rfl (by kernel_rfl) ?_
  refine r_move (v := .int .i64 last) rfl rfl rfl ?_
  refine r_move (v := slv 7 0 ((conH kk l last ((sizes.getD i default))).1.length) ((conH kk l last ((sizes.getD i default))).1.length)) rfl rfl rfl ?_
  refine r_callN (e := [some (4, 0), some (7, 0)]) (nid := 0) (Admit_ok (G := G) kk hG dz all m m ha (by omega) (by omega) ((signR kk dz ((headH kk l ((sizes.getD i default)) region 1 (i : Nat)).1) node).1) last ((conH kk l last ((sizes.getD i default))).1) ((conH kk l last ((sizes.getD i default))).1.length) ((conH kk l last ((sizes.getD i default))).1.length) (rfl : _ = _) (by omega) (by omega) (by omega) (by omega)) (vals := [dgV dz, slv 4 0 m m, signedV ((signR kk dz ((headH kk l ((sizes.getD i default)) region 1 (i : Nat)).1) node).1), .int .i64 last, slv 7 0 ((conH kk l last ((sizes.getD i default))).1.length) ((conH kk l last ((sizes.getD i default))).1.length)]) (v := .int .i64 ((admE kk dz all ((signR kk dz ((headH kk l ((sizes.getD i default)) region 1 (i : Nat)).1) node).1) last ((conH kk l last ((sizes.getD i default))).1)))) (H' := [rwR cItem l, rwR cItem other, rwR cInt sizes, bxB 69 (signedC ((latL other region).1)), rwB cItem all, bxB 36 (headC ((headH kk l ((sizes.getD i default)) region 1 (i : Nat)).1)), bxB 69 (signedC ((signR kk dz ((headH kk l ((sizes.getD i default)) region 1 (i : Nat)).1) node).1)), dsB ((conH kk l last ((sizes.getD i default))).1), hole, hole, hole]) rfl rfl rfl rfl rfl rfl rfl ⟨⟨rfl, ⟨rfl, rfl, rfl, by first | omega | exact Nat.le_refl _, by first | omega | exact Nat.le_refl _⟩, rfl, rfl, ⟨rfl, rfl, rfl, by first | omega | exact Nat.le_refl _, by first | omega | exact Nat.le_refl _⟩, trivial⟩, ⟨(emb_rwB rfl), (emb_dsB rfl), trivial⟩, rfl, rfl, rfl⟩ rfl (by kernel_rfl) ?_
  refine r_bin (v := .bool false) (vx := .int .i64 ((admE kk dz all ((signR kk dz ((headH kk l ((sizes.getD i default)) region 1 (i : Nat)).1) node).1) last ((conH kk l last ((sizes.getD i default))).1)))) (vy := .int .i64 0) rfl rfl rfl rfl (neq_f (by omega)) ?_
  refine r_pick (v := .bool false) rfl rfl rfl ?_
  refine r_doneN (x_then (c_false rfl (c_skip (x_then (c_seq (c_reg ?_))))))
  refine r_move (v := slv 4 0 m m) rfl rfl rfl ?_
  refine r_move (v := .int .i64 ep) rfl rfl rfl ?_
  refine r_load (p := pt 6 0) (v := signedV ((signR kk dz ((headH kk l ((sizes.getD i default)) region 1 (i : Nat)).1) node).1)) rfl rfl rfl (by kernel_rfl) ?_
  refine r_callP (item_ok (G := G) ep ((signR kk dz ((headH kk l ((sizes.getD i default)) region 1 (i : Nat)).1) node).1)) (vals := [.int .i64 ep, signedV ((signR kk dz ((headH kk l ((sizes.getD i default)) region 1 (i : Nat)).1) node).1)]) (res' := itemV (anI ep ((signR kk dz ((headH kk l ((sizes.getD i default)) region 1 (i : Nat)).1) node).1))) rfl rfl rfl rfl rfl (by kernel_rfl) ?_
  refine r_lit (vs := [(0, itemV (anI ep ((signR kk dz ((headH kk l ((sizes.getD i default)) region 1 (i : Nat)).1) node).1)))]) (v := slv 8 0 1 1) (blk := rwB cItem [(anI ep ((signR kk dz ((headH kk l ((sizes.getD i default)) region 1 (i : Nat)).1) node).1))]) (nid := 8) (H' := [rwR cItem l, rwR cItem other, rwR cInt sizes, bxB 69 (signedC ((latL other region).1)), rwB cItem all, bxB 36 (headC ((headH kk l ((sizes.getD i default)) region 1 (i : Nat)).1)), bxB 69 (signedC ((signR kk dz ((headH kk l ((sizes.getD i default)) region 1 (i : Nat)).1) node).1)), dsB ((conH kk l last ((sizes.getD i default))).1), rwB cItem [(anI ep ((signR kk dz ((headH kk l ((sizes.getD i default)) region 1 (i : Nat)).1) node).1))], hole, hole]) rfl rfl rfl (by kernel_rfl) (by kernel_rfl) ?_
  have hl8 : (all ++ [(anI ep ((signR kk dz ((headH kk l ((sizes.getD i default)) region 1 (i : Nat)).1) node).1))]).length = m + 1 := by have := ha; have := (rfl : _ = 1); first | (rw [List.length_append]; omega) | (simp; omega) | simp
  refine r_append (p := slv 4 0 m m) (q := slv 8 0 1 1) (v := slv 4 0 (m + 1) (m + 1)) (b := 4) (blk := rwB cItem (all ++ [(anI ep ((signR kk dz ((headH kk l ((sizes.getD i default)) region 1 (i : Nat)).1) node).1))])) (H' := [rwR cItem l, rwR cItem other, rwR cInt sizes, bxB 69 (signedC ((latL other region).1)), rwB cItem (all ++ [(anI ep ((signR kk dz ((headH kk l ((sizes.getD i default)) region 1 (i : Nat)).1) node).1))]), bxB 36 (headC ((headH kk l ((sizes.getD i default)) region 1 (i : Nat)).1)), bxB 69 (signedC ((signR kk dz ((headH kk l ((sizes.getD i default)) region 1 (i : Nat)).1) node).1)), dsB ((conH kk l last ((sizes.getD i default))).1), rwB cItem [(anI ep ((signR kk dz ((headH kk l ((sizes.getD i default)) region 1 (i : Nat)).1) node).1))], hole, hole]) rfl rfl rfl (.inl ⟨_, rfl⟩) rfl rfl (appD_rw cItem (by_ := 216) (k := 1) (n' := m + 1) (ms := [(anI ep ((signR kk dz ((headH kk l ((sizes.getD i default)) region 1 (i : Nat)).1) node).1))]) (fun _ => rfl) rfl rfl (by kernel_rfl) rfl rfl (by have := ha; omega) (by omega) (by decide) (by omega)) rfl (by kernel_rfl) ?_
  refine r_assign (v := slv 4 0 (m + 1) (m + 1)) rfl rfl rfl ?_
  refine r_doneN (x_then (c_reg ?_))
  refine r_move (v := .int .i64 ((sizes.getD i default))) rfl rfl rfl ?_
  refine r_assign (v := .int .i64 ((sizes.getD i default))) rfl rfl rfl ?_
  refine r_doneN (x_blockN (x_then (c_reg ?_)))
  refine r_move (v := .int .i64 (i : Nat)) rfl rfl rfl ?_
  refine r_bin (v := .int .i64 ((i : Nat) + 1)) (vx := .int .i64 (i : Nat)) (vy := .int .i64 1) rfl rfl rfl rfl (bin_add (by omega) (by omega) (by omega)) ?_
  refine r_assign (v := .int .i64 ((i : Nat) + 1)) rfl rfl rfl ?_
  refine r_doneN ?_
  refine x_round ⟨((i + 1), (m + 1), ((sizes.getD i default)), ep, (all ++ [(anI ep ((signR kk dz ((headH kk l ((sizes.getD i default)) region 1 (i : Nat)).1) node).1))])), ⟨gs5, by rw [List.length_append, ha]; rfl, by dsimp only; omega, hep, by dsimp only; omega⟩, by show sizes.length - (i + 1) < sizes.length - i; omega, ?_⟩
  refine weak_to (n := 5) rfl ?_ (by kernel_rfl) (by kernel_rfl)
  repeat (first | exact trivial | refine ⟨.inl rfl, ?_⟩ | refine ⟨.inr ⟨rfl, rfl⟩, ?_⟩ | refine ⟨.inr ⟨congrArg (Value.int .i64) (by first | omega | (dsimp only; omega)), rfl⟩, ?_⟩)
  refine r_bin (v := .bool false) (vx := .int .i64 (i : Nat)) (vy := .int .i64 (sizes.length : Nat)) rfl rfl rfl rfl (lss_f (by omega)) ?_
  refine r_doneN (x_then (c_false rfl (c_exit (x_thenE (x_leaveE (x_block rfl (x_then (c_seq (c_reg ?_)))))))))
  refine r_callP (admits_ok (G := G) kk hG) (vals := []) (res' := .bool true) rfl rfl rfl rfl rfl rfl ?_
  refine r_move (v := .bool true) rfl rfl rfl ?_
  refine r_move (v := slv 4 0 m m) rfl rfl rfl ?_
  have hck_all : chkL all = 0 := if_pos hg.1
  refine r_callN (e := [some (4, 0)]) (nid := 0) (LCheck_ok (G := G) all m m ha (by omega) (by omega)) (vals := [slv 4 0 m m]) (v := .int .i64 ((chkL all))) (H' := [rwR cItem l, rwR cItem other, rwR cInt sizes, bxB 69 (signedC ((latL other region).1)), rwB cItem all, hole, hole, hole, hole, hole, hole]) rfl rfl rfl rfl rfl rfl rfl ⟨⟨⟨rfl, rfl, rfl, by first | omega | exact Nat.le_refl _, by first | omega | exact Nat.le_refl _⟩, trivial⟩, ⟨(emb_rwB rfl), trivial⟩, rfl, rfl, rfl⟩ rfl (by kernel_rfl) ?_
  refine r_bin (v := .bool true) (vx := .int .i64 ((chkL all))) (vy := .int .i64 0) rfl rfl rfl rfl (eql_t (by omega)) ?_
  refine r_pick (v := .bool true) rfl rfl rfl ?_
  refine r_assign (v := .bool true) rfl rfl rfl ?_
  refine r_doneN (x_then (c_ret (x_end ?_)))
  exact end_map [0, 1, 2] (v := .bool true) rfl (by kernel_rfl) rfl rfl (by decide) (by simp [keptB, rwR, cItem, cInt]) rfl
end Go.Flat
