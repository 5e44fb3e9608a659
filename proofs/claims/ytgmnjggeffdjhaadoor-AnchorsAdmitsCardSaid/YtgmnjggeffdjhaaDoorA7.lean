/- Walks and plain laws: what each theorem says, within the bounds that it names. -/
import Derived.Test.YtgmnjggeffdjhaaDoorA6
set_option linter.unusedVariables false
set_option linter.unusedSimpArgs false
set_option maxRecDepth 20000
namespace Go.Flat
open Go.Proofs
variable {G : Glob}
theorem Own_ok' (ds : List D) (c n : Nat) (hn : ds.length = n) (hb : n ≤ 1000000) : CallL Tryd.prog G 17 [slv 0 0 n c] [dsR ds] (slv 1 0 n n) [dsR ds, dsB ds] := by
  subst hn; exact Own_ok ds c hb
theorem Digests_eq (ds : List D) (n c c' : Nat) (hn : ds.length = n) (hb : n ≤ 1000000) : CallL Tryd.prog G 22 [slv 0 0 n c, slv 1 0 n c'] [dsR ds, dsR ds] (.bool true) [dsR ds, dsR ds] := by
  subst hn
  have h := Digests_ok (G := G) ds ds c c' hb hb
  rw [sameDs_refl] at h; exact h
theorem sub_eqt (ds : List D) (m : Nat) : sub ds 0 m = ds.take m := by simp [sub]
theorem refSplit_ok2 (n : Nat) (h : n ≤ 1000000) (h2 : 2 ≤ n) : CallL Tryd.prog G 88 [.int .i64 (n : Nat)] [] (.int .i64 (splitN n : Nat)) [] := (splitF_pos (n := n) h2).2.2 ▸ refSplit_ok (G := G) (n : Int) (by omega) (by omega)
theorem refSumE_ok (kk : Nat → BitVec 32) (hG : G 0 = some (rowE w32 64 kk)) : CallL Tryd.prog G 38 [.string ⟨#[]⟩] [] (dgV (shaOf kk [])) [] := refS_eq kk [] ▸ refSum_ok (G := G) kk hG ⟨#[]⟩ (by show 0 ≤ _; omega)
def bothR (kk : Nat → BitVec 32) (old : D) : Nat → Nat → Nat → Bool → List D → Nat → D × D × Bool
  | 0, _, _, _, _, _ => (old, old, false)
  | f + 1, m, n, known, ds, k =>
  if (m : Nat) = (n : Nat) then (if known = true then (if (k : Nat) = 0 then (old, old, true) else
  (old, old, false)) else
  if (k : Nat) = 0 then (old, old, false) else
  if (k : Nat) = 1 then ((ds.getD (k - 1) d0), (ds.getD (k - 1) d0), true) else
  ((ds.getD (k - 1) d0), (ds.getD (k - 1) d0), false)) else
  if (k : Nat) = 0 then (old, old, false) else
  if (m : Nat) ≤ (((splitN n) : Nat) : Int) then ((bothR kk old f m (splitN n) known (sub ds 0 (k - 1)) (k - 1)).1, (knotF kk ((bothR kk old f m (splitN n) known (sub ds 0 (k - 1)) (k - 1)).2.1) (ds.getD (k - 1) d0)), (bothR kk old f m (splitN n) known (sub ds 0 (k - 1)) (k - 1)).2.2) else
  ((knotF kk (ds.getD (k - 1) d0) ((bothR kk old f (m - (splitN n)) (n - (splitN n)) false (sub ds 0 (k - 1)) (k - 1)).1)), (knotF kk (ds.getD (k - 1) d0) ((bothR kk old f (m - (splitN n)) (n - (splitN n)) false (sub ds 0 (k - 1)) (k - 1)).2.1)), (bothR kk old f (m - (splitN n)) (n - (splitN n)) false (sub ds 0 (k - 1)) (k - 1)).2.2)
theorem refBoth_ok (kk : Nat → BitVec 32) (hG0 : G 0 = some (rowE w32 64 kk)) (old : D) (f m n : Nat) (known : Bool) (ds : List D) (k c : Nat) (hk : ds.length = k) (hb : k ≤ 1000) (hc : k ≤ c) (hf : n ≤ f) (hn : n ≤ 100000) (hm : m ≤ n) (h1 : 1 ≤ m) : CallL Tryd.prog G 63 [.int .i64 (m : Nat), .int .i64 (n : Nat), dgV old, .bool known, slv 0 0 k c] [dsR ds] (.tuple #[dgV (bothR kk old f m n known ds k).1, dgV (bothR kk old f m n known ds k).2.1, .bool (bothR kk old f m n known ds k).2.2]) [dsR ds] := by
  induction f generalizing m n known ds k c with
  | zero => omega
  | succ f ih =>
    refine walk (fn := Tryd.f63) (nt := 96) rfl rfl rfl rfl ?_
    refine c_hole 6 (H' := [dsR ds, hole, hole, hole, hole, hole, hole]) rfl ?_
    refine c_seq (c_reg ?_)
    refine r_box (v := dgV old) (b := dgB old) (nid := 1) (H' := [dsR ds, dgB old, hole, hole, hole, hole, hole]) rfl rfl rfl (by kernel_rfl) (by kernel_rfl) ?_
    refine r_alloc (b := dgB dz) (nid := 2) (H' := [dsR ds, dgB old, dgB dz, hole, hole, hole, hole]) rfl rfl (by kernel_rfl) (by kernel_rfl) ?_
    refine r_alloc (b := dgB dz) (nid := 3) (H' := [dsR ds, dgB old, dgB dz, dgB dz, hole, hole, hole]) rfl rfl (by kernel_rfl) (by kernel_rfl) ?_
    refine r_assign (v := .bool false) rfl rfl rfl ?_
    refine r_doneN (x_then (c_seq (c_reg ?_)))
    refine r_move (v := slv 0 0 k c) rfl rfl rfl ?_
    refine r_len (p := slv 0 0 k c) (v := .int .i64 (k : Nat)) rfl rfl rfl rfl ?_
    refine r_assign (v := .int .i64 (k : Nat)) rfl rfl rfl ?_
    refine r_doneN (x_then (c_seq (c_seq (c_reg ?_))))
    refine r_move (v := .int .i64 (m : Nat)) rfl rfl rfl ?_
    refine r_move (v := .int .i64 (n : Nat)) rfl rfl rfl ?_
    by_cases h1 : (m : Nat) = (n : Nat)
    refine r_bin (v := .bool true) (vx := .int .i64 (m : Nat)) (vy := .int .i64 (n : Nat)) rfl rfl rfl rfl (eql_t (by omega)) ?_
    refine r_move (v := .bool true) rfl rfl rfl ?_
    refine r_move (v := .bool known) rfl rfl rfl ?_
    refine r_pick (v := .bool known) rfl rfl rfl ?_
    refine r_doneN (x_then ?_)
    rcases Bool.eq_false_or_eq_true known with h2 | h2
    refine c_true (congrArg Value.bool h2) ?_
    refine c_seq ?_
    refine c_draw (by kernel_rfl) ?_
    refine r_load (p := pt 1 0) (v := dgV old) rfl rfl rfl (by kernel_rfl) ?_
    refine r_load (p := pt 1 0) (v := dgV old) rfl rfl rfl (by kernel_rfl) ?_
    refine r_move (v := .int .i64 (k : Nat)) rfl rfl rfl ?_
    by_cases h3 : (k : Nat) = 0
    refine r_bin (v := .bool true) (vx := .int .i64 (k : Nat)) (vy := .int .i64 0) rfl rfl rfl rfl (eql_t (by omega)) ?_
    refine r_store (p := pt 2 0) (v := dgV old) (b := 2) (blk := dgB old) (H' := [dsR ds, dgB old, dgB old, dgB dz, hole, hole, hole]) rfl rfl rfl (by kernel_rfl) (by kernel_rfl) ?_
    refine r_store (p := pt 3 0) (v := dgV old) (b := 3) (blk := dgB old) (H' := [dsR ds, dgB old, dgB old, dgB old, hole, hole, hole]) rfl rfl rfl (by kernel_rfl) (by kernel_rfl) ?_
    refine r_assign (v := .bool true) rfl rfl rfl ?_
    refine r_doneD (drawnT_ok [[], [], [], [2], [0], [0, 1, 4], [0, 1, 2, 3, 4, 5]] (by kernel_rfl) (by kernel_rfl)) ?_
    refine x_then (c_ret (x_thenR (x_end ?_)))
    rw [show bothR kk old (f + 1) m n known ds k = (old, old, true) from by rw [bothR]; rw [if_pos h1, if_pos h2, if_pos h3]]
    exact end_same (v := .tuple #[dgV old, dgV old, .bool true]) (by kernel_rfl) rfl rfl (by simp [keptB, dsR]) ⟨(argV_pure (pure_row fun _ => rfl) rfl), (argV_pure (pure_row fun _ => rfl) rfl), rfl, trivial⟩
    refine r_bin (v := .bool false) (vx := .int .i64 (k : Nat)) (vy := .int .i64 0) rfl rfl rfl rfl (eql_f (by omega)) ?_
    refine r_store (p := pt 2 0) (v := dgV old) (b := 2) (blk := dgB old) (H' := [dsR ds, dgB old, dgB old, dgB dz, hole, hole, hole]) rfl rfl rfl (by kernel_rfl) (by kernel_rfl) ?_
    refine r_store (p := pt 3 0) (v := dgV old) (b := 3) (blk := dgB old) (H' := [dsR ds, dgB old, dgB old, dgB old, hole, hole, hole]) rfl rfl rfl (by kernel_rfl) (by kernel_rfl) ?_
    refine r_assign (v := .bool false) rfl rfl rfl ?_
    refine r_doneD (drawnT_ok [[], [], [], [2], [0], [0, 1, 4], [0, 1, 2, 3, 4, 5]] (by kernel_rfl) (by kernel_rfl)) ?_
    refine x_then (c_ret (x_thenR (x_end ?_)))
    rw [show bothR kk old (f + 1) m n known ds k = (old, old, false) from by rw [bothR]; rw [if_pos h1, if_pos h2, if_neg h3]]
    exact end_same (v := .tuple #[dgV old, dgV old, .bool false]) (by kernel_rfl) rfl rfl (by simp [keptB, dsR]) ⟨(argV_pure (pure_row fun _ => rfl) rfl), (argV_pure (pure_row fun _ => rfl) rfl), rfl, trivial⟩
    refine c_false (congrArg Value.bool h2) ?_
    refine c_skip (x_then (c_seq (c_seq (c_reg ?_))))
    refine r_move (v := .int .i64 (k : Nat)) rfl rfl rfl ?_
    by_cases h4 : (k : Nat) = 0
    refine r_bin (v := .bool true) (vx := .int .i64 (k : Nat)) (vy := .int .i64 0) rfl rfl rfl rfl (eql_t (by omega)) ?_
    refine r_doneN (x_then ?_)
    refine c_true rfl ?_
    refine c_seq ?_
    refine c_draw (by kernel_rfl) ?_
    refine r_load (p := pt 1 0) (v := dgV old) rfl rfl rfl (by kernel_rfl) ?_
    refine r_load (p := pt 1 0) (v := dgV old) rfl rfl rfl (by kernel_rfl) ?_
    refine r_store (p := pt 2 0) (v := dgV old) (b := 2) (blk := dgB old) (H' := [dsR ds, dgB old, dgB old, dgB dz, hole, hole, hole]) rfl rfl rfl (by kernel_rfl) (by kernel_rfl) ?_
    refine r_store (p := pt 3 0) (v := dgV old) (b := 3) (blk := dgB old) (H' := [dsR ds, dgB old, dgB old, dgB old, hole, hole, hole]) rfl rfl rfl (by kernel_rfl) (by kernel_rfl) ?_
    refine r_assign (v := .bool false) rfl rfl rfl ?_
    refine r_doneD (drawnT_ok [[], [], [0], [0, 1, 2], [0, 1, 2, 3]] (by kernel_rfl) (by kernel_rfl)) ?_
    refine x_then (c_ret (x_thenR (x_end ?_)))
    rw [show bothR kk old (f + 1) m n known ds k = (old, old, false) from by rw [bothR]; rw [if_pos h1, if_neg (by rw [h2]; decide), if_pos h4]]
    exact end_same (v := .tuple #[dgV old, dgV old, .bool false]) (by kernel_rfl) rfl rfl (by simp [keptB, dsR]) ⟨(argV_pure (pure_row fun _ => rfl) rfl), (argV_pure (pure_row fun _ => rfl) rfl), rfl, trivial⟩
    refine r_bin (v := .bool false) (vx := .int .i64 (k : Nat)) (vy := .int .i64 0) rfl rfl rfl rfl (eql_f (by omega)) ?_
    refine r_doneN (x_then ?_)
    refine c_false rfl ?_
    refine c_skip (x_then (c_seq (c_reg ?_)))
    refine r_move (v := slv 0 0 k c) rfl rfl rfl ?_
    refine r_move (v := .int .i64 (k : Nat)) rfl rfl rfl ?_
    refine r_bin (v := .int .i64 ((k : Nat) - 1)) (vx := .int .i64 (k : Nat)) (vy := .int .i64 1) rfl rfl rfl rfl (bin_sub (by omega) (by omega) (by omega)) ?_
    refine r_idxS (b := 0) (o := 0) (j := (k - 1) * 32) (m := k) (c := c) (sz := 32) (i := (k : Nat) - 1) (k := .i64) rfl rfl rfl rfl rfl (by omega) (by omega) (by omega) ?_
    refine r_load (p := pt 0 ((k - 1) * 32)) (v := dgV (ds.getD (k - 1) d0)) rfl rfl rfl (load_ds rfl rfl rfl (by have := hk; omega) (by omega)) ?_
    refine r_alloc (b := dgB dz) (nid := 4) (H' := [dsR ds, dgB old, dgB dz, dgB dz, dgB dz, hole, hole]) rfl rfl (by kernel_rfl) (by kernel_rfl) ?_
    refine r_store (p := pt 4 0) (v := dgV (ds.getD (k - 1) d0)) (b := 4) (blk := dgB (ds.getD (k - 1) d0)) (H' := [dsR ds, dgB old, dgB dz, dgB dz, dgB (ds.getD (k - 1) d0), hole, hole]) rfl rfl rfl (by kernel_rfl) (by kernel_rfl) ?_
    refine r_doneN (x_then (c_seq (c_seq (c_reg ?_))))
    refine r_move (v := .int .i64 (m : Nat)) rfl rfl rfl ?_
    refine r_move (v := .int .i64 (n : Nat)) rfl rfl rfl ?_
    refine r_bin (v := .bool true) (vx := .int .i64 (m : Nat)) (vy := .int .i64 (n : Nat)) rfl rfl rfl rfl (eql_t (by omega)) ?_
    refine r_doneN (x_then ?_)
    refine c_true rfl ?_
    refine c_seq ?_
    refine c_draw (by kernel_rfl) ?_
    refine r_load (p := pt 4 0) (v := dgV (ds.getD (k - 1) d0)) rfl rfl rfl (by kernel_rfl) ?_
    refine r_load (p := pt 4 0) (v := dgV (ds.getD (k - 1) d0)) rfl rfl rfl (by kernel_rfl) ?_
    refine r_move (v := .int .i64 (k : Nat)) rfl rfl rfl ?_
    by_cases h5 : (k : Nat) = 1
    refine r_bin (v := .bool true) (vx := .int .i64 (k : Nat)) (vy := .int .i64 1) rfl rfl rfl rfl (eql_t (by omega)) ?_
    refine r_store (p := pt 2 0) (v := dgV (ds.getD (k - 1) d0)) (b := 2) (blk := dgB (ds.getD (k - 1) d0)) (H' := [dsR ds, dgB old, dgB (ds.getD (k - 1) d0), dgB dz, dgB (ds.getD (k - 1) d0), hole, hole]) rfl rfl rfl (by kernel_rfl) (by kernel_rfl) ?_
    refine r_store (p := pt 3 0) (v := dgV (ds.getD (k - 1) d0)) (b := 3) (blk := dgB (ds.getD (k - 1) d0)) (H' := [dsR ds, dgB old, dgB (ds.getD (k - 1) d0), dgB (ds.getD (k - 1) d0), dgB (ds.getD (k - 1) d0), hole, hole]) rfl rfl rfl (by kernel_rfl) (by kernel_rfl) ?_
    refine r_assign (v := .bool true) rfl rfl rfl ?_
    refine r_doneD (drawnT_ok [[], [], [], [2], [0], [0, 1, 4], [0, 1, 2, 3, 4, 5]] (by kernel_rfl) (by kernel_rfl)) ?_
    refine x_then (c_ret (x_thenR (x_end ?_)))
    rw [show bothR kk old (f + 1) m n known ds k = ((ds.getD (k - 1) d0), (ds.getD (k - 1) d0), true) from by rw [bothR]; rw [if_pos h1, if_neg (by rw [h2]; decide), if_neg h4, if_pos h5]]
    exact end_same (v := .tuple #[dgV (ds.getD (k - 1) d0), dgV (ds.getD (k - 1) d0), .bool true]) (by kernel_rfl) rfl rfl (by simp [keptB, dsR]) ⟨(argV_pure (pure_row fun _ => rfl) rfl), (argV_pure (pure_row fun _ => rfl) rfl), rfl, trivial⟩
    refine r_bin (v := .bool false) (vx := .int .i64 (k : Nat)) (vy := .int .i64 1) rfl rfl rfl rfl (eql_f (by omega)) ?_
    refine r_store (p := pt 2 0) (v := dgV (ds.getD (k - 1) d0)) (b := 2) (blk := dgB (ds.getD (k - 1) d0)) (H' := [dsR ds, dgB old, dgB (ds.getD (k - 1) d0), dgB dz, dgB (ds.getD (k - 1) d0), hole, hole]) rfl rfl rfl (by kernel_rfl) (by kernel_rfl) ?_
    refine r_store (p := pt 3 0) (v := dgV (ds.getD (k - 1) d0)) (b := 3) (blk := dgB (ds.getD (k - 1) d0)) (H' := [dsR ds, dgB old, dgB (ds.getD (k - 1) d0), dgB (ds.getD (k - 1) d0), dgB (ds.getD (k - 1) d0), hole, hole]) rfl rfl rfl (by kernel_rfl) (by kernel_rfl) ?_
    refine r_assign (v := .bool false) rfl rfl rfl ?_
    refine r_doneD (drawnT_ok [[], [], [], [2], [0], [0, 1, 4], [0, 1, 2, 3, 4, 5]] (by kernel_rfl) (by kernel_rfl)) ?_
    refine x_then (c_ret (x_thenR (x_end ?_)))
    rw [show bothR kk old (f + 1) m n known ds k = ((ds.getD (k - 1) d0), (ds.getD (k - 1) d0), false) from by rw [bothR]; rw [if_pos h1, if_neg (by rw [h2]; decide), if_neg h4, if_neg h5]]
    exact end_same (v := .tuple #[dgV (ds.getD (k - 1) d0), dgV (ds.getD (k - 1) d0), .bool false]) (by kernel_rfl) rfl rfl (by simp [keptB, dsR]) ⟨(argV_pure (pure_row fun _ => rfl) rfl), (argV_pure (pure_row fun _ => rfl) rfl), rfl, trivial⟩
    refine r_bin (v := .bool false) (vx := .int .i64 (m : Nat)) (vy := .int .i64 (n : Nat)) rfl rfl rfl rfl (eql_f (by omega)) ?_
    refine r_move (v := .bool false) rfl rfl rfl ?_
    refine r_skip rfl rfl ?_
    refine r_pick (v := .bool false) rfl rfl rfl ?_
    refine r_doneN (x_then ?_)
    refine c_false rfl ?_
    refine c_skip (x_then (c_seq (c_seq (c_reg ?_))))
    refine r_move (v := .int .i64 (k : Nat)) rfl rfl rfl ?_
    by_cases h6 : (k : Nat) = 0
    refine r_bin (v := .bool true) (vx := .int .i64 (k : Nat)) (vy := .int .i64 0) rfl rfl rfl rfl (eql_t (by omega)) ?_
    refine r_doneN (x_then ?_)
    refine c_true rfl ?_
    refine c_seq ?_
    refine c_draw (by kernel_rfl) ?_
    refine r_load (p := pt 1 0) (v := dgV old) rfl rfl rfl (by kernel_rfl) ?_
    refine r_load (p := pt 1 0) (v := dgV old) rfl rfl rfl (by kernel_rfl) ?_
    refine r_store (p := pt 2 0) (v := dgV old) (b := 2) (blk := dgB old) (H' := [dsR ds, dgB old, dgB old, dgB dz, hole, hole, hole]) rfl rfl rfl (by kernel_rfl) (by kernel_rfl) ?_
    refine r_store (p := pt 3 0) (v := dgV old) (b := 3) (blk := dgB old) (H' := [dsR ds, dgB old, dgB old, dgB old, hole, hole, hole]) rfl rfl rfl (by kernel_rfl) (by kernel_rfl) ?_
    refine r_assign (v := .bool false) rfl rfl rfl ?_
    refine r_doneD (drawnT_ok [[], [], [0], [0, 1, 2], [0, 1, 2, 3]] (by kernel_rfl) (by kernel_rfl)) ?_
    refine x_then (c_ret (x_thenR (x_end ?_)))
    rw [show bothR kk old (f + 1) m n known ds k = (old, old, false) from by rw [bothR]; rw [if_neg h1, if_pos h6]]
    exact end_same (v := .tuple #[dgV old, dgV old, .bool false]) (by kernel_rfl) rfl rfl (by simp [keptB, dsR]) ⟨(argV_pure (pure_row fun _ => rfl) rfl), (argV_pure (pure_row fun _ => rfl) rfl), rfl, trivial⟩
    refine r_bin (v := .bool false) (vx := .int .i64 (k : Nat)) (vy := .int .i64 0) rfl rfl rfl rfl (eql_f (by omega)) ?_
    refine r_doneN (x_then ?_)
    refine c_false rfl ?_
    refine c_skip (x_then (c_seq (c_reg ?_)))
    refine r_move (v := slv 0 0 k c) rfl rfl rfl ?_
    refine r_move (v := .int .i64 (k : Nat)) rfl rfl rfl ?_
    refine r_bin (v := .int .i64 ((k : Nat) - 1)) (vx := .int .i64 (k : Nat)) (vy := .int .i64 1) rfl rfl rfl rfl (bin_sub (by omega) (by omega) (by omega)) ?_
    refine r_idxS (b := 0) (o := 0) (j := (k - 1) * 32) (m := k) (c := c) (sz := 32) (i := (k : Nat) - 1) (k := .i64) rfl rfl rfl rfl rfl (by omega) (by omega) (by omega) ?_
    refine r_load (p := pt 0 ((k - 1) * 32)) (v := dgV (ds.getD (k - 1) d0)) rfl rfl rfl (load_ds rfl rfl rfl (by have := hk; omega) (by omega)) ?_
    refine r_alloc (b := dgB dz) (nid := 4) (H' := [dsR ds, dgB old, dgB dz, dgB dz, dgB dz, hole, hole]) rfl rfl (by kernel_rfl) (by kernel_rfl) ?_
    refine r_store (p := pt 4 0) (v := dgV (ds.getD (k - 1) d0)) (b := 4) (blk := dgB (ds.getD (k - 1) d0)) (H' := [dsR ds, dgB old, dgB dz, dgB dz, dgB (ds.getD (k - 1) d0), hole, hole]) rfl rfl rfl (by kernel_rfl) (by kernel_rfl) ?_
    refine r_doneN (x_then (c_seq (c_seq (c_reg ?_))))
    refine r_move (v := .int .i64 (m : Nat)) rfl rfl rfl ?_
    refine r_move (v := .int .i64 (n : Nat)) rfl rfl rfl ?_
    refine r_bin (v := .bool false) (vx := .int .i64 (m : Nat)) (vy := .int .i64 (n : Nat)) rfl rfl rfl rfl (eql_f (by omega)) ?_
    refine r_doneN (x_then ?_)
    refine c_false rfl ?_
    refine c_skip (x_then (c_seq (c_reg ?_)))
    refine r_move (v := .int .i64 (n : Nat)) rfl rfl rfl ?_
    have hs4 := splitN_pos (n := n) (by omega)
    refine r_callP (refSplit_ok2 (G := G) n (by omega) (by omega)) (vals := [.int .i64 (n : Nat)]) (res' := .int .i64 (((splitN n) : Nat) : Int)) rfl rfl rfl rfl rfl rfl ?_
    refine r_assign (v := .int .i64 (((splitN n) : Nat) : Int)) rfl rfl rfl ?_
    refine r_doneN (x_then (c_seq (c_seq (c_reg ?_))))
    refine r_move (v := .int .i64 (m : Nat)) rfl rfl rfl ?_
    refine r_move (v := .int .i64 (((splitN n) : Nat) : Int)) rfl rfl rfl ?_
    by_cases h7 : (m : Nat) ≤ (((splitN n) : Nat) : Int)
    refine r_bin (v := .bool true) (vx := .int .i64 (m : Nat)) (vy := .int .i64 (((splitN n) : Nat) : Int)) rfl rfl rfl rfl (leq_t (by omega)) ?_
    refine r_doneN (x_then ?_)
    refine c_true rfl ?_
    refine c_seq ?_
    refine c_drawK (by kernel_rfl) ?_
    refine r_move (v := .int .i64 (m : Nat)) rfl rfl rfl ?_
    refine r_move (v := .int .i64 (((splitN n) : Nat) : Int)) rfl rfl rfl ?_
    refine r_load (p := pt 1 0) (v := dgV old) rfl rfl rfl (by kernel_rfl) ?_
    refine r_move (v := .bool known) rfl rfl rfl ?_
    refine r_move (v := slv 0 0 k c) rfl rfl rfl ?_
    refine r_move (v := .int .i64 (k : Nat)) rfl rfl rfl ?_
    refine r_bin (v := .int .i64 ((k : Nat) - 1)) (vx := .int .i64 (k : Nat)) (vy := .int .i64 1) rfl rfl rfl rfl (bin_sub (by omega) (by omega) (by omega)) ?_
    refine r_slice (p := slv 0 0 k c) (vl := none) (vh := some (.int .i64 ((k : Nat) - 1))) (v := slv 0 0 (k - 1) c) rfl rfl rfl rfl rfl (slice_hi (h := k - 1) rfl rfl (by omega) (by omega) rfl) ?_
    refine r_callN (e := [some (0, 0)]) (nid := 0) (ih m (splitN n) known (sub ds 0 (k - 1)) (k - 1) c (sub_len (by have := hk; omega)) (by omega) (by omega) (by omega) (by omega) (by omega) (by omega)) (vals := [.int .i64 (m : Nat), .int .i64 (((splitN n) : Nat) : Int), dgV old, .bool known, slv 0 0 (k - 1) c]) (v := .tuple #[dgV ((bothR kk old f m (splitN n) known (sub ds 0 (k - 1)) (k - 1)).1), dgV ((bothR kk old f m (splitN n) known (sub ds 0 (k - 1)) (k - 1)).2.1), .bool ((bothR kk old f m (splitN n) known (sub ds 0 (k - 1)) (k - 1)).2.2)]) (H' := [dsR ds, dgB old, dgB dz, dgB dz, dgB (ds.getD (k - 1) d0), hole, hole]) rfl rfl rfl rfl rfl rfl rfl ⟨⟨rfl, rfl, rfl, rfl, ⟨rfl, by omega, rfl, by omega, by omega⟩, trivial⟩, ⟨(emb_sub rfl (.inl rfl) (by have := hk; omega) (by omega)), trivial⟩, rfl, rfl, rfl⟩ (by kernel_rfl) (by kernel_rfl) ?_
    refine r_move (v := .tuple #[dgV ((bothR kk old f m (splitN n) known (sub ds 0 (k - 1)) (k - 1)).1), dgV ((bothR kk old f m (splitN n) known (sub ds 0 (k - 1)) (k - 1)).2.1), .bool ((bothR kk old f m (splitN n) known (sub ds 0 (k - 1)) (k - 1)).2.2)]) rfl rfl rfl ?_
    refine r_extract (vs := #[dgV ((bothR kk old f m (splitN n) known (sub ds 0 (k - 1)) (k - 1)).1), dgV ((bothR kk old f m (splitN n) known (sub ds 0 (k - 1)) (k - 1)).2.1), .bool ((bothR kk old f m (splitN n) known (sub ds 0 (k - 1)) (k - 1)).2.2)]) (v := dgV ((bothR kk old f m (splitN n) known (sub ds 0 (k - 1)) (k - 1)).1)) rfl rfl rfl rfl ?_
    refine r_extract (vs := #[dgV ((bothR kk old f m (splitN n) known (sub ds 0 (k - 1)) (k - 1)).1), dgV ((bothR kk old f m (splitN n) known (sub ds 0 (k - 1)) (k - 1)).2.1), .bool ((bothR kk old f m (splitN n) known (sub ds 0 (k - 1)) (k - 1)).2.2)]) (v := dgV ((bothR kk old f m (splitN n) known (sub ds 0 (k - 1)) (k - 1)).2.1)) rfl rfl rfl rfl ?_
    refine r_extract (vs := #[dgV ((bothR kk old f m (splitN n) known (sub ds 0 (k - 1)) (k - 1)).1), dgV ((bothR kk old f m (splitN n) known (sub ds 0 (k - 1)) (k - 1)).2.1), .bool ((bothR kk old f m (splitN n) known (sub ds 0 (k - 1)) (k - 1)).2.2)]) (v := .bool ((bothR kk old f m (splitN n) known (sub ds 0 (k - 1)) (k - 1)).2.2)) rfl rfl rfl rfl ?_
    refine r_alloc (b := dgB dz) (nid := 5) (H' := [dsR ds, dgB old, dgB dz, dgB dz, dgB (ds.getD (k - 1) d0), dgB dz, hole]) rfl rfl (by kernel_rfl) (by kernel_rfl) ?_
    refine r_alloc (b := dgB dz) (nid := 6) (H' := [dsR ds, dgB old, dgB dz, dgB dz, dgB (ds.getD (k - 1) d0), dgB dz, dgB dz]) rfl rfl (by kernel_rfl) (by kernel_rfl) ?_
    refine r_store (p := pt 5 0) (v := dgV ((bothR kk old f m (splitN n) known (sub ds 0 (k - 1)) (k - 1)).1)) (b := 5) (blk := dgB ((bothR kk old f m (splitN n) known (sub ds 0 (k - 1)) (k - 1)).1)) (H' := [dsR ds, dgB old, dgB dz, dgB dz, dgB (ds.getD (k - 1) d0), dgB ((bothR kk old f m (splitN n) known (sub ds 0 (k - 1)) (k - 1)).1), dgB dz]) rfl rfl rfl (by kernel_rfl) (by kernel_rfl) ?_
    refine r_store (p := pt 6 0) (v := dgV ((bothR kk old f m (splitN n) known (sub ds 0 (k - 1)) (k - 1)).2.1)) (b := 6) (blk := dgB ((bothR kk old f m (splitN n) known (sub ds 0 (k - 1)) (k - 1)).2.1)) (H' := [dsR ds, dgB old, dgB dz, dgB dz, dgB (ds.getD (k - 1) d0), dgB ((bothR kk old f m (splitN n) known (sub ds 0 (k - 1)) (k - 1)).1), dgB ((bothR kk old f m (splitN n) known (sub ds 0 (k - 1)) (k - 1)).2.1)]) rfl rfl rfl (by kernel_rfl) (by kernel_rfl) ?_
    refine r_assign (v := .bool ((bothR kk old f m (splitN n) known (sub ds 0 (k - 1)) (k - 1)).2.2)) rfl rfl rfl ?_
    refine r_doneK (drawnTK_ok [[], [], [], [], [], [], [5], [4, 5, 6], [0, 1, 2, 3, 4, 5, 6, 7], [0, 1, 2, 3, 4, 5, 6, 7, 8], [0, 1, 2, 3, 4, 5, 6, 7, 8, 9], [0, 1, 2, 3, 4, 5, 6, 7, 8, 9], [0, 1, 2, 3, 4, 5, 6, 7, 8, 9], [], [], [0, 1, 2, 3, 4, 5, 6, 7, 8, 9, 10, 13, 14], [0, 1, 2, 3, 4, 5, 6, 7, 8, 9, 10, 11, 13, 14, 15], [0, 1, 2, 3, 4, 5, 6, 7, 8, 9, 10, 11, 12, 13, 14, 15, 16]] (by kernel_rfl) (by kernel_rfl)) ?_
    refine x_then (c_seq ?_)
    refine c_drawK (by kernel_rfl) ?_
    refine r_load (p := pt 5 0) (v := dgV ((bothR kk old f m (splitN n) known (sub ds 0 (k - 1)) (k - 1)).1)) rfl rfl rfl (by kernel_rfl) ?_
    refine r_load (p := pt 6 0) (v := dgV ((bothR kk old f m (splitN n) known (sub ds 0 (k - 1)) (k - 1)).2.1)) rfl rfl rfl (by kernel_rfl) ?_
    refine r_load (p := pt 4 0) (v := dgV (ds.getD (k - 1) d0)) rfl rfl rfl (by kernel_rfl) ?_
    refine r_callP (refKnot_ok' (G := G) kk hG0 ((bothR kk old f m (splitN n) known (sub ds 0 (k - 1)) (k - 1)).2.1) (ds.getD (k - 1) d0)) (vals := [dgV ((bothR kk old f m (splitN n) known (sub ds 0 (k - 1)) (k - 1)).2.1), dgV (ds.getD (k - 1) d0)]) (res' := dgV (knotF kk ((bothR kk old f m (splitN n) known (sub ds 0 (k - 1)) (k - 1)).2.1) (ds.getD (k - 1) d0))) rfl rfl rfl rfl rfl (by kernel_rfl) ?_
    refine r_move (v := .bool ((bothR kk old f m (splitN n) known (sub ds 0 (k - 1)) (k - 1)).2.2)) rfl rfl rfl ?_
    refine r_store (p := pt 2 0) (v := dgV ((bothR kk old f m (splitN n) known (sub ds 0 (k - 1)) (k - 1)).1)) (b := 2) (blk := dgB ((bothR kk old f m (splitN n) known (sub ds 0 (k - 1)) (k - 1)).1)) (H' := [dsR ds, dgB old, dgB ((bothR kk old f m (splitN n) known (sub ds 0 (k - 1)) (k - 1)).1), dgB dz, dgB (ds.getD (k - 1) d0), dgB ((bothR kk old f m (splitN n) known (sub ds 0 (k - 1)) (k - 1)).1), dgB ((bothR kk old f m (splitN n) known (sub ds 0 (k - 1)) (k - 1)).2.1)]) rfl rfl rfl (by kernel_rfl) (by kernel_rfl) ?_
    refine r_store (p := pt 3 0) (v := dgV (knotF kk ((bothR kk old f m (splitN n) known (sub ds 0 (k - 1)) (k - 1)).2.1) (ds.getD (k - 1) d0))) (b := 3) (blk := dgB (knotF kk ((bothR kk old f m (splitN n) known (sub ds 0 (k - 1)) (k - 1)).2.1) (ds.getD (k - 1) d0))) (H' := [dsR ds, dgB old, dgB ((bothR kk old f m (splitN n) known (sub ds 0 (k - 1)) (k - 1)).1), dgB (knotF kk ((bothR kk old f m (splitN n) known (sub ds 0 (k - 1)) (k - 1)).2.1) (ds.getD (k - 1) d0)), dgB (ds.getD (k - 1) d0), dgB ((bothR kk old f m (splitN n) known (sub ds 0 (k - 1)) (k - 1)).1), dgB ((bothR kk old f m (splitN n) known (sub ds 0 (k - 1)) (k - 1)).2.1)]) rfl rfl rfl (by kernel_rfl) (by kernel_rfl) ?_
    refine r_assign (v := .bool ((bothR kk old f m (splitN n) known (sub ds 0 (k - 1)) (k - 1)).2.2)) rfl rfl rfl ?_
    refine r_doneK (drawnTK_ok [[], [], [], [1, 2], [], [0, 1, 2, 3], [0, 1, 2, 3, 5], [0, 1, 2, 3, 4, 5, 6]] (by kernel_rfl) (by kernel_rfl)) ?_
    refine x_then (c_ret (x_thenR (x_end ?_)))
    rw [show bothR kk old (f + 1) m n known ds k = ((bothR kk old f m (splitN n) known (sub ds 0 (k - 1)) (k - 1)).1, (knotF kk ((bothR kk old f m (splitN n) known (sub ds 0 (k - 1)) (k - 1)).2.1) (ds.getD (k - 1) d0)), (bothR kk old f m (splitN n) known (sub ds 0 (k - 1)) (k - 1)).2.2) from by rw [bothR]; rw [if_neg h1, if_neg h6, if_pos h7]]
    exact end_same (v := .tuple #[dgV ((bothR kk old f m (splitN n) known (sub ds 0 (k - 1)) (k - 1)).1), dgV (knotF kk ((bothR kk old f m (splitN n) known (sub ds 0 (k - 1)) (k - 1)).2.1) (ds.getD (k - 1) d0)), .bool ((bothR kk old f m (splitN n) known (sub ds 0 (k - 1)) (k - 1)).2.2)]) (by kernel_rfl) rfl rfl (by simp [keptB, dsR]) ⟨(argV_pure (pure_row fun _ => rfl) rfl), (argV_pure (pure_row fun _ => rfl) rfl), rfl, trivial⟩
    refine r_bin (v := .bool false) (vx := .int .i64 (m : Nat)) (vy := .int .i64 (((splitN n) : Nat) : Int)) rfl rfl rfl rfl (leq_f (by omega)) ?_
    refine r_doneN (x_then ?_)
    refine c_false rfl ?_
    refine c_skip (x_then (c_seq ?_))
    refine c_drawK (by kernel_rfl) ?_
    refine r_move (v := .int .i64 (m : Nat)) rfl rfl rfl ?_
    refine r_move (v := .int .i64 (((splitN n) : Nat) : Int)) rfl rfl rfl ?_
    refine r_bin (v := .int .i64 (((m : Nat) : Int) - (((splitN n) : Nat) : Int))) (vx := .int .i64 (m : Nat)) (vy := .int .i64 (((splitN n) : Nat) : Int)) rfl rfl rfl rfl (bin_sub (by omega) (by omega) (by omega)) ?_
    refine r_move (v := .int .i64 (n : Nat)) rfl rfl rfl ?_
    refine r_move (v := .int .i64 (((splitN n) : Nat) : Int)) rfl rfl rfl ?_
    refine r_bin (v := .int .i64 (((n : Nat) : Int) - (((splitN n) : Nat) : Int))) (vx := .int .i64 (n : Nat)) (vy := .int .i64 (((splitN n) : Nat) : Int)) rfl rfl rfl rfl (bin_sub (by omega) (by omega) (by omega)) ?_
    refine r_load (p := pt 1 0) (v := dgV old) rfl rfl rfl (by kernel_rfl) ?_
    refine r_move (v := slv 0 0 k c) rfl rfl rfl ?_
    refine r_move (v := .int .i64 (k : Nat)) rfl rfl rfl ?_
    refine r_bin (v := .int .i64 ((k : Nat) - 1)) (vx := .int .i64 (k : Nat)) (vy := .int .i64 1) rfl rfl rfl rfl (bin_sub (by omega) (by omega) (by omega)) ?_
    refine r_slice (p := slv 0 0 k c) (vl := none) (vh := some (.int .i64 ((k : Nat) - 1))) (v := slv 0 0 (k - 1) c) rfl rfl rfl rfl rfl (slice_hi (h := k - 1) rfl rfl (by omega) (by omega) rfl) ?_
    refine r_callN (e := [some (0, 0)]) (nid := 0) (ih (m - (splitN n)) (n - (splitN n)) false (sub ds 0 (k - 1)) (k - 1) c (sub_len (by have := hk; omega)) (by omega) (by omega) (by omega) (by omega) (by omega) (by omega)) (vals := [.int .i64 (((m : Nat) : Int) - (((splitN n) : Nat) : Int)), .int .i64 (((n : Nat) : Int) - (((splitN n) : Nat) : Int)), dgV old, .bool false, slv 0 0 (k - 1) c]) (v := .tuple #[dgV ((bothR kk old f (m - (splitN n)) (n - (splitN n)) false (sub ds 0 (k - 1)) (k - 1)).1), dgV ((bothR kk old f (m - (splitN n)) (n - (splitN n)) false (sub ds 0 (k - 1)) (k - 1)).2.1), .bool ((bothR kk old f (m - (splitN n)) (n - (splitN n)) false (sub ds 0 (k - 1)) (k - 1)).2.2)]) (H' := [dsR ds, dgB old, dgB dz, dgB dz, dgB (ds.getD (k - 1) d0), hole, hole]) rfl rfl rfl rfl rfl rfl rfl ⟨⟨(congrArg (Value.int .i64) (by omega)), (congrArg (Value.int .i64) (by omega)), rfl, rfl, ⟨rfl, by omega, rfl, by omega, by omega⟩, trivial⟩, ⟨(emb_sub rfl (.inl rfl) (by have := hk; omega) (by omega)), trivial⟩, rfl, rfl, rfl⟩ (by kernel_rfl) (by kernel_rfl) ?_
    refine r_move (v := .tuple #[dgV ((bothR kk old f (m - (splitN n)) (n - (splitN n)) false (sub ds 0 (k - 1)) (k - 1)).1), dgV ((bothR kk old f (m - (splitN n)) (n - (splitN n)) false (sub ds 0 (k - 1)) (k - 1)).2.1), .bool ((bothR kk old f (m - (splitN n)) (n - (splitN n)) false (sub ds 0 (k - 1)) (k - 1)).2.2)]) rfl rfl rfl ?_
    refine r_extract (vs := #[dgV ((bothR kk old f (m - (splitN n)) (n - (splitN n)) false (sub ds 0 (k - 1)) (k - 1)).1), dgV ((bothR kk old f (m - (splitN n)) (n - (splitN n)) false (sub ds 0 (k - 1)) (k - 1)).2.1), .bool ((bothR kk old f (m - (splitN n)) (n - (splitN n)) false (sub ds 0 (k - 1)) (k - 1)).2.2)]) (v := dgV ((bothR kk old f (m - (splitN n)) (n - (splitN n)) false (sub ds 0 (k - 1)) (k - 1)).1)) rfl rfl rfl rfl ?_
    refine r_extract (vs := #[dgV ((bothR kk old f (m - (splitN n)) (n - (splitN n)) false (sub ds 0 (k - 1)) (k - 1)).1), dgV ((bothR kk old f (m - (splitN n)) (n - (splitN n)) false (sub ds 0 (k - 1)) (k - 1)).2.1), .bool ((bothR kk old f (m - (splitN n)) (n - (splitN n)) false (sub ds 0 (k - 1)) (k - 1)).2.2)]) (v := dgV ((bothR kk old f (m - (splitN n)) (n - (splitN n)) false (sub ds 0 (k - 1)) (k - 1)).2.1)) rfl rfl rfl rfl ?_
    refine r_extract (vs := #[dgV ((bothR kk old f (m - (splitN n)) (n - (splitN n)) false (sub ds 0 (k - 1)) (k - 1)).1), dgV ((bothR kk old f (m - (splitN n)) (n - (splitN n)) false (sub ds 0 (k - 1)) (k - 1)).2.1), .bool ((bothR kk old f (m - (splitN n)) (n - (splitN n)) false (sub ds 0 (k - 1)) (k - 1)).2.2)]) (v := .bool ((bothR kk old f (m - (splitN n)) (n - (splitN n)) false (sub ds 0 (k - 1)) (k - 1)).2.2)) rfl rfl rfl rfl ?_
    refine r_alloc (b := dgB dz) (nid := 5) (H' := [dsR ds, dgB old, dgB dz, dgB dz, dgB (ds.getD (k - 1) d0), dgB dz, hole]) rfl rfl (by kernel_rfl) (by kernel_rfl) ?_
    refine r_alloc (b := dgB dz) (nid := 6) (H' := [dsR ds, dgB old, dgB dz, dgB dz, dgB (ds.getD (k - 1) d0), dgB dz, dgB dz]) rfl rfl (by kernel_rfl) (by kernel_rfl) ?_
    refine r_store (p := pt 5 0) (v := dgV ((bothR kk old f (m - (splitN n)) (n - (splitN n)) false (sub ds 0 (k - 1)) (k - 1)).1)) (b := 5) (blk := dgB ((bothR kk old f (m - (splitN n)) (n - (splitN n)) false (sub ds 0 (k - 1)) (k - 1)).1)) (H' := [dsR ds, dgB old, dgB dz, dgB dz, dgB (ds.getD (k - 1) d0), dgB ((bothR kk old f (m - (splitN n)) (n - (splitN n)) false (sub ds 0 (k - 1)) (k - 1)).1), dgB dz]) rfl rfl rfl (by kernel_rfl) (by kernel_rfl) ?_
    refine r_store (p := pt 6 0) (v := dgV ((bothR kk old f (m - (splitN n)) (n - (splitN n)) false (sub ds 0 (k - 1)) (k - 1)).2.1)) (b := 6) (blk := dgB ((bothR kk old f (m - (splitN n)) (n - (splitN n)) false (sub ds 0 (k - 1)) (k - 1)).2.1)) (H' := [dsR ds, dgB old, dgB dz, dgB dz, dgB (ds.getD (k - 1) d0), dgB ((bothR kk old f (m - (splitN n)) (n - (splitN n)) false (sub ds 0 (k - 1)) (k - 1)).1), dgB ((bothR kk old f (m - (splitN n)) (n - (splitN n)) false (sub ds 0 (k - 1)) (k - 1)).2.1)]) rfl rfl rfl (by kernel_rfl) (by kernel_rfl) ?_
    refine r_assign (v := .bool ((bothR kk old f (m - (splitN n)) (n - (splitN n)) false (sub ds 0 (k - 1)) (k - 1)).2.2)) rfl rfl rfl ?_
    refine r_doneK (drawnTK_ok [[], [], [0, 1], [], [], [3, 4], [], [], [], [8], [7, 8, 9], [0, 1, 2, 3, 4, 5, 6, 7, 8, 9, 10], [0, 1, 2, 3, 4, 5, 6, 7, 8, 9, 10, 11], [0, 1, 2, 3, 4, 5, 6, 7, 8, 9, 10, 11, 12], [0, 1, 2, 3, 4, 5, 6, 7, 8, 9, 10, 11, 12], [0, 1, 2, 3, 4, 5, 6, 7, 8, 9, 10, 11, 12], [], [], [0, 1, 2, 3, 4, 5, 6, 7, 8, 9, 10, 11, 12, 13, 16, 17], [0, 1, 2, 3, 4, 5, 6, 7, 8, 9, 10, 11, 12, 13, 14, 16, 17, 18], [0, 1, 2, 3, 4, 5, 6, 7, 8, 9, 10, 11, 12, 13, 14, 15, 16, 17, 18, 19]] (by kernel_rfl) (by kernel_rfl)) ?_
    refine x_then (c_seq ?_)
    refine c_drawK (by kernel_rfl) ?_
    refine r_load (p := pt 4 0) (v := dgV (ds.getD (k - 1) d0)) rfl rfl rfl (by kernel_rfl) ?_
    refine r_load (p := pt 5 0) (v := dgV ((bothR kk old f (m - (splitN n)) (n - (splitN n)) false (sub ds 0 (k - 1)) (k - 1)).1)) rfl rfl rfl (by kernel_rfl) ?_
    refine r_callP (refKnot_ok' (G := G) kk hG0 (ds.getD (k - 1) d0) ((bothR kk old f (m - (splitN n)) (n - (splitN n)) false (sub ds 0 (k - 1)) (k - 1)).1)) (vals := [dgV (ds.getD (k - 1) d0), dgV ((bothR kk old f (m - (splitN n)) (n - (splitN n)) false (sub ds 0 (k - 1)) (k - 1)).1)]) (res' := dgV (knotF kk (ds.getD (k - 1) d0) ((bothR kk old f (m - (splitN n)) (n - (splitN n)) false (sub ds 0 (k - 1)) (k - 1)).1))) rfl rfl rfl rfl rfl (by kernel_rfl) ?_
    refine r_load (p := pt 4 0) (v := dgV (ds.getD (k - 1) d0)) rfl rfl rfl (by kernel_rfl) ?_
    refine r_load (p := pt 6 0) (v := dgV ((bothR kk old f (m - (splitN n)) (n - (splitN n)) false (sub ds 0 (k - 1)) (k - 1)).2.1)) rfl rfl rfl (by kernel_rfl) ?_
    refine r_callP (refKnot_ok' (G := G) kk hG0 (ds.getD (k - 1) d0) ((bothR kk old f (m - (splitN n)) (n - (splitN n)) false (sub ds 0 (k - 1)) (k - 1)).2.1)) (vals := [dgV (ds.getD (k - 1) d0), dgV ((bothR kk old f (m - (splitN n)) (n - (splitN n)) false (sub ds 0 (k - 1)) (k - 1)).2.1)]) (res' := dgV (knotF kk (ds.getD (k - 1) d0) ((bothR kk old f (m - (splitN n)) (n - (splitN n)) false (sub ds 0 (k - 1)) (k - 1)).2.1))) rfl rfl rfl rfl rfl (by kernel_rfl) ?_
    refine r_move (v := .bool ((bothR kk old f (m - (splitN n)) (n - (splitN n)) false (sub ds 0 (k - 1)) (k - 1)).2.2)) rfl rfl rfl ?_
    refine r_store (p := pt 2 0) (v := dgV (knotF kk (ds.getD (k - 1) d0) ((bothR kk old f (m - (splitN n)) (n - (splitN n)) false (sub ds 0 (k - 1)) (k - 1)).1))) (b := 2) (blk := dgB (knotF kk (ds.getD (k - 1) d0) ((bothR kk old f (m - (splitN n)) (n - (splitN n)) false (sub ds 0 (k - 1)) (k - 1)).1))) (H' := [dsR ds, dgB old, dgB (knotF kk (ds.getD (k - 1) d0) ((bothR kk old f (m - (splitN n)) (n - (splitN n)) false (sub ds 0 (k - 1)) (k - 1)).1)), dgB dz, dgB (ds.getD (k - 1) d0), dgB ((bothR kk old f (m - (splitN n)) (n - (splitN n)) false (sub ds 0 (k - 1)) (k - 1)).1), dgB ((bothR kk old f (m - (splitN n)) (n - (splitN n)) false (sub ds 0 (k - 1)) (k - 1)).2.1)]) rfl rfl rfl (by kernel_rfl) (by kernel_rfl) ?_
    refine r_store (p := pt 3 0) (v := dgV (knotF kk (ds.getD (k - 1) d0) ((bothR kk old f (m - (splitN n)) (n - (splitN n)) false (sub ds 0 (k - 1)) (k - 1)).2.1))) (b := 3) (blk := dgB (knotF kk (ds.getD (k - 1) d0) ((bothR kk old f (m - (splitN n)) (n - (splitN n)) false (sub ds 0 (k - 1)) (k - 1)).2.1))) (H' := [dsR ds, dgB old, dgB (knotF kk (ds.getD (k - 1) d0) ((bothR kk old f (m - (splitN n)) (n - (splitN n)) false (sub ds 0 (k - 1)) (k - 1)).1)), dgB (knotF kk (ds.getD (k - 1) d0) ((bothR kk old f (m - (splitN n)) (n - (splitN n)) false (sub ds 0 (k - 1)) (k - 1)).2.1)), dgB (ds.getD (k - 1) d0), dgB ((bothR kk old f (m - (splitN n)) (n - (splitN n)) false (sub ds 0 (k - 1)) (k - 1)).1), dgB ((bothR kk old f (m - (splitN n)) (n - (splitN n)) false (sub ds 0 (k - 1)) (k - 1)).2.1)]) rfl rfl rfl (by kernel_rfl) (by kernel_rfl) ?_
    refine r_assign (v := .bool ((bothR kk old f (m - (splitN n)) (n - (splitN n)) false (sub ds 0 (k - 1)) (k - 1)).2.2)) rfl rfl rfl ?_
    refine r_doneK (drawnTK_ok [[], [], [0, 1], [], [], [0, 1, 2, 3, 4], [], [0, 1, 2, 3, 4, 5], [0, 1, 2, 3, 4, 5, 7], [0, 1, 2, 3, 4, 5, 6, 7, 8]] (by kernel_rfl) (by kernel_rfl)) ?_
    refine x_then (c_ret (x_end ?_))
    rw [show bothR kk old (f + 1) m n known ds k = ((knotF kk (ds.getD (k - 1) d0) ((bothR kk old f (m - (splitN n)) (n - (splitN n)) false (sub ds 0 (k - 1)) (k - 1)).1)), (knotF kk (ds.getD (k - 1) d0) ((bothR kk old f (m - (splitN n)) (n - (splitN n)) false (sub ds 0 (k - 1)) (k - 1)).2.1)), (bothR kk old f (m - (splitN n)) (n - (splitN n)) false (sub ds 0 (k - 1)) (k - 1)).2.2) from by rw [bothR]; rw [if_neg h1, if_neg h6, if_neg h7]]
    exact end_same (v := .tuple #[dgV (knotF kk (ds.getD (k - 1) d0) ((bothR kk old f (m - (splitN n)) (n - (splitN n)) false (sub ds 0 (k - 1)) (k - 1)).1)), dgV (knotF kk (ds.getD (k - 1) d0) ((bothR kk old f (m - (splitN n)) (n - (splitN n)) false (sub ds 0 (k - 1)) (k - 1)).2.1)), .bool ((bothR kk old f (m - (splitN n)) (n - (splitN n)) false (sub ds 0 (k - 1)) (k - 1)).2.2)]) (by kernel_rfl) rfl rfl (by simp [keptB, dsR]) ⟨(argV_pure (pure_row fun _ => rfl) rfl), (argV_pure (pure_row fun _ => rfl) rfl), rfl, trivial⟩
def refGoesE (kk : Nat → BitVec 32) (m : Int) (old : D) (n : Int) (root : D) (ds : List D) (k : Nat) : Int :=
  if n < 0 then 40 else
  if 100000 < n then 40 else
  if m < 0 then 40 else
  if n < m then 40 else
  if 40 < (k : Nat) then 40 else
  if m = 0 then (if 0 < (k : Nat) then 40 else
  if sameB 32 old (shaOf kk []) = true then (if n = 0 then (if sameB 32 root old = true then 0 else
  41) else
  0) else
  41) else
  if (bothR kk old n.toNat m.toNat n.toNat true ds k).2.2 = true then (if sameB 32 ((bothR kk old n.toNat m.toNat n.toNat true ds k).1) old = true then (if sameB 32 ((bothR kk old n.toNat m.toNat n.toNat true ds k).2.1) root = true then 0 else
  41) else
  41) else
  40
theorem refConsistent_ok (kk : Nat → BitVec 32) (hG0 : G 0 = some (rowE w32 64 kk)) (m : Int) (old : D) (n : Int) (root : D) (ds : List D) (k c : Nat) (hk : ds.length = k) (hb : k ≤ 1000) (hc : k ≤ c) : CallL Tryd.prog G 39 [.int .i64 m, dgV old, .int .i64 n, dgV root, slv 0 0 k c] [dsR ds] (.int .i64 (refGoesE kk m old n root ds k)) [dsR ds] := by
  refine walk (fn := Tryd.f39) (nt := 76) rfl rfl rfl rfl ?_
  refine c_hole 4 (H' := [dsR ds, hole, hole, hole, hole]) rfl ?_
  refine c_seq (c_reg ?_)
  refine r_box (v := dgV old) (b := dgB old) (nid := 1) (H' := [dsR ds, dgB old, hole, hole, hole]) rfl rfl rfl (by kernel_rfl) (by kernel_rfl) ?_
  refine r_box (v := dgV root) (b := dgB root) (nid := 2) (H' := [dsR ds, dgB old, dgB root, hole, hole]) rfl rfl rfl (by kernel_rfl) (by kernel_rfl) ?_
  refine r_assign (v := .int .i64 0) rfl rfl rfl ?_
  refine r_doneN (x_then (c_seq (c_seq (c_reg ?_))))
  refine r_move (v := .int .i64 n) rfl rfl rfl ?_
  by_cases h1 : n < 0
  refine r_bin (v := .bool true) (vx := .int .i64 n) (vy := .int .i64 0) rfl rfl rfl rfl (lss_t (by omega)) ?_
  refine r_move (v := .bool true) rfl rfl rfl ?_
  refine r_skip rfl rfl ?_
  refine r_skip rfl rfl ?_
  refine r_pick (v := .bool true) rfl rfl rfl ?_
  refine r_move (v := .bool true) rfl rfl rfl ?_
  refine r_skip rfl rfl ?_
  refine r_skip rfl rfl ?_
  refine r_pick (v := .bool true) rfl rfl rfl ?_
  refine r_move (v := .bool true) rfl rfl rfl ?_
  refine r_skip rfl rfl ?_
  refine r_skip rfl rfl ?_
  refine r_skip rfl rfl ?_
  refine r_pick (v := .bool true) rfl rfl rfl ?_
  refine r_move (v := .bool true) rfl rfl rfl ?_
  refine r_skip rfl rfl ?_
  refine r_skip rfl rfl ?_
  refine r_skip rfl rfl ?_
  refine r_pick (v := .bool true) rfl rfl rfl ?_
  refine r_move (v := .bool true) rfl rfl rfl ?_
  refine r_skip rfl rfl ?_
  refine r_skip rfl rfl ?_
  refine r_skip rfl rfl ?_
  refine r_skip rfl rfl ?_
  refine r_skip rfl rfl ?_
  refine r_skip rfl rfl ?_
  refine r_skip rfl rfl ?_
  refine r_pick (v := .bool true) rfl rfl rfl ?_
  refine r_doneN (x_then ?_)
  refine c_true rfl ?_
  refine c_seq (c_reg ?_)
  refine r_assign (v := .int .i64 40) rfl rfl rfl ?_
  refine r_doneN (x_then (c_ret (x_thenR (x_end ?_))))
  rw [show refGoesE kk m old n root ds k = 40 from by unfold refGoesE; rw [if_pos h1]]
  exact end_same (v := .int .i64 40) rfl rfl rfl (by simp [keptB, dsR]) rfl
  refine r_bin (v := .bool false) (vx := .int .i64 n) (vy := .int .i64 0) rfl rfl rfl rfl (lss_f (by omega)) ?_
  refine r_move (v := .bool false) rfl rfl rfl ?_
  refine r_move (v := .int .i64 n) rfl rfl rfl ?_
  by_cases h2 : 100000 < n
  refine r_bin (v := .bool true) (vx := .int .i64 n) (vy := .int .i64 100000) rfl rfl rfl rfl (gtr_t (by omega)) ?_
  refine r_pick (v := .bool true) rfl rfl rfl ?_
  refine r_move (v := .bool true) rfl rfl rfl ?_
  refine r_skip rfl rfl ?_
  refine r_skip rfl rfl ?_
  refine r_pick (v := .bool true) rfl rfl rfl ?_
  refine r_move (v := .bool true) rfl rfl rfl ?_
  refine r_skip rfl rfl ?_
  refine r_skip rfl rfl ?_
  refine r_skip rfl rfl ?_
  refine r_pick (v := .bool true) rfl rfl rfl ?_
  refine r_move (v := .bool true) rfl rfl rfl ?_
  refine r_skip rfl rfl ?_
  refine r_skip rfl rfl ?_
  refine r_skip rfl rfl ?_
  refine r_pick (v := .bool true) rfl rfl rfl ?_
  refine r_move (v := .bool true) rfl rfl rfl ?_
  refine r_skip rfl rfl ?_
  refine r_skip rfl rfl ?_
  refine r_skip rfl rfl ?_
  refine r_skip rfl rfl ?_
  refine r_skip rfl rfl ?_
  refine r_skip rfl rfl ?_
  refine r_skip rfl rfl ?_
  refine r_pick (v := .bool true) rfl rfl rfl ?_
  refine r_doneN (x_then ?_)
  refine c_true rfl ?_
  refine c_seq (c_reg ?_)
  refine r_assign (v := .int .i64 40) rfl rfl rfl ?_
  refine r_doneN (x_then (c_ret (x_thenR (x_end ?_))))
  rw [show refGoesE kk m old n root ds k = 40 from by unfold refGoesE; rw [if_neg h1, if_pos h2]]
  exact end_same (v := .int .i64 40) rfl rfl rfl (by simp [keptB, dsR]) rfl
  refine r_bin (v := .bool false) (vx := .int .i64 n) (vy := .int .i64 100000) rfl rfl rfl rfl (gtr_f (by omega)) ?_
  refine r_pick (v := .bool false) rfl rfl rfl ?_
  refine r_move (v := .bool false) rfl rfl rfl ?_
  refine r_move (v := .int .i64 m) rfl rfl rfl ?_
  by_cases h3 : m < 0
  refine r_bin (v := .bool true) (vx := .int .i64 m) (vy := .int .i64 0) rfl rfl rfl rfl (lss_t (by omega)) ?_
  refine r_pick (v := .bool true) rfl rfl rfl ?_
  refine r_move (v := .bool true) rfl rfl rfl ?_
  refine r_skip rfl rfl ?_
  refine r_skip rfl rfl ?_
  refine r_skip rfl rfl ?_
  refine r_pick (v := .bool true) rfl rfl rfl ?_
  refine r_move (v := .bool true) rfl rfl rfl ?_
  refine r_skip rfl rfl ?_
  refine r_skip rfl rfl ?_
  refine r_skip rfl rfl ?_
  refine r_pick (v := .bool true) rfl rfl rfl ?_
  refine r_move (v := .bool true) rfl rfl rfl ?_
  refine r_skip rfl rfl ?_
  refine r_skip rfl rfl ?_
  refine r_skip rfl rfl ?_
  refine r_skip rfl rfl ?_
  refine r_skip rfl rfl ?_
  refine r_skip rfl rfl ?_
  refine r_skip rfl rfl ?_
  refine r_pick (v := .bool true) rfl rfl rfl ?_
  refine r_doneN (x_then ?_)
  refine c_true rfl ?_
  refine c_seq (c_reg ?_)
  refine r_assign (v := .int .i64 40) rfl rfl rfl ?_
  refine r_doneN (x_then (c_ret (x_thenR (x_end ?_))))
  rw [show refGoesE kk m old n root ds k = 40 from by unfold refGoesE; rw [if_neg h1, if_neg h2, if_pos h3]]
  exact end_same (v := .int .i64 40) rfl rfl rfl (by simp [keptB, dsR]) rfl
  refine r_bin (v := .bool false) (vx := .int .i64 m) (vy := .int .i64 0) rfl rfl rfl rfl (lss_f (by omega)) ?_
  refine r_pick (v := .bool false) rfl rfl rfl ?_
  refine r_move (v := .bool false) rfl rfl rfl ?_
  refine r_move (v := .int .i64 m) rfl rfl rfl ?_
  refine r_move (v := .int .i64 n) rfl rfl rfl ?_
  by_cases h4 : n < m
  refine r_bin (v := .bool true) (vx := .int .i64 m) (vy := .int .i64 n) rfl rfl rfl rfl (gtr_t (by omega)) ?_
  refine r_pick (v := .bool true) rfl rfl rfl ?_
  refine r_move (v := .bool true) rfl rfl rfl ?_
  refine r_skip rfl rfl ?_
  refine r_skip rfl rfl ?_
  refine r_skip rfl rfl ?_
  refine r_pick (v := .bool true) rfl rfl rfl ?_
  refine r_move (v := .bool true) rfl rfl rfl ?_
  refine r_skip rfl rfl ?_
  refine r_skip rfl rfl ?_
  refine r_skip rfl rfl ?_
  refine r_skip rfl rfl ?_
  refine r_skip rfl rfl ?_
  refine r_skip rfl rfl ?_
  refine r_skip rfl rfl ?_
  refine r_pick (v := .bool true) rfl rfl rfl ?_
  refine r_doneN (x_then ?_)
  refine c_true rfl ?_
  refine c_seq (c_reg ?_)
  refine r_assign (v := .int .i64 40) rfl rfl rfl ?_
  refine r_doneN (x_then (c_ret (x_thenR (x_end ?_))))
  rw [show refGoesE kk m old n root ds k = 40 from by unfold refGoesE; rw [if_neg h1, if_neg h2, if_neg h3, if_pos h4]]
  exact end_same (v := .int .i64 40) rfl rfl rfl (by simp [keptB, dsR]) rfl
  refine r_bin (v := .bool false) (vx := .int .i64 m) (vy := .int .i64 n) rfl rfl rfl rfl (gtr_f (by omega)) ?_
  refine r_pick (v := .bool false) rfl rfl rfl ?_
  refine r_move (v := .bool false) rfl rfl rfl ?_
  refine r_move (v := slv 0 0 k c) rfl rfl rfl ?_
  refine r_len (p := slv 0 0 k c) (v := .int .i64 (k : Nat)) rfl rfl rfl rfl ?_
  by_cases h5 : 40 < (k : Nat)
  refine r_bin (v := .bool true) (vx := .int .i64 (k : Nat)) (vy := .int .i64 40) rfl rfl rfl rfl (gtr_t (by omega)) ?_
  refine r_pick (v := .bool true) rfl rfl rfl ?_
  refine r_move (v := .bool true) rfl rfl rfl ?_
  refine r_skip rfl rfl ?_
  refine r_skip rfl rfl ?_
  refine r_skip rfl rfl ?_
  refine r_skip rfl rfl ?_
  refine r_skip rfl rfl ?_
  refine r_skip rfl rfl ?_
  refine r_skip rfl rfl ?_
  refine r_pick (v := .bool true) rfl rfl rfl ?_
  refine r_doneN (x_then ?_)
  refine c_true rfl ?_
  refine c_seq (c_reg ?_)
  refine r_assign (v := .int .i64 40) rfl rfl rfl ?_
  refine r_doneN (x_then (c_ret (x_thenR (x_end ?_))))
  rw [show refGoesE kk m old n root ds k = 40 from by unfold refGoesE; rw [if_neg h1, if_neg h2, if_neg h3, if_neg h4, if_pos h5]]
  exact end_same (v := .int .i64 40) rfl rfl rfl (by simp [keptB, dsR]) rfl
  refine r_bin (v := .bool false) (vx := .int .i64 (k : Nat)) (vy := .int .i64 40) rfl rfl rfl rfl (gtr_f (by omega)) ?_
  refine r_pick (v := .bool false) rfl rfl rfl ?_
  refine r_move (v := .bool false) rfl rfl rfl ?_
  refine r_move (v := .int .i64 m) rfl rfl rfl ?_
  by_cases h6 : m = 0
  refine r_bin (v := .bool true) (vx := .int .i64 m) (vy := .int .i64 0) rfl rfl rfl rfl (eql_t (by omega)) ?_
  refine r_move (v := .bool true) rfl rfl rfl ?_
  refine r_move (v := slv 0 0 k c) rfl rfl rfl ?_
  refine r_len (p := slv 0 0 k c) (v := .int .i64 (k : Nat)) rfl rfl rfl rfl ?_
  by_cases h7 : 0 < (k : Nat)
  refine r_bin (v := .bool true) (vx := .int .i64 (k : Nat)) (vy := .int .i64 0) rfl rfl rfl rfl (gtr_t (by omega)) ?_
  refine r_pick (v := .bool true) rfl rfl rfl ?_
  refine r_pick (v := .bool true) rfl rfl rfl ?_
  refine r_doneN (x_then ?_)
  refine c_true rfl ?_
  refine c_seq (c_reg ?_)
  refine r_assign (v := .int .i64 40) rfl rfl rfl ?_
  refine r_doneN (x_then (c_ret (x_thenR (x_end ?_))))
  rw [show refGoesE kk m old n root ds k = 40 from by unfold refGoesE; rw [if_neg h1, if_neg h2, if_neg h3, if_neg h4, if_neg h5, if_pos h6, if_pos h7]]
  exact end_same (v := .int .i64 40) rfl rfl rfl (by simp [keptB, dsR]) rfl
  refine r_bin (v := .bool false) (vx := .int .i64 (k : Nat)) (vy := .int .i64 0) rfl rfl rfl rfl (gtr_f (by omega)) ?_
  refine r_pick (v := .bool false) rfl rfl rfl ?_
  refine r_pick (v := .bool false) rfl rfl rfl ?_
  refine r_doneN (x_then ?_)
  refine c_false rfl ?_
  refine c_skip (x_then (c_seq (c_seq (c_reg ?_))))
  refine r_move (v := .int .i64 m) rfl rfl rfl ?_
  refine r_bin (v := .bool true) (vx := .int .i64 m) (vy := .int .i64 0) rfl rfl rfl rfl (eql_t (by omega)) ?_
  refine r_doneN (x_then ?_)
  refine c_true rfl ?_
  refine c_seq (c_seq ?_)
  refine c_drawK (by kernel_rfl) ?_
  refine r_load (p := pt 1 0) (v := dgV old) rfl rfl rfl (by kernel_rfl) ?_
  refine r_callP (refSumE_ok (G := G) kk hG0) (vals := [.string ⟨#[]⟩]) (res' := dgV (shaOf kk [])) rfl rfl rfl rfl rfl (by kernel_rfl) ?_
  rcases Bool.eq_false_or_eq_true (sameB 32 old (shaOf kk [])) with h8 | h8
  refine r_bin (v := .bool false) (vx := dgV old) (vy := dgV (shaOf kk [])) rfl rfl rfl rfl (Eq.trans (neq_dg (n := 32) (a := old) (b := (shaOf kk [])) (by kernel_rfl) rfl rfl rfl) (by rw [h8] <;> rfl)) ?_
  refine r_move (v := .bool false) rfl rfl rfl ?_
  refine r_move (v := .int .i64 n) rfl rfl rfl ?_
  by_cases h9 : n = 0
  refine r_bin (v := .bool true) (vx := .int .i64 n) (vy := .int .i64 0) rfl rfl rfl rfl (eql_t (by omega)) ?_
  refine r_move (v := .bool true) rfl rfl rfl ?_
  refine r_load (p := pt 2 0) (v := dgV root) rfl rfl rfl (by kernel_rfl) ?_
  refine r_load (p := pt 1 0) (v := dgV old) rfl rfl rfl (by kernel_rfl) ?_
  rcases Bool.eq_false_or_eq_true (sameB 32 root old) with h10 | h10
  refine r_bin (v := .bool false) (vx := dgV root) (vy := dgV old) rfl rfl rfl rfl (Eq.trans (neq_dg (n := 32) (a := root) (b := old) (by kernel_rfl) rfl rfl rfl) (by rw [h10] <;> rfl)) ?_
  refine r_pick (v := .bool false) rfl rfl rfl ?_
  refine r_pick (v := .bool false) rfl rfl rfl ?_
  refine r_doneK (drawnTK_ok [[], [], [0, 1], [0, 1, 2], [0, 1, 2, 3], [0, 1, 2, 3, 4], [0, 1, 2, 3, 4, 5], [0, 1, 2, 3, 4, 5, 6], [0, 1, 2, 3, 4, 5, 6], [0, 1, 2, 3, 4, 5, 6, 7, 8], [0, 1, 2, 3, 4, 5, 6, 7, 8, 9], [0, 1, 2, 3, 4, 5, 6, 7, 8, 9, 10]] (by kernel_rfl) (by kernel_rfl)) ?_
  refine x_then ?_
  refine c_false rfl ?_
  refine c_skip (x_then (c_seq (c_reg ?_)))
  refine r_assign (v := .int .i64 0) rfl rfl rfl ?_
  refine r_doneN (x_then (c_ret (x_thenR (x_end ?_))))
  rw [show refGoesE kk m old n root ds k = 0 from by unfold refGoesE; rw [if_neg h1, if_neg h2, if_neg h3, if_neg h4, if_neg h5, if_pos h6, if_neg h7, if_pos h8, if_pos h9, if_pos h10]]
  exact end_same (v := .int .i64 0) rfl rfl rfl (by simp [keptB, dsR]) rfl
  refine r_bin (v := .bool true) (vx := dgV root) (vy := dgV old) rfl rfl rfl rfl (Eq.trans (neq_dg (n := 32) (a := root) (b := old) (by kernel_rfl) rfl rfl rfl) (by rw [h10] <;> rfl)) ?_
  refine r_pick (v := .bool true) rfl rfl rfl ?_
  refine r_pick (v := .bool true) rfl rfl rfl ?_
  refine r_doneK (drawnTK_ok [[], [], [0, 1], [0, 1, 2], [0, 1, 2, 3], [0, 1, 2, 3, 4], [0, 1, 2, 3, 4, 5], [0, 1, 2, 3, 4, 5, 6], [0, 1, 2, 3, 4, 5, 6], [0, 1, 2, 3, 4, 5, 6, 7, 8], [0, 1, 2, 3, 4, 5, 6, 7, 8, 9], [0, 1, 2, 3, 4, 5, 6, 7, 8, 9, 10]] (by kernel_rfl) (by kernel_rfl)) ?_
  refine x_then ?_
  refine c_true rfl ?_
  refine c_seq (c_reg ?_)
  refine r_assign (v := .int .i64 41) rfl rfl rfl ?_
  refine r_doneN (x_then (c_ret (x_thenR (x_thenR (x_end ?_)))))
  rw [show refGoesE kk m old n root ds k = 41 from by unfold refGoesE; rw [if_neg h1, if_neg h2, if_neg h3, if_neg h4, if_neg h5, if_pos h6, if_neg h7, if_pos h8, if_pos h9, if_neg (by rw [h10]; decide)]]
  exact end_same (v := .int .i64 41) rfl rfl rfl (by simp [keptB, dsR]) rfl
  refine r_bin (v := .bool false) (vx := .int .i64 n) (vy := .int .i64 0) rfl rfl rfl rfl (eql_f (by omega)) ?_
  refine r_move (v := .bool false) rfl rfl rfl ?_
  refine r_skip rfl rfl ?_
  refine r_skip rfl rfl ?_
  refine r_skip rfl rfl ?_
  refine r_pick (v := .bool false) rfl rfl rfl ?_
  refine r_pick (v := .bool false) rfl rfl rfl ?_
  refine r_doneK (drawnTK_ok [[], [], [0, 1], [0, 1, 2], [0, 1, 2, 3], [0, 1, 2, 3, 4], [0, 1, 2, 3, 4, 5], [0, 1, 2, 3, 4, 5, 6], [0, 1, 2, 3, 4, 5, 6], [0, 1, 2, 3, 4, 5, 6, 7, 8], [0, 1, 2, 3, 4, 5, 6, 7, 8, 9], [0, 1, 2, 3, 4, 5, 6, 7, 8, 9, 10]] (by kernel_rfl) (by kernel_rfl)) ?_
  refine x_then ?_
  refine c_false rfl ?_
  refine c_skip (x_then (c_seq (c_reg ?_)))
  refine r_assign (v := .int .i64 0) rfl rfl rfl ?_
  refine r_doneN (x_then (c_ret (x_thenR (x_end ?_))))
  rw [show refGoesE kk m old n root ds k = 0 from by unfold refGoesE; rw [if_neg h1, if_neg h2, if_neg h3, if_neg h4, if_neg h5, if_pos h6, if_neg h7, if_pos h8, if_neg h9]]
  exact end_same (v := .int .i64 0) rfl rfl rfl (by simp [keptB, dsR]) rfl
  refine r_bin (v := .bool true) (vx := dgV old) (vy := dgV (shaOf kk [])) rfl rfl rfl rfl (Eq.trans (neq_dg (n := 32) (a := old) (b := (shaOf kk [])) (by kernel_rfl) rfl rfl rfl) (by rw [h8] <;> rfl)) ?_
  refine r_move (v := .bool true) rfl rfl rfl ?_
  refine r_skip rfl rfl ?_
  refine r_skip rfl rfl ?_
  refine r_skip rfl rfl ?_
  refine r_skip rfl rfl ?_
  refine r_skip rfl rfl ?_
  refine r_skip rfl rfl ?_
  refine r_skip rfl rfl ?_
  refine r_pick (v := .bool true) rfl rfl rfl ?_
  refine r_doneK (drawnTK_ok [[], [], [0, 1], [0, 1, 2], [0, 1, 2, 3], [0, 1, 2, 3, 4], [0, 1, 2, 3, 4, 5], [0, 1, 2, 3, 4, 5, 6], [0, 1, 2, 3, 4, 5, 6], [0, 1, 2, 3, 4, 5, 6, 7, 8], [0, 1, 2, 3, 4, 5, 6, 7, 8, 9], [0, 1, 2, 3, 4, 5, 6, 7, 8, 9, 10]] (by kernel_rfl) (by kernel_rfl)) ?_
  refine x_then ?_
  refine c_true rfl ?_
  refine c_seq (c_reg ?_)
  refine r_assign (v := .int .i64 41) rfl rfl rfl ?_
  refine r_doneN (x_then (c_ret (x_thenR (x_thenR (x_end ?_)))))
  rw [show refGoesE kk m old n root ds k = 41 from by unfold refGoesE; rw [if_neg h1, if_neg h2, if_neg h3, if_neg h4, if_neg h5, if_pos h6, if_neg h7, if_neg (by rw [h8]; decide)]]
  exact end_same (v := .int .i64 41) rfl rfl rfl (by simp [keptB, dsR]) rfl
  refine r_bin (v := .bool false) (vx := .int .i64 m) (vy := .int .i64 0) rfl rfl rfl rfl (eql_f (by omega)) ?_
  refine r_move (v := .bool false) rfl rfl rfl ?_
  refine r_skip rfl rfl ?_
  refine r_skip rfl rfl ?_
  refine r_skip rfl rfl ?_
  refine r_pick (v := .bool false) rfl rfl rfl ?_
  refine r_pick (v := .bool false) rfl rfl rfl ?_
  refine r_doneN (x_then ?_)
  refine c_false rfl ?_
  refine c_skip (x_then (c_seq (c_seq (c_reg ?_))))
  refine r_move (v := .int .i64 m) rfl rfl rfl ?_
  refine r_bin (v := .bool false) (vx := .int .i64 m) (vy := .int .i64 0) rfl rfl rfl rfl (eql_f (by omega)) ?_
  refine r_doneN (x_then ?_)
  refine c_false rfl ?_
  refine c_skip (x_then (c_seq (c_reg ?_)))
  refine r_move (v := .int .i64 m) rfl rfl rfl ?_
  refine r_move (v := .int .i64 n) rfl rfl rfl ?_
  refine r_load (p := pt 1 0) (v := dgV old) rfl rfl rfl (by kernel_rfl) ?_
  refine r_move (v := slv 0 0 k c) rfl rfl rfl ?_
  refine r_callN (e := [some (0, 0)]) (nid := 0) (refBoth_ok (G := G) kk hG0 old n.toNat m.toNat n.toNat true ds k c hk (by omega) (by omega) (by omega) (by omega) (by omega) (by omega)) (vals := [.int .i64 m, .int .i64 n, dgV old, .bool true, slv 0 0 k c]) (v := .tuple #[dgV ((bothR kk old n.toNat m.toNat n.toNat true ds k).1), dgV ((bothR kk old n.toNat m.toNat n.toNat true ds k).2.1), .bool ((bothR kk old n.toNat m.toNat n.toNat true ds k).2.2)]) (H' := [dsR ds, dgB old, dgB root, hole, hole]) rfl rfl rfl rfl rfl rfl rfl ⟨⟨(congrArg (Value.int .i64) (by omega)), (congrArg (Value.int .i64) (by omega)), rfl, rfl, ⟨rfl, rfl, rfl, by first | omega | exact Nat.le_refl _, by first | omega | exact Nat.le_refl _⟩, trivial⟩, ⟨(emb_dsR rfl), trivial⟩, rfl, rfl, rfl⟩ (by kernel_rfl) (by kernel_rfl) ?_
  refine r_move (v := .tuple #[dgV ((bothR kk old n.toNat m.toNat n.toNat true ds k).1), dgV ((bothR kk old n.toNat m.toNat n.toNat true ds k).2.1), .bool ((bothR kk old n.toNat m.toNat n.toNat true ds k).2.2)]) rfl rfl rfl ?_
  refine r_extract (vs := #[dgV ((bothR kk old n.toNat m.toNat n.toNat true ds k).1), dgV ((bothR kk old n.toNat m.toNat n.toNat true ds k).2.1), .bool ((bothR kk old n.toNat m.toNat n.toNat true ds k).2.2)]) (v := dgV ((bothR kk old n.toNat m.toNat n.toNat true ds k).1)) rfl rfl rfl rfl ?_
  refine r_extract (vs := #[dgV ((bothR kk old n.toNat m.toNat n.toNat true ds k).1), dgV ((bothR kk old n.toNat m.toNat n.toNat true ds k).2.1), .bool ((bothR kk old n.toNat m.toNat n.toNat true ds k).2.2)]) (v := dgV ((bothR kk old n.toNat m.toNat n.toNat true ds k).2.1)) rfl rfl rfl rfl ?_
  refine r_extract (vs := #[dgV ((bothR kk old n.toNat m.toNat n.toNat true ds k).1), dgV ((bothR kk old n.toNat m.toNat n.toNat true ds k).2.1), .bool ((bothR kk old n.toNat m.toNat n.toNat true ds k).2.2)]) (v := .bool ((bothR kk old n.toNat m.toNat n.toNat true ds k).2.2)) rfl rfl rfl rfl ?_
  refine r_alloc (b := dgB dz) (nid := 3) (H' := [dsR ds, dgB old, dgB root, dgB dz, hole]) rfl rfl (by kernel_rfl) (by kernel_rfl) ?_
  refine r_alloc (b := dgB dz) (nid := 4) (H' := [dsR ds, dgB old, dgB root, dgB dz, dgB dz]) rfl rfl (by kernel_rfl) (by kernel_rfl) ?_
  refine r_store (p := pt 3 0) (v := dgV ((bothR kk old n.toNat m.toNat n.toNat true ds k).1)) (b := 3) (blk := dgB ((bothR kk old n.toNat m.toNat n.toNat true ds k).1)) (H' := [dsR ds, dgB old, dgB root, dgB ((bothR kk old n.toNat m.toNat n.toNat true ds k).1), dgB dz]) rfl rfl rfl (by kernel_rfl) (by kernel_rfl) ?_
  refine r_store (p := pt 4 0) (v := dgV ((bothR kk old n.toNat m.toNat n.toNat true ds k).2.1)) (b := 4) (blk := dgB ((bothR kk old n.toNat m.toNat n.toNat true ds k).2.1)) (H' := [dsR ds, dgB old, dgB root, dgB ((bothR kk old n.toNat m.toNat n.toNat true ds k).1), dgB ((bothR kk old n.toNat m.toNat n.toNat true ds k).2.1)]) rfl rfl rfl (by kernel_rfl) (by kernel_rfl) ?_
  refine r_assign (v := .bool ((bothR kk old n.toNat m.toNat n.toNat true ds k).2.2)) rfl rfl rfl ?_
  refine r_doneN (x_then (c_seq (c_seq (c_reg ?_))))
  refine r_move (v := .bool ((bothR kk old n.toNat m.toNat n.toNat true ds k).2.2)) rfl rfl rfl ?_
  rcases Bool.eq_false_or_eq_true ((bothR kk old n.toNat m.toNat n.toNat true ds k).2.2) with h11 | h11
  refine r_un (v := .bool false) (vx := .bool ((bothR kk old n.toNat m.toNat n.toNat true ds k).2.2)) rfl rfl rfl (Eq.trans un_not (congrArg (fun b => some (Value.bool !b)) h11)) ?_
  refine r_doneN (x_then ?_)
  refine c_false rfl ?_
  refine c_skip (x_then (c_seq (c_seq (c_reg ?_))))
  refine r_load (p := pt 3 0) (v := dgV ((bothR kk old n.toNat m.toNat n.toNat true ds k).1)) rfl rfl rfl (by kernel_rfl) ?_
  refine r_load (p := pt 1 0) (v := dgV old) rfl rfl rfl (by kernel_rfl) ?_
  rcases Bool.eq_false_or_eq_true (sameB 32 ((bothR kk old n.toNat m.toNat n.toNat true ds k).1) old) with h12 | h12
  refine r_bin (v := .bool false) (vx := dgV ((bothR kk old n.toNat m.toNat n.toNat true ds k).1)) (vy := dgV old) rfl rfl rfl rfl (Eq.trans (neq_dg (n := 32) (a := (bothR kk old n.toNat m.toNat n.toNat true ds k).1) (b := old) (by kernel_rfl) rfl rfl rfl) (by rw [h12] <;> rfl)) ?_
  refine r_move (v := .bool false) rfl rfl rfl ?_
  refine r_load (p := pt 4 0) (v := dgV ((bothR kk old n.toNat m.toNat n.toNat true ds k).2.1)) rfl rfl rfl (by kernel_rfl) ?_
  refine r_load (p := pt 2 0) (v := dgV root) rfl rfl rfl (by kernel_rfl) ?_
  rcases Bool.eq_false_or_eq_true (sameB 32 ((bothR kk old n.toNat m.toNat n.toNat true ds k).2.1) root) with h13 | h13
  refine r_bin (v := .bool false) (vx := dgV ((bothR kk old n.toNat m.toNat n.toNat true ds k).2.1)) (vy := dgV root) rfl rfl rfl rfl (Eq.trans (neq_dg (n := 32) (a := (bothR kk old n.toNat m.toNat n.toNat true ds k).2.1) (b := root) (by kernel_rfl) rfl rfl rfl) (by rw [h13] <;> rfl)) ?_
  refine r_pick (v := .bool false) rfl rfl rfl ?_
  refine r_doneN (x_then ?_)
  refine c_false rfl ?_
  refine c_skip (x_then (c_seq (c_reg ?_)))
  refine r_assign (v := .int .i64 0) rfl rfl rfl ?_
  refine r_doneN (x_then (c_ret (x_end ?_)))
  rw [show refGoesE kk m old n root ds k = 0 from by unfold refGoesE; rw [if_neg h1, if_neg h2, if_neg h3, if_neg h4, if_neg h5, if_neg h6, if_pos h11, if_pos h12, if_pos h13]]
  exact end_same (v := .int .i64 0) rfl rfl rfl (by simp [keptB, dsR]) rfl
  refine r_bin (v := .bool true) (vx := dgV ((bothR kk old n.toNat m.toNat n.toNat true ds k).2.1)) (vy := dgV root) rfl rfl rfl rfl (Eq.trans (neq_dg (n := 32) (a := (bothR kk old n.toNat m.toNat n.toNat true ds k).2.1) (b := root) (by kernel_rfl) rfl rfl rfl) (by rw [h13] <;> rfl)) ?_
  refine r_pick (v := .bool true) rfl rfl rfl ?_
  refine r_doneN (x_then ?_)
  refine c_true rfl ?_
  refine c_seq (c_reg ?_)
  refine r_assign (v := .int .i64 41) rfl rfl rfl ?_
  refine r_doneN (x_then (c_ret (x_thenR (x_end ?_))))
  rw [show refGoesE kk m old n root ds k = 41 from by unfold refGoesE; rw [if_neg h1, if_neg h2, if_neg h3, if_neg h4, if_neg h5, if_neg h6, if_pos h11, if_pos h12, if_neg (by rw [h13]; decide)]]
  exact end_same (v := .int .i64 41) rfl rfl rfl (by simp [keptB, dsR]) rfl
  refine r_bin (v := .bool true) (vx := dgV ((bothR kk old n.toNat m.toNat n.toNat true ds k).1)) (vy := dgV old) rfl rfl rfl rfl (Eq.trans (neq_dg (n := 32) (a := (bothR kk old n.toNat m.toNat n.toNat true ds k).1) (b := old) (by kernel_rfl) rfl rfl rfl) (by rw [h12] <;> rfl)) ?_
  refine r_move (v := .bool true) rfl rfl rfl ?_
  refine r_skip rfl rfl ?_
  refine r_skip rfl rfl ?_
  refine r_skip rfl rfl ?_
  refine r_pick (v := .bool true) rfl rfl rfl ?_
  refine r_doneN (x_then ?_)
  refine c_true rfl ?_
  refine c_seq (c_reg ?_)
  refine r_assign (v := .int .i64 41) rfl rfl rfl ?_
  refine r_doneN (x_then (c_ret (x_thenR (x_end ?_))))
  rw [show refGoesE kk m old n root ds k = 41 from by unfold refGoesE; rw [if_neg h1, if_neg h2, if_neg h3, if_neg h4, if_neg h5, if_neg h6, if_pos h11, if_neg (by rw [h12]; decide)]]
  exact end_same (v := .int .i64 41) rfl rfl rfl (by simp [keptB, dsR]) rfl
  refine r_un (v := .bool true) (vx := .bool ((bothR kk old n.toNat m.toNat n.toNat true ds k).2.2)) rfl rfl rfl (Eq.trans un_not (congrArg (fun b => some (Value.bool !b)) h11)) ?_
  refine r_doneN (x_then ?_)
  refine c_true rfl ?_
  refine c_seq (c_reg ?_)
  refine r_assign (v := .int .i64 40) rfl rfl rfl ?_
  refine r_doneN (x_then (c_ret (x_thenR (x_end ?_))))
  rw [show refGoesE kk m old n root ds k = 40 from by unfold refGoesE; rw [if_neg h1, if_neg h2, if_neg h3, if_neg h4, if_neg h5, if_neg h6, if_neg (by rw [h11]; decide)]]
  exact end_same (v := .int .i64 40) rfl rfl rfl (by simp [keptB, dsR]) rfl
theorem sub_last {ds : List D} {k : Nat} (h : ds.length = k) (h0 : k ≠ 0) : ds.take (ds.length - 1) = sub ds 0 (k - 1) ∧ (sub ds 0 (k - 1)).length = k - 1 := by
  rw [h]; exact ⟨(sub_eqt ds (k - 1)).symm, sub_len (by omega)⟩
theorem both_eq (kk : Nat → BitVec 32) (old : D) : ∀ (f m n : Nat) (kn : Bool) (ds : List D) (k : Nat), ds.length = k → n ≤ f → 1 ≤ m → m ≤ n →
    (∀ p, bothF kk old m n kn ds = some p → bothR kk old f m n kn ds k = (p.1, p.2, true)) ∧ (bothF kk old m n kn ds = none → (bothR kk old f m n kn ds k).2.2 = false)
  | 0, m, n, kn, ds, k, hk, hf, h1, hm => by omega
  | f + 1, m, n, kn, ds, k, hk, hf, h1, hm => by
    rcases Nat.lt_or_ge m n with hlt | hge
    · have hne : ¬ m = n := by omega
      rw [bothR, if_neg hne]
      by_cases h0 : k = 0
      · rw [if_pos h0, bothF_nil kk old m n kn (by omega) (by omega)]
        exact ⟨fun p hp => (by cases hp), fun _ => rfl⟩
      · rw [if_neg h0]
        obtain ⟨p1, p2⟩ := splitN_pos (n := n) (by omega)
        obtain ⟨t1, t2⟩ := sub_last hk h0
        have hg : ds.getD (ds.length - 1) d0 = ds.getD (k - 1) d0 := by rw [hk]
        by_cases hs : m ≤ splitN n
        · rw [if_pos (by omega), bothF_lo kk old kn hlt h1 (by omega) hs, t1, hg]
          obtain ⟨i1, i2⟩ := both_eq kk old f m (splitN n) kn (sub ds 0 (k - 1)) (k - 1) t2 (by omega) h1 hs
          refine ⟨fun p hp => ?_, fun hp => ?_⟩
          · obtain ⟨q, h3, rfl⟩ := Option.map_eq_some_iff.1 hp
            rw [i1 q h3]
          · exact i2 (Option.map_eq_none_iff.1 hp)
        · rw [if_neg (by omega), bothF_hi kk old kn hlt h1 (by omega) (by omega), t1, hg]
          obtain ⟨i1, i2⟩ := both_eq kk old f (m - splitN n) (n - splitN n) false (sub ds 0 (k - 1)) (k - 1) t2 (by omega) (by omega) (by omega)
          refine ⟨fun p hp => ?_, fun hp => ?_⟩
          · obtain ⟨q, h3, rfl⟩ := Option.map_eq_some_iff.1 hp
            rw [i1 q h3]
          · exact i2 (Option.map_eq_none_iff.1 hp)
    · obtain rfl : m = n := by omega
      rw [bothR, if_pos rfl]
      cases kn with
      | true =>
        rw [if_pos rfl, bothF_self, hk]
        by_cases h0 : k = 0
        · rw [if_pos h0, if_pos h0]
          exact ⟨fun p hp => (by injection hp with hp; subst hp; rfl), fun hp => (by cases hp)⟩
        · rw [if_neg h0, if_neg h0]
          exact ⟨fun p hp => (by cases hp), fun _ => rfl⟩
      | false =>
        rw [if_neg (by decide)]
        by_cases h0 : k = 0
        · rw [if_pos h0, bothF_nil kk old m m false (by simp) (by omega)]
          exact ⟨fun p hp => (by cases hp), fun _ => rfl⟩
        · rw [if_neg h0, bothF_end kk old m (by omega), hk]
          by_cases h2 : k = 1
          · rw [if_pos h2, if_pos h2]
            exact ⟨fun p hp => (by injection hp with hp; subst hp; rfl), fun hp => (by cases hp)⟩
          · rw [if_neg h2, if_neg h2]
            exact ⟨fun p hp => (by cases hp), fun _ => rfl⟩
theorem split_half {n t : Nat} (h2 : 2 ≤ n) (h : n ≤ 2 ^ (t + 1)) : splitN n ≤ 2 ^ t ∧ n - splitN n ≤ 2 ^ t := by
  have e := splitN_eq h2
  have h1 := Nat.log2_self_le (n := n - 1) (by omega)
  have h3 := Nat.lt_log2_self (n := n - 1)
  rw [Nat.pow_succ, ← e] at h3
  rw [← e] at h1
  have hk : splitN n ≤ 2 ^ t := by
    rw [e]
    refine Nat.pow_le_pow_right (by decide) ?_
    have : 2 ^ (n - 1).log2 < 2 ^ (t + 1) := by rw [← e]; omega
    have := (Nat.pow_lt_pow_iff_right (a := 2) (by decide)).1 this
    omega
  exact ⟨hk, by omega⟩
theorem bothF_len (kk : Nat → BitVec 32) (old : D) : ∀ (t m n : Nat) (kn : Bool) (ds : List D) (p : D × D), 1 ≤ m → m ≤ n → n ≤ 2 ^ t → bothF kk old m n kn ds = some p → ds.length ≤ t + 1
  | t, m, n, kn, ds, p, h1, hm, ht, hp => by
    rcases Nat.lt_or_ge m n with hlt | hge
    · by_cases h0 : ds.length = 0
      · omega
      · cases t with
        | zero => omega
        | succ t =>
          obtain ⟨s1, s2⟩ := split_half (n := n) (by omega) ht
          have hl : (ds.take (ds.length - 1)).length = ds.length - 1 := by simp
          obtain ⟨p1, p2⟩ := splitN_pos (n := n) (by omega)
          by_cases hs : m ≤ splitN n
          · rw [bothF_lo kk old kn hlt h1 h0 hs] at hp
            obtain ⟨q, h3, rfl⟩ := Option.map_eq_some_iff.1 hp
            have := bothF_len kk old t _ _ _ _ _ h1 hs s1 h3
            omega
          · rw [bothF_hi kk old kn hlt h1 h0 (by omega)] at hp
            obtain ⟨q, h3, rfl⟩ := Option.map_eq_some_iff.1 hp
            have := bothF_len kk old t _ _ _ _ _ (by omega) (by omega) s2 h3
            omega
    · obtain rfl : m = n := by omega
      cases kn with
      | true =>
        rw [bothF_self] at hp
        split at hp
        · omega
        · cases hp
      | false =>
        by_cases h0 : ds.length = 0
        · omega
        · rw [bothF_end kk old m h0] at hp
          split at hp
          · omega
          · cases hp
theorem refGoes_eq (kk : Nat → BitVec 32) (m : Int) (old : D) (n : Int) (root : D) (ds : List D) (k : Nat) (hk : ds.length = k) : refGoesE kk m old n root ds k = goesE kk m old n root ds := by
  unfold refGoesE goesE
  rw [hk]
  by_cases c1 : n < 0
  · rw [if_pos c1, if_pos (.inl c1)]
  rw [if_neg c1]
  by_cases c2 : 100000 < n
  · rw [if_pos c2, if_pos (by omega)]
  rw [if_neg c2]
  by_cases c3 : m < 0
  · rw [if_pos c3, if_pos (by omega)]
  rw [if_neg c3]
  by_cases c4 : n < m
  · rw [if_pos c4, if_pos (by omega)]
  rw [if_neg c4]
  by_cases c6 : m = 0
  · rw [if_pos c6]
    by_cases c7 : 0 < k
    · rw [if_pos c7, if_pos (show n < 0 ∨ 100000 < n ∨ m < 0 ∨ n < m ∨ (m = 0 ∧ 0 < k) by omega)]; split <;> rfl
    · rw [if_neg (by omega), if_neg c7, if_neg (show ¬ (n < 0 ∨ 100000 < n ∨ m < 0 ∨ n < m ∨ (m = 0 ∧ 0 < k)) by omega), if_pos c6]
      cases h1 : sameB 32 old (shaOf kk []) with
      | false => simp
      | true =>
        by_cases h2 : n = 0
        · cases h3 : sameB 32 root old <;> simp [h2]
        · simp [h2]
  · rw [if_neg c6, if_neg (show ¬ (n < 0 ∨ 100000 < n ∨ m < 0 ∨ n < m ∨ (m = 0 ∧ 0 < k)) by omega), if_neg c6]
    obtain ⟨e1, e2⟩ := both_eq kk old n.toNat m.toNat n.toNat true ds k hk (Nat.le_refl _) (by omega) (by omega)
    cases hb : bothF kk old m.toNat n.toNat true ds with
    | none =>
      dsimp only
      by_cases c5 : 40 < k
      · rw [if_pos c5]
      · rw [if_neg c5, e2 hb, if_neg (by decide)]
    | some p =>
      have := bothF_len kk old 17 _ _ _ _ _ (by omega) (by omega) (show n.toNat ≤ 2 ^ 17 by omega) hb
      rw [if_neg (by omega), e1 p hb, if_pos rfl]
      dsimp only
      cases sameB 32 p.1 old <;> cases sameB 32 p.2 root <;> simp
theorem refConsistent_ok' (kk : Nat → BitVec 32) (hG0 : G 0 = some (rowE w32 64 kk)) (m : Int) (old : D) (n : Int) (root : D) (ds : List D) (k c : Nat) (hk : ds.length = k) (hb : k ≤ 1000) (hc : k ≤ c) : CallL Tryd.prog G 39 [.int .i64 m, dgV old, .int .i64 n, dgV root, slv 0 0 k c] [dsR ds] (.int .i64 (goesE kk m old n root ds)) [dsR ds] :=
  refGoes_eq kk m old n root ds k hk ▸ refConsistent_ok (G := G) kk hG0 m old n root ds k c hk hb hc
end Go.Flat
