/- Walks and plain laws: what each theorem says, within the bounds that it names. -/
import Derived.Test.YtgmnjggeffdjhaaDoorA7
set_option linter.unusedVariables false
set_option linter.unusedSimpArgs false
set_option maxRecDepth 20000
namespace Go.Flat
open Go.Proofs
variable {G : Glob}
theorem latG_true (r : Int) : ∀ (l : List Item) (acc : Signed × Bool), acc.2 = true → (latG r l acc).2 = true
  | [], acc, h => h
  | x :: l, acc, h => by
    rw [latG]
    exact latG_true r l _ (by split <;> first | rfl | exact h)
theorem latG_keep (r : Int) : ∀ (l : List Item) (acc : Signed × Bool), (latG r l acc).2 = false → (latG r l acc).1 = acc.1
  | [], acc, h => rfl
  | x :: l, acc, h => by
    rw [latG] at h ⊢
    split at h
    · rw [latG_true r l _ rfl] at h; cases h
    · rename_i q; rw [if_neg q]; exact latG_keep r l acc h
theorem lat_zero {l : List Item} {r : Int} (h : (latL l r).2 = false) : (latL l r).1 = ⟨⟨0, 0, 0, dz, 0⟩, 0, dz⟩ := latG_keep r l _ h
theorem refAdmit_ok (kk : Nat → BitVec 32) (hG : G 1 = some (rowE w32 64 kk)) (hG2 : G 0 = some (rowE w32 64 kk)) (master : D) (l : List Item) (n c : Nat) (hn : l.length = n) (hc : n ≤ c) (hb : n ≤ 1048576) (s : Signed) (m : Int) (ds : List D) (p d : Nat) (hp : ds.length = p) (hd : p ≤ d) (hb2 : p ≤ 1000) (hm1 : -9223372036854775808 ≤ m) (hm2 : m ≤ 9223372036854775807) : CallL Tryd.prog G 19 [dgV master, slv 0 0 n c, signedV s, .int .i64 m, slv 1 0 p d] [rwR cItem l, dsR ds] (.int .i64 (admE kk master l s m ds)) [rwR cItem l, dsR ds] := by
  refine walk (fn := Tryd.f19) (nt := 70) rfl rfl rfl rfl ?_
  refine c_hole 4 (H' := [rwR cItem l, dsR ds, hole, hole, hole, hole]) rfl ?_
  refine c_seq (c_reg ?_)
  refine r_box (v := dgV master) (b := dgB master) (nid := 2) (H' := [rwR cItem l, dsR ds, dgB master, hole, hole, hole]) rfl rfl rfl (by kernel_rfl) (by kernel_rfl) ?_
  refine r_box (v := signedV s) (b := bxB 69 (signedC s)) (nid := 3) (H' := [rwR cItem l, dsR ds, dgB master, bxB 69 (signedC s), hole, hole]) rfl rfl rfl (by kernel_rfl) (by kernel_rfl) ?_
  refine r_assign (v := .int .i64 0) rfl rfl rfl ?_
  refine r_doneN (x_then (c_seq (c_seq (c_reg ?_))))
  refine r_move (v := slv 0 0 n c) rfl rfl rfl ?_
  refine r_callN (e := [some (0, 0)]) (nid := 0) (refRightL_ok (G := G) l n c hn (by omega) (by omega)) (vals := [slv 0 0 n c]) (v := .bool (decide (rightL l))) (H' := [rwR cItem l, dsR ds, dgB master, bxB 69 (signedC s), hole, hole]) rfl rfl rfl rfl rfl rfl rfl ⟨⟨⟨rfl, rfl, rfl, by first | omega | exact Nat.le_refl _, by first | omega | exact Nat.le_refl _⟩, trivial⟩, ⟨(emb_rwR rfl), trivial⟩, rfl, rfl, rfl⟩ rfl (by kernel_rfl) ?_
  rcases Bool.eq_false_or_eq_true (decide (rightL l)) with h1 | h1
  refine r_un (v := .bool false) (vx := .bool (decide (rightL l))) rfl rfl rfl (Eq.trans un_not (congrArg (fun b => some (Value.bool !b)) h1)) ?_
  refine r_doneN (x_then ?_)
  refine c_false rfl ?_
  refine c_skip (x_then (c_seq (c_reg ?_)))
  refine r_load (p := pt 2 0) (v := dgV master) rfl rfl rfl (by kernel_rfl) ?_
  refine r_load (p := pt 3 0) (v := signedV s) rfl rfl rfl (by kernel_rfl) ?_
  refine r_callP (refVerify_ok (G := G) kk hG2 master s) (vals := [dgV master, signedV s]) (res' := .int .i64 ((verifyR kk master s))) rfl rfl rfl rfl rfl rfl ?_
  refine r_assign (v := .int .i64 ((verifyR kk master s))) rfl rfl rfl ?_
  refine r_doneN (x_then (c_seq (c_seq (c_reg ?_))))
  refine r_move (v := .int .i64 ((verifyR kk master s))) rfl rfl rfl ?_
  by_cases h2 : ((verifyR kk master s)) ≠ 0
  refine r_bin (v := .bool true) (vx := .int .i64 ((verifyR kk master s))) (vy := .int .i64 0) rfl rfl rfl rfl (neq_t (by omega)) ?_
  refine r_doneN (x_then ?_)
  refine c_true rfl ?_
  refine c_seq (c_reg ?_)
  refine r_move (v := .int .i64 ((verifyR kk master s))) rfl rfl rfl ?_
  refine r_assign (v := .int .i64 ((verifyR kk master s))) rfl rfl rfl ?_
  refine r_doneN (x_then (c_ret (x_thenR (x_end ?_))))
  have c0 : chkL l = 0 := if_pos (of_decide_eq_true (by assumption))
  rw [show admE kk master l s m ds = verifyR kk master s from by unfold admE; rw [if_neg (by omega), if_pos (by omega)]]
  exact end_same (v := .int .i64 ((verifyR kk master s))) rfl rfl rfl (by simp [keptB, rwR, cItem, dsR]) rfl
  refine r_bin (v := .bool false) (vx := .int .i64 ((verifyR kk master s))) (vy := .int .i64 0) rfl rfl rfl rfl (neq_f (by omega)) ?_
  refine r_doneN (x_then ?_)
  refine c_false rfl ?_
  refine c_skip (x_then (c_seq (c_reg ?_)))
  refine r_move (v := slv 0 0 n c) rfl rfl rfl ?_
  refine r_fieldAddr (b := 3) (o := 0) (n := 0) (o' := 0) rfl rfl rfl rfl rfl ?_
  refine r_fieldAddr (b := 3) (o := 0) (n := 0) (o' := 0) rfl rfl rfl rfl rfl ?_
  refine r_load (p := pt 3 0) (v := .int .i64 s.head.region) rfl rfl rfl (by kernel_rfl) ?_
  refine r_callN (e := [some (0, 0)]) (nid := 0) (refLatest_ok (G := G) l n c hn (by omega) (by omega) s.head.region) (vals := [slv 0 0 n c, .int .i64 s.head.region]) (v := .tuple #[signedV ((latL l s.head.region).1), .bool ((latL l s.head.region).2)]) (H' := [rwR cItem l, dsR ds, dgB master, bxB 69 (signedC s), hole, hole]) rfl rfl rfl rfl rfl rfl rfl ⟨⟨⟨rfl, rfl, rfl, by first | omega | exact Nat.le_refl _, by first | omega | exact Nat.le_refl _⟩, rfl, trivial⟩, ⟨(emb_rwR rfl), trivial⟩, rfl, rfl, rfl⟩ (by kernel_rfl) (by kernel_rfl) ?_
  refine r_move (v := .tuple #[signedV ((latL l s.head.region).1), .bool ((latL l s.head.region).2)]) rfl rfl rfl ?_
  refine r_extract (vs := #[signedV ((latL l s.head.region).1), .bool ((latL l s.head.region).2)]) (v := signedV ((latL l s.head.region).1)) rfl rfl rfl rfl ?_
  refine r_extract (vs := #[signedV ((latL l s.head.region).1), .bool ((latL l s.head.region).2)]) (v := .bool ((latL l s.head.region).2)) rfl rfl rfl rfl ?_
  refine r_alloc (b := bxB 69 (signedC (⟨(⟨0, 0, 0, dz, 0⟩ : Head), 0, dz⟩ : Signed))) (nid := 4) (H' := [rwR cItem l, dsR ds, dgB master, bxB 69 (signedC s), bxB 69 (signedC (⟨(⟨0, 0, 0, dz, 0⟩ : Head), 0, dz⟩ : Signed)), hole]) rfl rfl (by kernel_rfl) (by kernel_rfl) ?_
  refine r_store (p := pt 4 0) (v := signedV ((latL l s.head.region).1)) (b := 4) (blk := bxB 69 (signedC ((latL l s.head.region).1))) (H' := [rwR cItem l, dsR ds, dgB master, bxB 69 (signedC s), bxB 69 (signedC ((latL l s.head.region).1)), hole]) rfl rfl rfl (by kernel_rfl) (by kernel_rfl) ?_
  refine r_assign (v := .bool ((latL l s.head.region).2)) rfl rfl rfl ?_
  refine r_doneN (x_then (c_seq (c_reg ?_)))
  refine r_fieldAddr (b := 4) (o := 0) (n := 0) (o' := 0) rfl rfl rfl rfl rfl ?_
  refine r_load (p := pt 4 0) (v := headV (((latL l s.head.region).1).head)) rfl rfl rfl (by kernel_rfl) ?_
  refine r_alloc (b := bxB 36 (headC (⟨0, 0, 0, dz, 0⟩ : Head))) (nid := 5) (H' := [rwR cItem l, dsR ds, dgB master, bxB 69 (signedC s), bxB 69 (signedC ((latL l s.head.region).1)), bxB 36 (headC (⟨0, 0, 0, dz, 0⟩ : Head))]) rfl rfl (by kernel_rfl) (by kernel_rfl) ?_
  refine r_store (p := pt 5 0) (v := headV (((latL l s.head.region).1).head)) (b := 5) (blk := bxB 36 (headC (((latL l s.head.region).1).head))) (H' := [rwR cItem l, dsR ds, dgB master, bxB 69 (signedC s), bxB 69 (signedC ((latL l s.head.region).1)), bxB 36 (headC (((latL l s.head.region).1).head))]) rfl rfl rfl (by kernel_rfl) (by kernel_rfl) ?_
  refine r_doneN (x_then (c_seq (c_seq (c_reg ?_))))
  refine r_move (v := .bool ((latL l s.head.region).2)) rfl rfl rfl ?_
  rcases Bool.eq_false_or_eq_true ((latL l s.head.region).2) with h3 | h3
  refine r_un (v := .bool false) (vx := .bool ((latL l s.head.region).2)) rfl rfl rfl (Eq.trans un_not (congrArg (fun b => some (Value.bool !b)) h3)) ?_
  refine r_doneN (x_then ?_)
  refine c_false rfl ?_
  refine c_skip (x_then (c_seq (c_seq (c_reg ?_))))
  refine r_fieldAddr (b := 3) (o := 0) (n := 0) (o' := 0) rfl rfl rfl rfl rfl ?_
  refine r_fieldAddr (b := 3) (o := 0) (n := 1) (o' := 1) rfl rfl rfl rfl rfl ?_
  refine r_load (p := pt 3 1) (v := .int .i64 s.head.epoch) rfl rfl rfl (by kernel_rfl) ?_
  refine r_fieldAddr (b := 5) (o := 0) (n := 1) (o' := 1) rfl rfl rfl rfl rfl ?_
  refine r_load (p := pt 5 1) (v := .int .i64 (((((latL l s.head.region).1).head).epoch))) rfl rfl rfl (by kernel_rfl) ?_
  by_cases h4 : s.head.epoch < (((((latL l s.head.region).1).head).epoch))
  refine r_bin (v := .bool true) (vx := .int .i64 s.head.epoch) (vy := .int .i64 (((((latL l s.head.region).1).head).epoch))) rfl rfl rfl rfl (lss_t (by omega)) ?_
  refine r_move (v := .bool true) rfl rfl rfl ?_
  refine r_skip rfl rfl ?_
  refine r_skip rfl rfl ?_
  refine r_skip rfl rfl ?_
  refine r_skip rfl rfl ?_
  refine r_skip rfl rfl ?_
  refine r_skip rfl rfl ?_
  refine r_pick (v := .bool true) rfl rfl rfl ?_
  refine r_move (v := .bool true) rfl rfl rfl ?_
  refine r_skip rfl rfl ?_
  refine r_skip rfl rfl ?_
  refine r_skip rfl rfl ?_
  refine r_skip rfl rfl ?_
  refine r_pick (v := .bool true) rfl rfl rfl ?_
  refine r_doneN (x_then ?_)
  refine c_true rfl ?_
  refine c_seq (c_reg ?_)
  refine r_assign (v := .int .i64 122) rfl rfl rfl ?_
  refine r_doneN (x_then (c_ret (x_thenR (x_end ?_))))
  have c0 : chkL l = 0 := if_pos (of_decide_eq_true (by assumption))
  rw [show admE kk master l s m ds = 122 from by unfold admE; rw [if_neg (by omega), if_neg (by omega), if_pos (by assumption)]; (repeat' split) <;> omega]
  exact end_same (v := .int .i64 122) rfl rfl rfl (by simp [keptB, rwR, cItem, dsR]) rfl
  refine r_bin (v := .bool false) (vx := .int .i64 s.head.epoch) (vy := .int .i64 (((((latL l s.head.region).1).head).epoch))) rfl rfl rfl rfl (lss_f (by omega)) ?_
  refine r_move (v := .bool false) rfl rfl rfl ?_
  refine r_fieldAddr (b := 3) (o := 0) (n := 0) (o' := 0) rfl rfl rfl rfl rfl ?_
  refine r_fieldAddr (b := 3) (o := 0) (n := 2) (o' := 2) rfl rfl rfl rfl rfl ?_
  refine r_load (p := pt 3 2) (v := .int .i64 s.head.size) rfl rfl rfl (by kernel_rfl) ?_
  refine r_fieldAddr (b := 5) (o := 0) (n := 2) (o' := 2) rfl rfl rfl rfl rfl ?_
  refine r_load (p := pt 5 2) (v := .int .i64 (((((latL l s.head.region).1).head).size))) rfl rfl rfl (by kernel_rfl) ?_
  by_cases h5 : s.head.size < (((((latL l s.head.region).1).head).size))
  refine r_bin (v := .bool true) (vx := .int .i64 s.head.size) (vy := .int .i64 (((((latL l s.head.region).1).head).size))) rfl rfl rfl rfl (lss_t (by omega)) ?_
  refine r_pick (v := .bool true) rfl rfl rfl ?_
  refine r_move (v := .bool true) rfl rfl rfl ?_
  refine r_skip rfl rfl ?_
  refine r_skip rfl rfl ?_
  refine r_skip rfl rfl ?_
  refine r_skip rfl rfl ?_
  refine r_pick (v := .bool true) rfl rfl rfl ?_
  refine r_doneN (x_then ?_)
  refine c_true rfl ?_
  refine c_seq (c_reg ?_)
  refine r_assign (v := .int .i64 122) rfl rfl rfl ?_
  refine r_doneN (x_then (c_ret (x_thenR (x_end ?_))))
  have c0 : chkL l = 0 := if_pos (of_decide_eq_true (by assumption))
  rw [show admE kk master l s m ds = 122 from by unfold admE; rw [if_neg (by omega), if_neg (by omega), if_pos (by assumption)]; (repeat' split) <;> omega]
  exact end_same (v := .int .i64 122) rfl rfl rfl (by simp [keptB, rwR, cItem, dsR]) rfl
  refine r_bin (v := .bool false) (vx := .int .i64 s.head.size) (vy := .int .i64 (((((latL l s.head.region).1).head).size))) rfl rfl rfl rfl (lss_f (by omega)) ?_
  refine r_pick (v := .bool false) rfl rfl rfl ?_
  refine r_move (v := .bool false) rfl rfl rfl ?_
  refine r_move (v := .int .i64 m) rfl rfl rfl ?_
  refine r_fieldAddr (b := 5) (o := 0) (n := 2) (o' := 2) rfl rfl rfl rfl rfl ?_
  refine r_load (p := pt 5 2) (v := .int .i64 (((((latL l s.head.region).1).head).size))) rfl rfl rfl (by kernel_rfl) ?_
  by_cases h6 : m ≠ (((((latL l s.head.region).1).head).size))
  refine r_bin (v := .bool true) (vx := .int .i64 m) (vy := .int .i64 (((((latL l s.head.region).1).head).size))) rfl rfl rfl rfl (neq_t (by omega)) ?_
  refine r_pick (v := .bool true) rfl rfl rfl ?_
  refine r_doneN (x_then ?_)
  refine c_true rfl ?_
  refine c_seq (c_reg ?_)
  refine r_assign (v := .int .i64 122) rfl rfl rfl ?_
  refine r_doneN (x_then (c_ret (x_thenR (x_end ?_))))
  have c0 : chkL l = 0 := if_pos (of_decide_eq_true (by assumption))
  rw [show admE kk master l s m ds = 122 from by unfold admE; rw [if_neg (by omega), if_neg (by omega), if_pos (by assumption)]; (repeat' split) <;> omega]
  exact end_same (v := .int .i64 122) rfl rfl rfl (by simp [keptB, rwR, cItem, dsR]) rfl
  refine r_bin (v := .bool false) (vx := .int .i64 m) (vy := .int .i64 (((((latL l s.head.region).1).head).size))) rfl rfl rfl rfl (neq_f (by omega)) ?_
  refine r_pick (v := .bool false) rfl rfl rfl ?_
  refine r_doneN (x_then ?_)
  refine c_false rfl ?_
  refine c_skip (x_then (c_seq (c_seq (c_reg ?_))))
  refine r_move (v := .int .i64 m) rfl rfl rfl ?_
  refine r_fieldAddr (b := 5) (o := 0) (n := 3) (o' := 3) rfl rfl rfl rfl rfl ?_
  refine r_load (p := pt 5 3) (v := dgV ((((latL l s.head.region).1).head).root)) rfl rfl rfl (by kernel_rfl) ?_
  refine r_fieldAddr (b := 3) (o := 0) (n := 0) (o' := 0) rfl rfl rfl rfl rfl ?_
  refine r_fieldAddr (b := 3) (o := 0) (n := 2) (o' := 2) rfl rfl rfl rfl rfl ?_
  refine r_load (p := pt 3 2) (v := .int .i64 s.head.size) rfl rfl rfl (by kernel_rfl) ?_
  refine r_fieldAddr (b := 3) (o := 0) (n := 0) (o' := 0) rfl rfl rfl rfl rfl ?_
  refine r_fieldAddr (b := 3) (o := 0) (n := 3) (o' := 3) rfl rfl rfl rfl rfl ?_
  refine r_load (p := pt 3 3) (v := dgV s.head.root) rfl rfl rfl (by kernel_rfl) ?_
  refine r_move (v := slv 1 0 p d) rfl rfl rfl ?_
  refine r_callN (e := [some (1, 0)]) (nid := 0) (refConsistent_ok' (G := G) kk hG2 m ((((latL l s.head.region).1).head).root) s.head.size s.head.root ds p d hp (by omega) (by omega)) (vals := [.int .i64 m, dgV ((((latL l s.head.region).1).head).root), .int .i64 s.head.size, dgV s.head.root, slv 1 0 p d]) (v := .int .i64 ((goesE kk m ((((latL l s.head.region).1).head).root) s.head.size s.head.root ds))) (H' := [rwR cItem l, dsR ds, dgB master, bxB 69 (signedC s), bxB 69 (signedC ((latL l s.head.region).1)), bxB 36 (headC (((latL l s.head.region).1).head))]) rfl rfl rfl rfl rfl rfl rfl ⟨⟨rfl, rfl, rfl, rfl, ⟨rfl, rfl, rfl, by first | omega | exact Nat.le_refl _, by first | omega | exact Nat.le_refl _⟩, trivial⟩, ⟨(emb_dsR rfl), trivial⟩, rfl, rfl, rfl⟩ rfl (by kernel_rfl) ?_
  by_cases h7 : ((goesE kk m ((((latL l s.head.region).1).head).root) s.head.size s.head.root ds)) ≠ 0
  refine r_bin (v := .bool true) (vx := .int .i64 ((goesE kk m ((((latL l s.head.region).1).head).root) s.head.size s.head.root ds))) (vy := .int .i64 0) rfl rfl rfl rfl (neq_t (by omega)) ?_
  refine r_doneN (x_then ?_)
  refine c_true rfl ?_
  refine c_seq (c_reg ?_)
  refine r_assign (v := .int .i64 121) rfl rfl rfl ?_
  refine r_doneN (x_then (c_ret (x_thenR (x_end ?_))))
  have c0 : chkL l = 0 := if_pos (of_decide_eq_true (by assumption))
  rw [show admE kk master l s m ds = 121 from by unfold admE; rw [if_neg (by omega), if_neg (by omega), if_pos (by assumption)]; (repeat' split) <;> omega]
  exact end_same (v := .int .i64 121) rfl rfl rfl (by simp [keptB, rwR, cItem, dsR]) rfl
  refine r_bin (v := .bool false) (vx := .int .i64 ((goesE kk m ((((latL l s.head.region).1).head).root) s.head.size s.head.root ds))) (vy := .int .i64 0) rfl rfl rfl rfl (neq_f (by omega)) ?_
  refine r_doneN (x_then ?_)
  refine c_false rfl ?_
  refine c_skip (x_then (c_seq (c_reg ?_)))
  refine r_assign (v := .int .i64 0) rfl rfl rfl ?_
  refine r_doneN (x_then (c_ret (x_end ?_)))
  have c0 : chkL l = 0 := if_pos (of_decide_eq_true (by assumption))
  rw [show admE kk master l s m ds = 0 from by unfold admE; rw [if_neg (by omega), if_neg (by omega), if_pos (by assumption)]; (repeat' split) <;> omega]
  exact end_same (v := .int .i64 0) rfl rfl rfl (by simp [keptB, rwR, cItem, dsR]) rfl
  refine r_un (v := .bool true) (vx := .bool ((latL l s.head.region).2)) rfl rfl rfl (Eq.trans un_not (congrArg (fun b => some (Value.bool !b)) h3)) ?_
  refine r_doneN (x_then ?_)
  refine c_true rfl ?_
  refine c_reg ?_
  refine r_callP (refSumE_ok (G := G) kk hG2) (vals := [.string ⟨#[]⟩]) (res' := dgV (shaOf kk [])) rfl rfl rfl rfl rfl (by kernel_rfl) ?_
  refine r_fieldAddr (b := 5) (o := 0) (n := 3) (o' := 3) rfl rfl rfl rfl rfl ?_
  refine r_store (p := pt 5 3) (v := dgV (shaOf kk [])) (b := 5) (blk := bxB 36 (headC (⟨(((((latL l s.head.region).1).head).region)), (((((latL l s.head.region).1).head).epoch)), (((((latL l s.head.region).1).head).size)), (shaOf kk []), (((((latL l s.head.region).1).head).tick))⟩ : Head))) (H' := [rwR cItem l, dsR ds, dgB master, bxB 69 (signedC s), bxB 69 (signedC ((latL l s.head.region).1)), bxB 36 (headC (⟨(((((latL l s.head.region).1).head).region)), (((((latL l s.head.region).1).head).epoch)), (((((latL l s.head.region).1).head).size)), (shaOf kk []), (((((latL l s.head.region).1).head).tick))⟩ : Head))]) rfl rfl rfl (by kernel_rfl) (by kernel_rfl) ?_
  refine r_doneN (x_then (c_seq (c_seq (c_reg ?_))))
  refine r_fieldAddr (b := 3) (o := 0) (n := 0) (o' := 0) rfl rfl rfl rfl rfl ?_
  refine r_fieldAddr (b := 3) (o := 0) (n := 1) (o' := 1) rfl rfl rfl rfl rfl ?_
  refine r_load (p := pt 3 1) (v := .int .i64 s.head.epoch) rfl rfl rfl (by kernel_rfl) ?_
  refine r_fieldAddr (b := 5) (o := 0) (n := 1) (o' := 1) rfl rfl rfl rfl rfl ?_
  refine r_load (p := pt 5 1) (v := .int .i64 (((((latL l s.head.region).1).head).epoch))) rfl rfl rfl (by kernel_rfl) ?_
  by_cases h8 : s.head.epoch < (((((latL l s.head.region).1).head).epoch))
  refine r_bin (v := .bool true) (vx := .int .i64 s.head.epoch) (vy := .int .i64 (((((latL l s.head.region).1).head).epoch))) rfl rfl rfl rfl (lss_t (by omega)) ?_
  refine r_move (v := .bool true) rfl rfl rfl ?_
  refine r_skip rfl rfl ?_
  refine r_skip rfl rfl ?_
  refine r_skip rfl rfl ?_
  refine r_skip rfl rfl ?_
  refine r_skip rfl rfl ?_
  refine r_skip rfl rfl ?_
  refine r_pick (v := .bool true) rfl rfl rfl ?_
  refine r_move (v := .bool true) rfl rfl rfl ?_
  refine r_skip rfl rfl ?_
  refine r_skip rfl rfl ?_
  refine r_skip rfl rfl ?_
  refine r_skip rfl rfl ?_
  refine r_pick (v := .bool true) rfl rfl rfl ?_
  refine r_doneN (x_then ?_)
  refine c_true rfl ?_
  refine c_seq (c_reg ?_)
  refine r_assign (v := .int .i64 122) rfl rfl rfl ?_
  refine r_doneN (x_then (c_ret (x_thenR (x_end ?_))))
  have c0 : chkL l = 0 := if_pos (of_decide_eq_true (by assumption))
  have ez := lat_zero (l := l) (r := s.head.region) (by assumption)
  have ez1 : (latL l s.head.region).1.head.epoch = 0 := by rw [ez]
  have ez2 : (latL l s.head.region).1.head.size = 0 := by rw [ez]
  have hv1 := (verify_may (by omega : verifyR kk master s = 0)).1.2.2.1
  rw [show admE kk master l s m ds = 122 from by unfold admE; rw [if_neg (by omega), if_neg (by omega), if_neg (by simp [*])]; (repeat' split) <;> omega]
  exact end_same (v := .int .i64 122) rfl rfl rfl (by simp [keptB, rwR, cItem, dsR]) rfl
  refine r_bin (v := .bool false) (vx := .int .i64 s.head.epoch) (vy := .int .i64 (((((latL l s.head.region).1).head).epoch))) rfl rfl rfl rfl (lss_f (by omega)) ?_
  refine r_move (v := .bool false) rfl rfl rfl ?_
  refine r_fieldAddr (b := 3) (o := 0) (n := 0) (o' := 0) rfl rfl rfl rfl rfl ?_
  refine r_fieldAddr (b := 3) (o := 0) (n := 2) (o' := 2) rfl rfl rfl rfl rfl ?_
  refine r_load (p := pt 3 2) (v := .int .i64 s.head.size) rfl rfl rfl (by kernel_rfl) ?_
  refine r_fieldAddr (b := 5) (o := 0) (n := 2) (o' := 2) rfl rfl rfl rfl rfl ?_
  refine r_load (p := pt 5 2) (v := .int .i64 (((((latL l s.head.region).1).head).size))) rfl rfl rfl (by kernel_rfl) ?_
  by_cases h9 : s.head.size < (((((latL l s.head.region).1).head).size))
  refine r_bin (v := .bool true) (vx := .int .i64 s.head.size) (vy := .int .i64 (((((latL l s.head.region).1).head).size))) rfl rfl rfl rfl (lss_t (by omega)) ?_
  refine r_pick (v := .bool true) rfl rfl rfl ?_
  refine r_move (v := .bool true) rfl rfl rfl ?_
  refine r_skip rfl rfl ?_
  refine r_skip rfl rfl ?_
  refine r_skip rfl rfl ?_
  refine r_skip rfl rfl ?_
  refine r_pick (v := .bool true) rfl rfl rfl ?_
  refine r_doneN (x_then ?_)
  refine c_true rfl ?_
  refine c_seq (c_reg ?_)
  refine r_assign (v := .int .i64 122) rfl rfl rfl ?_
  refine r_doneN (x_then (c_ret (x_thenR (x_end ?_))))
  have c0 : chkL l = 0 := if_pos (of_decide_eq_true (by assumption))
  have ez := lat_zero (l := l) (r := s.head.region) (by assumption)
  have ez1 : (latL l s.head.region).1.head.epoch = 0 := by rw [ez]
  have ez2 : (latL l s.head.region).1.head.size = 0 := by rw [ez]
  have hv1 := (verify_may (by omega : verifyR kk master s = 0)).1.2.2.1
  rw [show admE kk master l s m ds = 122 from by unfold admE; rw [if_neg (by omega), if_neg (by omega), if_neg (by simp [*])]; (repeat' split) <;> omega]
  exact end_same (v := .int .i64 122) rfl rfl rfl (by simp [keptB, rwR, cItem, dsR]) rfl
  refine r_bin (v := .bool false) (vx := .int .i64 s.head.size) (vy := .int .i64 (((((latL l s.head.region).1).head).size))) rfl rfl rfl rfl (lss_f (by omega)) ?_
  refine r_pick (v := .bool false) rfl rfl rfl ?_
  refine r_move (v := .bool false) rfl rfl rfl ?_
  refine r_move (v := .int .i64 m) rfl rfl rfl ?_
  refine r_fieldAddr (b := 5) (o := 0) (n := 2) (o' := 2) rfl rfl rfl rfl rfl ?_
  refine r_load (p := pt 5 2) (v := .int .i64 (((((latL l s.head.region).1).head).size))) rfl rfl rfl (by kernel_rfl) ?_
  by_cases h10 : m ≠ (((((latL l s.head.region).1).head).size))
  refine r_bin (v := .bool true) (vx := .int .i64 m) (vy := .int .i64 (((((latL l s.head.region).1).head).size))) rfl rfl rfl rfl (neq_t (by omega)) ?_
  refine r_pick (v := .bool true) rfl rfl rfl ?_
  refine r_doneN (x_then ?_)
  refine c_true rfl ?_
  refine c_seq (c_reg ?_)
  refine r_assign (v := .int .i64 122) rfl rfl rfl ?_
  refine r_doneN (x_then (c_ret (x_thenR (x_end ?_))))
  have c0 : chkL l = 0 := if_pos (of_decide_eq_true (by assumption))
  have ez := lat_zero (l := l) (r := s.head.region) (by assumption)
  have ez1 : (latL l s.head.region).1.head.epoch = 0 := by rw [ez]
  have ez2 : (latL l s.head.region).1.head.size = 0 := by rw [ez]
  have hv1 := (verify_may (by omega : verifyR kk master s = 0)).1.2.2.1
  rw [show admE kk master l s m ds = 122 from by unfold admE; rw [if_neg (by omega), if_neg (by omega), if_neg (by simp [*])]; (repeat' split) <;> omega]
  exact end_same (v := .int .i64 122) rfl rfl rfl (by simp [keptB, rwR, cItem, dsR]) rfl
  refine r_bin (v := .bool false) (vx := .int .i64 m) (vy := .int .i64 (((((latL l s.head.region).1).head).size))) rfl rfl rfl rfl (neq_f (by omega)) ?_
  refine r_pick (v := .bool false) rfl rfl rfl ?_
  refine r_doneN (x_then ?_)
  refine c_false rfl ?_
  refine c_skip (x_then (c_seq (c_seq (c_reg ?_))))
  refine r_move (v := .int .i64 m) rfl rfl rfl ?_
  refine r_fieldAddr (b := 5) (o := 0) (n := 3) (o' := 3) rfl rfl rfl rfl rfl ?_
  refine r_load (p := pt 5 3) (v := dgV (shaOf kk [])) rfl rfl rfl (by kernel_rfl) ?_
  refine r_fieldAddr (b := 3) (o := 0) (n := 0) (o' := 0) rfl rfl rfl rfl rfl ?_
  refine r_fieldAddr (b := 3) (o := 0) (n := 2) (o' := 2) rfl rfl rfl rfl rfl ?_
  refine r_load (p := pt 3 2) (v := .int .i64 s.head.size) rfl rfl rfl (by kernel_rfl) ?_
  refine r_fieldAddr (b := 3) (o := 0) (n := 0) (o' := 0) rfl rfl rfl rfl rfl ?_
  refine r_fieldAddr (b := 3) (o := 0) (n := 3) (o' := 3) rfl rfl rfl rfl rfl ?_
  refine r_load (p := pt 3 3) (v := dgV s.head.root) rfl rfl rfl (by kernel_rfl) ?_
  refine r_move (v := slv 1 0 p d) rfl rfl rfl ?_
  refine r_callN (e := [some (1, 0)]) (nid := 0) (refConsistent_ok' (G := G) kk hG2 m (shaOf kk []) s.head.size s.head.root ds p d hp (by omega) (by omega)) (vals := [.int .i64 m, dgV (shaOf kk []), .int .i64 s.head.size, dgV s.head.root, slv 1 0 p d]) (v := .int .i64 ((goesE kk m (shaOf kk []) s.head.size s.head.root ds))) (H' := [rwR cItem l, dsR ds, dgB master, bxB 69 (signedC s), bxB 69 (signedC ((latL l s.head.region).1)), bxB 36 (headC (⟨(((((latL l s.head.region).1).head).region)), (((((latL l s.head.region).1).head).epoch)), (((((latL l s.head.region).1).head).size)), (shaOf kk []), (((((latL l s.head.region).1).head).tick))⟩ : Head))]) rfl rfl rfl rfl rfl rfl rfl ⟨⟨rfl, rfl, rfl, rfl, ⟨rfl, rfl, rfl, by first | omega | exact Nat.le_refl _, by first | omega | exact Nat.le_refl _⟩, trivial⟩, ⟨(emb_dsR rfl), trivial⟩, rfl, rfl, rfl⟩ rfl (by kernel_rfl) ?_
  by_cases h11 : ((goesE kk m (shaOf kk []) s.head.size s.head.root ds)) ≠ 0
  refine r_bin (v := .bool true) (vx := .int .i64 ((goesE kk m (shaOf kk []) s.head.size s.head.root ds))) (vy := .int .i64 0) rfl rfl rfl rfl (neq_t (by omega)) ?_
  refine r_doneN (x_then ?_)
  refine c_true rfl ?_
  refine c_seq (c_reg ?_)
  refine r_assign (v := .int .i64 121) rfl rfl rfl ?_
  refine r_doneN (x_then (c_ret (x_thenR (x_end ?_))))
  have c0 : chkL l = 0 := if_pos (of_decide_eq_true (by assumption))
  have ez := lat_zero (l := l) (r := s.head.region) (by assumption)
  have ez1 : (latL l s.head.region).1.head.epoch = 0 := by rw [ez]
  have ez2 : (latL l s.head.region).1.head.size = 0 := by rw [ez]
  have hv1 := (verify_may (by omega : verifyR kk master s = 0)).1.2.2.1
  rw [show admE kk master l s m ds = 121 from by unfold admE; rw [if_neg (by omega), if_neg (by omega), if_neg (by simp [*])]; (repeat' split) <;> omega]
  exact end_same (v := .int .i64 121) rfl rfl rfl (by simp [keptB, rwR, cItem, dsR]) rfl
  refine r_bin (v := .bool false) (vx := .int .i64 ((goesE kk m (shaOf kk []) s.head.size s.head.root ds))) (vy := .int .i64 0) rfl rfl rfl rfl (neq_f (by omega)) ?_
  refine r_doneN (x_then ?_)
  refine c_false rfl ?_
  refine c_skip (x_then (c_seq (c_reg ?_)))
  refine r_assign (v := .int .i64 0) rfl rfl rfl ?_
  refine r_doneN (x_then (c_ret (x_end ?_)))
  have c0 : chkL l = 0 := if_pos (of_decide_eq_true (by assumption))
  have ez := lat_zero (l := l) (r := s.head.region) (by assumption)
  have ez1 : (latL l s.head.region).1.head.epoch = 0 := by rw [ez]
  have ez2 : (latL l s.head.region).1.head.size = 0 := by rw [ez]
  have hv1 := (verify_may (by omega : verifyR kk master s = 0)).1.2.2.1
  rw [show admE kk master l s m ds = 0 from by unfold admE; rw [if_neg (by omega), if_neg (by omega), if_neg (by simp [*])]; (repeat' split) <;> omega]
  exact end_same (v := .int .i64 0) rfl rfl rfl (by simp [keptB, rwR, cItem, dsR]) rfl
  refine r_un (v := .bool true) (vx := .bool (decide (rightL l))) rfl rfl rfl (Eq.trans un_not (congrArg (fun b => some (Value.bool !b)) h1)) ?_
  refine r_doneN (x_then ?_)
  refine c_true rfl ?_
  refine c_seq (c_reg ?_)
  refine r_assign (v := .int .i64 120) rfl rfl rfl ?_
  refine r_doneN (x_then (c_ret (x_thenR (x_end ?_))))
  rw [show admE kk master l s m ds = 120 from by unfold admE; rw [if_pos (by rw [show chkL l = 100 from if_neg (of_decide_eq_false (by assumption))]; decide)]]
  exact end_same (v := .int .i64 120) rfl rfl rfl (by simp [keptB, rwR, cItem, dsR]) rfl
theorem refApart_ok (kk : Nat → BitVec 32) (hG : G 1 = some (rowE w32 64 kk)) (hG2 : G 0 = some (rowE w32 64 kk)) (master : D) (a b : Signed) : CallL Tryd.prog G 21 [dgV master, signedV a, signedV b] [] (.bool (apE kk master a b)) [] := by
  refine walk (fn := Tryd.f21) (nt := 55) rfl rfl rfl rfl ?_
  refine c_hole 3 (H' := [hole, hole, hole]) rfl ?_
  refine c_seq (c_reg ?_)
  refine r_box (v := dgV master) (b := dgB master) (nid := 0) (H' := [dgB master, hole, hole]) rfl rfl rfl (by kernel_rfl) (by kernel_rfl) ?_
  refine r_box (v := signedV a) (b := bxB 69 (signedC a)) (nid := 1) (H' := [dgB master, bxB 69 (signedC a), hole]) rfl rfl rfl (by kernel_rfl) (by kernel_rfl) ?_
  refine r_box (v := signedV b) (b := bxB 69 (signedC b)) (nid := 2) (H' := [dgB master, bxB 69 (signedC a), bxB 69 (signedC b)]) rfl rfl rfl (by kernel_rfl) (by kernel_rfl) ?_
  refine r_assign (v := .bool false) rfl rfl rfl ?_
  refine r_doneN (x_then (c_seq (c_reg ?_)))
  refine r_load (p := pt 0 0) (v := dgV master) rfl rfl rfl (by kernel_rfl) ?_
  refine r_load (p := pt 1 0) (v := signedV a) rfl rfl rfl (by kernel_rfl) ?_
  refine r_callP (refVerify_ok (G := G) kk hG2 master a) (vals := [dgV master, signedV a]) (res' := .int .i64 ((verifyR kk master a))) rfl rfl rfl rfl rfl rfl ?_
  by_cases h1 : ((verifyR kk master a)) = 0
  refine r_bin (v := .bool true) (vx := .int .i64 ((verifyR kk master a))) (vy := .int .i64 0) rfl rfl rfl rfl (eql_t (by omega)) ?_
  refine r_move (v := .bool true) rfl rfl rfl ?_
  refine r_load (p := pt 0 0) (v := dgV master) rfl rfl rfl (by kernel_rfl) ?_
  refine r_load (p := pt 2 0) (v := signedV b) rfl rfl rfl (by kernel_rfl) ?_
  refine r_callP (refVerify_ok (G := G) kk hG2 master b) (vals := [dgV master, signedV b]) (res' := .int .i64 ((verifyR kk master b))) rfl rfl rfl rfl rfl rfl ?_
  by_cases h2 : ((verifyR kk master b)) = 0
  refine r_bin (v := .bool true) (vx := .int .i64 ((verifyR kk master b))) (vy := .int .i64 0) rfl rfl rfl rfl (eql_t (by omega)) ?_
  refine r_pick (v := .bool true) rfl rfl rfl ?_
  refine r_assign (v := .bool true) rfl rfl rfl ?_
  refine r_doneN (x_then (c_seq (c_reg ?_)))
  refine r_move (v := .bool true) rfl rfl rfl ?_
  refine r_move (v := .bool true) rfl rfl rfl ?_
  refine r_fieldAddr (b := 1) (o := 0) (n := 0) (o' := 0) rfl rfl rfl rfl rfl ?_
  refine r_fieldAddr (b := 1) (o := 0) (n := 0) (o' := 0) rfl rfl rfl rfl rfl ?_
  refine r_load (p := pt 1 0) (v := .int .i64 a.head.region) rfl rfl rfl (by kernel_rfl) ?_
  refine r_fieldAddr (b := 2) (o := 0) (n := 0) (o' := 0) rfl rfl rfl rfl rfl ?_
  refine r_fieldAddr (b := 2) (o := 0) (n := 0) (o' := 0) rfl rfl rfl rfl rfl ?_
  refine r_load (p := pt 2 0) (v := .int .i64 b.head.region) rfl rfl rfl (by kernel_rfl) ?_
  by_cases h3 : a.head.region = b.head.region
  refine r_bin (v := .bool true) (vx := .int .i64 a.head.region) (vy := .int .i64 b.head.region) rfl rfl rfl rfl (eql_t (by omega)) ?_
  refine r_pick (v := .bool true) rfl rfl rfl ?_
  refine r_move (v := .bool true) rfl rfl rfl ?_
  refine r_fieldAddr (b := 1) (o := 0) (n := 0) (o' := 0) rfl rfl rfl rfl rfl ?_
  refine r_fieldAddr (b := 1) (o := 0) (n := 1) (o' := 1) rfl rfl rfl rfl rfl ?_
  refine r_load (p := pt 1 1) (v := .int .i64 a.head.epoch) rfl rfl rfl (by kernel_rfl) ?_
  refine r_fieldAddr (b := 2) (o := 0) (n := 0) (o' := 0) rfl rfl rfl rfl rfl ?_
  refine r_fieldAddr (b := 2) (o := 0) (n := 1) (o' := 1) rfl rfl rfl rfl rfl ?_
  refine r_load (p := pt 2 1) (v := .int .i64 b.head.epoch) rfl rfl rfl (by kernel_rfl) ?_
  by_cases h4 : a.head.epoch = b.head.epoch
  refine r_bin (v := .bool true) (vx := .int .i64 a.head.epoch) (vy := .int .i64 b.head.epoch) rfl rfl rfl rfl (eql_t (by omega)) ?_
  refine r_pick (v := .bool true) rfl rfl rfl ?_
  refine r_move (v := .bool true) rfl rfl rfl ?_
  refine r_fieldAddr (b := 1) (o := 0) (n := 0) (o' := 0) rfl rfl rfl rfl rfl ?_
  refine r_fieldAddr (b := 1) (o := 0) (n := 2) (o' := 2) rfl rfl rfl rfl rfl ?_
  refine r_load (p := pt 1 2) (v := .int .i64 a.head.size) rfl rfl rfl (by kernel_rfl) ?_
  refine r_fieldAddr (b := 2) (o := 0) (n := 0) (o' := 0) rfl rfl rfl rfl rfl ?_
  refine r_fieldAddr (b := 2) (o := 0) (n := 2) (o' := 2) rfl rfl rfl rfl rfl ?_
  refine r_load (p := pt 2 2) (v := .int .i64 b.head.size) rfl rfl rfl (by kernel_rfl) ?_
  by_cases h5 : a.head.size = b.head.size
  refine r_bin (v := .bool true) (vx := .int .i64 a.head.size) (vy := .int .i64 b.head.size) rfl rfl rfl rfl (eql_t (by omega)) ?_
  refine r_pick (v := .bool true) rfl rfl rfl ?_
  refine r_move (v := .bool true) rfl rfl rfl ?_
  refine r_fieldAddr (b := 1) (o := 0) (n := 0) (o' := 0) rfl rfl rfl rfl rfl ?_
  refine r_fieldAddr (b := 1) (o := 0) (n := 3) (o' := 3) rfl rfl rfl rfl rfl ?_
  refine r_load (p := pt 1 3) (v := dgV a.head.root) rfl rfl rfl (by kernel_rfl) ?_
  refine r_fieldAddr (b := 2) (o := 0) (n := 0) (o' := 0) rfl rfl rfl rfl rfl ?_
  refine r_fieldAddr (b := 2) (o := 0) (n := 3) (o' := 3) rfl rfl rfl rfl rfl ?_
  refine r_load (p := pt 2 3) (v := dgV b.head.root) rfl rfl rfl (by kernel_rfl) ?_
  rcases Bool.eq_false_or_eq_true (sameB 32 a.head.root b.head.root) with h6 | h6
  refine r_bin (v := .bool false) (vx := dgV a.head.root) (vy := dgV b.head.root) rfl rfl rfl rfl (Eq.trans (neq_dg (n := 32) (a := a.head.root) (b := b.head.root) (by kernel_rfl) rfl rfl rfl) (by rw [h6] <;> rfl)) ?_
  refine r_pick (v := .bool false) rfl rfl rfl ?_
  refine r_assign (v := .bool false) rfl rfl rfl ?_
  refine r_doneN (x_then (c_ret (x_end ?_)))
  rw [show apE kk master a b = false from by unfold apE eqHead; simp [*, sameB_refl]]
  exact end_same (v := .bool false) rfl rfl rfl (by kernel_rfl) rfl
  refine r_bin (v := .bool true) (vx := dgV a.head.root) (vy := dgV b.head.root) rfl rfl rfl rfl (Eq.trans (neq_dg (n := 32) (a := a.head.root) (b := b.head.root) (by kernel_rfl) rfl rfl rfl) (by rw [h6] <;> rfl)) ?_
  refine r_pick (v := .bool true) rfl rfl rfl ?_
  refine r_assign (v := .bool true) rfl rfl rfl ?_
  refine r_doneN (x_then (c_ret (x_end ?_)))
  rw [show apE kk master a b = true from by unfold apE eqHead; simp [*, sameB_refl]]
  exact end_same (v := .bool true) rfl rfl rfl (by kernel_rfl) rfl
  refine r_bin (v := .bool false) (vx := .int .i64 a.head.size) (vy := .int .i64 b.head.size) rfl rfl rfl rfl (eql_f (by omega)) ?_
  refine r_pick (v := .bool false) rfl rfl rfl ?_
  refine r_move (v := .bool false) rfl rfl rfl ?_
  refine r_skip rfl rfl ?_
  refine r_skip rfl rfl ?_
  refine r_skip rfl rfl ?_
  refine r_skip rfl rfl ?_
  refine r_skip rfl rfl ?_
  refine r_skip rfl rfl ?_
  refine r_skip rfl rfl ?_
  refine r_pick (v := .bool false) rfl rfl rfl ?_
  refine r_assign (v := .bool false) rfl rfl rfl ?_
  refine r_doneN (x_then (c_ret (x_end ?_)))
  rw [show apE kk master a b = false from by unfold apE eqHead; simp [*, sameB_refl]]
  exact end_same (v := .bool false) rfl rfl rfl (by kernel_rfl) rfl
  refine r_bin (v := .bool false) (vx := .int .i64 a.head.epoch) (vy := .int .i64 b.head.epoch) rfl rfl rfl rfl (eql_f (by omega)) ?_
  refine r_pick (v := .bool false) rfl rfl rfl ?_
  refine r_move (v := .bool false) rfl rfl rfl ?_
  refine r_skip rfl rfl ?_
  refine r_skip rfl rfl ?_
  refine r_skip rfl rfl ?_
  refine r_skip rfl rfl ?_
  refine r_skip rfl rfl ?_
  refine r_skip rfl rfl ?_
  refine r_skip rfl rfl ?_
  refine r_pick (v := .bool false) rfl rfl rfl ?_
  refine r_move (v := .bool false) rfl rfl rfl ?_
  refine r_skip rfl rfl ?_
  refine r_skip rfl rfl ?_
  refine r_skip rfl rfl ?_
  refine r_skip rfl rfl ?_
  refine r_skip rfl rfl ?_
  refine r_skip rfl rfl ?_
  refine r_skip rfl rfl ?_
  refine r_pick (v := .bool false) rfl rfl rfl ?_
  refine r_assign (v := .bool false) rfl rfl rfl ?_
  refine r_doneN (x_then (c_ret (x_end ?_)))
  rw [show apE kk master a b = false from by unfold apE eqHead; simp [*, sameB_refl]]
  exact end_same (v := .bool false) rfl rfl rfl (by kernel_rfl) rfl
  refine r_bin (v := .bool false) (vx := .int .i64 a.head.region) (vy := .int .i64 b.head.region) rfl rfl rfl rfl (eql_f (by omega)) ?_
  refine r_pick (v := .bool false) rfl rfl rfl ?_
  refine r_move (v := .bool false) rfl rfl rfl ?_
  refine r_skip rfl rfl ?_
  refine r_skip rfl rfl ?_
  refine r_skip rfl rfl ?_
  refine r_skip rfl rfl ?_
  refine r_skip rfl rfl ?_
  refine r_skip rfl rfl ?_
  refine r_skip rfl rfl ?_
  refine r_pick (v := .bool false) rfl rfl rfl ?_
  refine r_move (v := .bool false) rfl rfl rfl ?_
  refine r_skip rfl rfl ?_
  refine r_skip rfl rfl ?_
  refine r_skip rfl rfl ?_
  refine r_skip rfl rfl ?_
  refine r_skip rfl rfl ?_
  refine r_skip rfl rfl ?_
  refine r_skip rfl rfl ?_
  refine r_pick (v := .bool false) rfl rfl rfl ?_
  refine r_move (v := .bool false) rfl rfl rfl ?_
  refine r_skip rfl rfl ?_
  refine r_skip rfl rfl ?_
  refine r_skip rfl rfl ?_
  refine r_skip rfl rfl ?_
  refine r_skip rfl rfl ?_
  refine r_skip rfl rfl ?_
  refine r_skip rfl rfl ?_
  refine r_pick (v := .bool false) rfl rfl rfl ?_
  refine r_assign (v := .bool false) rfl rfl rfl ?_
  refine r_doneN (x_then (c_ret (x_end ?_)))
  rw [show apE kk master a b = false from by unfold apE eqHead; simp [*, sameB_refl]]
  exact end_same (v := .bool false) rfl rfl rfl (by kernel_rfl) rfl
  refine r_bin (v := .bool false) (vx := .int .i64 ((verifyR kk master b))) (vy := .int .i64 0) rfl rfl rfl rfl (eql_f (by omega)) ?_
  refine r_pick (v := .bool false) rfl rfl rfl ?_
  refine r_assign (v := .bool false) rfl rfl rfl ?_
  refine r_doneN (x_then (c_seq (c_reg ?_)))
  refine r_move (v := .bool false) rfl rfl rfl ?_
  refine r_move (v := .bool false) rfl rfl rfl ?_
  refine r_skip rfl rfl ?_
  refine r_skip rfl rfl ?_
  refine r_skip rfl rfl ?_
  refine r_skip rfl rfl ?_
  refine r_skip rfl rfl ?_
  refine r_skip rfl rfl ?_
  refine r_skip rfl rfl ?_
  refine r_pick (v := .bool false) rfl rfl rfl ?_
  refine r_move (v := .bool false) rfl rfl rfl ?_
  refine r_skip rfl rfl ?_
  refine r_skip rfl rfl ?_
  refine r_skip rfl rfl ?_
  refine r_skip rfl rfl ?_
  refine r_skip rfl rfl ?_
  refine r_skip rfl rfl ?_
  refine r_skip rfl rfl ?_
  refine r_pick (v := .bool false) rfl rfl rfl ?_
  refine r_move (v := .bool false) rfl rfl rfl ?_
  refine r_skip rfl rfl ?_
  refine r_skip rfl rfl ?_
  refine r_skip rfl rfl ?_
  refine r_skip rfl rfl ?_
  refine r_skip rfl rfl ?_
  refine r_skip rfl rfl ?_
  refine r_skip rfl rfl ?_
  refine r_pick (v := .bool false) rfl rfl rfl ?_
  refine r_move (v := .bool false) rfl rfl rfl ?_
  refine r_skip rfl rfl ?_
  refine r_skip rfl rfl ?_
  refine r_skip rfl rfl ?_
  refine r_skip rfl rfl ?_
  refine r_skip rfl rfl ?_
  refine r_skip rfl rfl ?_
  refine r_skip rfl rfl ?_
  refine r_pick (v := .bool false) rfl rfl rfl ?_
  refine r_assign (v := .bool false) rfl rfl rfl ?_
  refine r_doneN (x_then (c_ret (x_end ?_)))
  rw [show apE kk master a b = false from by unfold apE eqHead; simp [*, sameB_refl]]
  exact end_same (v := .bool false) rfl rfl rfl (by kernel_rfl) rfl
  refine r_bin (v := .bool false) (vx := .int .i64 ((verifyR kk master a))) (vy := .int .i64 0) rfl rfl rfl rfl (eql_f (by omega)) ?_
  refine r_move (v := .bool false) rfl rfl rfl ?_
  refine r_skip rfl rfl ?_
  refine r_skip rfl rfl ?_
  refine r_skip rfl rfl ?_
  refine r_skip rfl rfl ?_
  refine r_pick (v := .bool false) rfl rfl rfl ?_
  refine r_assign (v := .bool false) rfl rfl rfl ?_
  refine r_doneN (x_then (c_seq (c_reg ?_)))
  refine r_move (v := .bool false) rfl rfl rfl ?_
  refine r_move (v := .bool false) rfl rfl rfl ?_
  refine r_skip rfl rfl ?_
  refine r_skip rfl rfl ?_
  refine r_skip rfl rfl ?_
  refine r_skip rfl rfl ?_
  refine r_skip rfl rfl ?_
  refine r_skip rfl rfl ?_
  refine r_skip rfl rfl ?_
  refine r_pick (v := .bool false) rfl rfl rfl ?_
  refine r_move (v := .bool false) rfl rfl rfl ?_
  refine r_skip rfl rfl ?_
  refine r_skip rfl rfl ?_
  refine r_skip rfl rfl ?_
  refine r_skip rfl rfl ?_
  refine r_skip rfl rfl ?_
  refine r_skip rfl rfl ?_
  refine r_skip rfl rfl ?_
  refine r_pick (v := .bool false) rfl rfl rfl ?_
  refine r_move (v := .bool false) rfl rfl rfl ?_
  refine r_skip rfl rfl ?_
  refine r_skip rfl rfl ?_
  refine r_skip rfl rfl ?_
  refine r_skip rfl rfl ?_
  refine r_skip rfl rfl ?_
  refine r_skip rfl rfl ?_
  refine r_skip rfl rfl ?_
  refine r_pick (v := .bool false) rfl rfl rfl ?_
  refine r_move (v := .bool false) rfl rfl rfl ?_
  refine r_skip rfl rfl ?_
  refine r_skip rfl rfl ?_
  refine r_skip rfl rfl ?_
  refine r_skip rfl rfl ?_
  refine r_skip rfl rfl ?_
  refine r_skip rfl rfl ?_
  refine r_skip rfl rfl ?_
  refine r_pick (v := .bool false) rfl rfl rfl ?_
  refine r_assign (v := .bool false) rfl rfl rfl ?_
  refine r_doneN (x_then (c_ret (x_end ?_)))
  rw [show apE kk master a b = false from by unfold apE eqHead; simp [*, sameB_refl]]
  exact end_same (v := .bool false) rfl rfl rfl (by kernel_rfl) rfl
theorem AnchorsAdmits_ok (kk : Nat → BitVec 32) (hG : G 1 = some (rowE w32 64 kk)) (hG2 : G 0 = some (rowE w32 64 kk)) (master : D) (l : List Item) (c : Nat) (hl : l.length ≤ c) (hcc : c ≤ 9223372036854775807) (s : Signed) (m : Int) (hm : -9223372036854775808 ≤ m ∧ m ≤ 9223372036854775807) (ds : List D) (p : Nat) (hp : ds.length ≤ p) (hpp : p ≤ 9223372036854775807) (b : Signed) : CallL Tryd.prog G 4 [dgV master, slv 0 0 l.length c, signedV s, .int .i64 m, slv 1 0 ds.length p, signedV b] [rwR cItem l, dsR ds] (.bool true) [rwR cItem l, dsR ds] := by
  refine walk (fn := Tryd.f4) (nt := 65) rfl rfl rfl rfl ?_
  refine c_hole 5 (H' := [rwR cItem l, dsR ds, hole, hole, hole, hole, hole]) rfl ?_
  refine c_seq (c_reg ?_)
  refine r_box (v := dgV master) (b := dgB master) (nid := 2) (H' := [rwR cItem l, dsR ds, dgB master, hole, hole, hole, hole]) rfl rfl rfl (by kernel_rfl) (by kernel_rfl) ?_
  refine r_box (v := signedV s) (b := bxB 69 (signedC s)) (nid := 3) (H' := [rwR cItem l, dsR ds, dgB master, bxB 69 (signedC s), hole, hole, hole]) rfl rfl rfl (by kernel_rfl) (by kernel_rfl) ?_
  refine r_box (v := signedV b) (b := bxB 69 (signedC b)) (nid := 4) (H' := [rwR cItem l, dsR ds, dgB master, bxB 69 (signedC s), bxB 69 (signedC b), hole, hole]) rfl rfl rfl (by kernel_rfl) (by kernel_rfl) ?_
  refine r_assign (v := .bool false) rfl rfl rfl ?_
  refine r_doneN (x_then (c_seq (c_seq (c_reg ?_))))
  refine r_move (v := slv 0 0 l.length c) rfl rfl rfl ?_
  refine r_callN (e := [some (0, 0)]) (nid := 0) (refBig_ok (G := G) l l.length c rfl (by omega) (by omega)) (vals := [slv 0 0 l.length c]) (v := .bool (bigB l)) (H' := [rwR cItem l, dsR ds, dgB master, bxB 69 (signedC s), bxB 69 (signedC b), hole, hole]) rfl rfl rfl rfl rfl rfl rfl ⟨⟨⟨rfl, rfl, rfl, by first | omega | exact Nat.le_refl _, by first | omega | exact Nat.le_refl _⟩, trivial⟩, ⟨(emb_rwR rfl), trivial⟩, rfl, rfl, rfl⟩ rfl (by kernel_rfl) ?_
  refine r_move (v := .bool (bigB l)) rfl rfl rfl ?_
  rcases Bool.eq_false_or_eq_true (bigB l) with h1 | h1
  refine r_skip (by exact congrArg (fun b => some (b == false)) h1) rfl ?_
  refine r_skip (by exact congrArg (fun b => some (b == false)) h1) rfl ?_
  refine r_skip (by exact congrArg (fun b => some (b == false)) h1) rfl ?_
  refine r_pick (v := .bool true) rfl rfl (by show some (if _ then _ else _) = _; rw [h1] <;> rfl) ?_
  refine r_doneN (x_then ?_)
  refine c_true rfl ?_
  refine c_seq (c_reg ?_)
  refine r_assign (v := .bool true) rfl rfl rfl ?_
  refine r_doneN (x_then (c_ret (x_thenR (x_end ?_))))
  exact end_map [0, 1] (v := .bool true) rfl (by kernel_rfl) rfl rfl (by decide) (by simp [keptB, rwR, cItem, dsR]) rfl
  refine r_move (v := slv 1 0 ds.length p) (by exact congrArg (fun b => some (b == false)) h1) rfl rfl ?_
  refine r_len (p := slv 1 0 ds.length p) (v := .int .i64 (ds.length : Nat)) (by exact congrArg (fun b => some (b == false)) h1) rfl rfl rfl ?_
  by_cases h2 : 100 < (ds.length : Nat)
  refine r_bin (v := .bool true) (vx := .int .i64 (ds.length : Nat)) (vy := .int .i64 100) (by exact congrArg (fun b => some (b == false)) h1) rfl rfl rfl (gtr_t (by omega)) ?_
  refine r_pick (v := .bool true) rfl rfl (by show some (if _ then _ else _) = _; rw [h1] <;> rfl) ?_
  refine r_doneN (x_then ?_)
  refine c_true rfl ?_
  refine c_seq (c_reg ?_)
  refine r_assign (v := .bool true) rfl rfl rfl ?_
  refine r_doneN (x_then (c_ret (x_thenR (x_end ?_))))
  exact end_map [0, 1] (v := .bool true) rfl (by kernel_rfl) rfl rfl (by decide) (by simp [keptB, rwR, cItem, dsR]) rfl
  refine r_bin (v := .bool false) (vx := .int .i64 (ds.length : Nat)) (vy := .int .i64 100) (by exact congrArg (fun b => some (b == false)) h1) rfl rfl rfl (gtr_f (by omega)) ?_
  refine r_pick (v := .bool false) rfl rfl (by show some (if _ then _ else _) = _; rw [h1] <;> rfl) ?_
  refine r_doneN (x_then ?_)
  refine c_false rfl ?_
  refine c_skip (x_then (c_seq ?_))
  have hn60 : l.length ≤ 60 := bigB_len (by assumption)
  refine c_reg ?_
  refine r_move (v := slv 0 0 l.length c) rfl rfl rfl ?_
  refine r_callN (e := [some (0, 0)]) (nid := 5) (refOwn_ok (G := G) l l.length c rfl (by omega) (by omega)) (vals := [slv 0 0 l.length c]) (v := slv 5 0 l.length l.length) (H' := [rwR cItem l, dsR ds, dgB master, bxB 69 (signedC s), bxB 69 (signedC b), rwB cItem l, hole]) rfl rfl rfl rfl rfl rfl rfl ⟨⟨⟨rfl, rfl, rfl, by first | omega | exact Nat.le_refl _, by first | omega | exact Nat.le_refl _⟩, trivial⟩, ⟨(emb_rwR rfl), trivial⟩, rfl, rfl, rfl⟩ (by kernel_rfl) (by kernel_rfl) ?_
  refine r_assign (v := slv 5 0 l.length l.length) rfl rfl rfl ?_
  refine r_doneN (x_then (c_seq (c_reg ?_)))
  refine r_move (v := slv 1 0 ds.length p) rfl rfl rfl ?_
  refine r_callN (e := [some (1, 0)]) (nid := 6) (Own_ok' (G := G) ds p ds.length rfl (by omega)) (vals := [slv 1 0 ds.length p]) (v := slv 6 0 ds.length ds.length) (H' := [rwR cItem l, dsR ds, dgB master, bxB 69 (signedC s), bxB 69 (signedC b), rwB cItem l, dsB ds]) rfl rfl rfl rfl rfl rfl rfl ⟨⟨⟨rfl, rfl, rfl, by first | omega | exact Nat.le_refl _, by first | omega | exact Nat.le_refl _⟩, trivial⟩, ⟨(emb_dsR rfl), trivial⟩, rfl, rfl, rfl⟩ (by kernel_rfl) (by kernel_rfl) ?_
  refine r_assign (v := slv 6 0 ds.length ds.length) rfl rfl rfl ?_
  refine r_doneN (x_then (c_seq (c_reg ?_)))
  refine r_load (p := pt 2 0) (v := dgV master) rfl rfl rfl (by kernel_rfl) ?_
  refine r_move (v := slv 0 0 l.length c) rfl rfl rfl ?_
  refine r_load (p := pt 3 0) (v := signedV s) rfl rfl rfl (by kernel_rfl) ?_
  refine r_move (v := .int .i64 m) rfl rfl rfl ?_
  refine r_move (v := slv 1 0 ds.length p) rfl rfl rfl ?_
  refine r_callN (e := [some (0, 0), some (1, 0)]) (nid := 0) (Admit_ok (G := G) kk hG master l l.length c rfl (by omega) (by omega) s m ds ds.length p rfl (by omega) (by omega) (by omega) (by omega)) (vals := [dgV master, slv 0 0 l.length c, signedV s, .int .i64 m, slv 1 0 ds.length p]) (v := .int .i64 ((admE kk master l s m ds))) (H' := [rwR cItem l, dsR ds, dgB master, bxB 69 (signedC s), bxB 69 (signedC b), rwB cItem l, dsB ds]) rfl rfl rfl rfl rfl rfl rfl ⟨⟨rfl, ⟨rfl, rfl, rfl, by first | omega | exact Nat.le_refl _, by first | omega | exact Nat.le_refl _⟩, rfl, rfl, ⟨rfl, rfl, rfl, by first | omega | exact Nat.le_refl _, by first | omega | exact Nat.le_refl _⟩, trivial⟩, ⟨(emb_rwR rfl), (emb_dsR rfl), trivial⟩, rfl, rfl, rfl⟩ rfl (by kernel_rfl) ?_
  refine r_assign (v := .int .i64 ((admE kk master l s m ds))) rfl rfl rfl ?_
  refine r_doneN (x_then (c_seq ?_))
  refine c_draw (by kernel_rfl) ?_
  refine r_callP (admits_ok (G := G) kk hG) (vals := []) (res' := .bool true) rfl rfl rfl rfl rfl rfl ?_
  refine r_move (v := .bool true) rfl rfl rfl ?_
  refine r_move (v := .int .i64 ((admE kk master l s m ds))) rfl rfl rfl ?_
  refine r_load (p := pt 2 0) (v := dgV master) rfl rfl rfl (by kernel_rfl) ?_
  refine r_move (v := slv 5 0 l.length l.length) rfl rfl rfl ?_
  refine r_load (p := pt 3 0) (v := signedV s) rfl rfl rfl (by kernel_rfl) ?_
  refine r_move (v := .int .i64 m) rfl rfl rfl ?_
  refine r_move (v := slv 6 0 ds.length ds.length) rfl rfl rfl ?_
  refine r_callN (e := [some (5, 0), some (6, 0)]) (nid := 0) (refAdmit_ok (G := G) kk hG hG2 master l l.length l.length rfl (by omega) (by omega) s m ds ds.length ds.length rfl (by omega) (by omega) (by omega) (by omega)) (vals := [dgV master, slv 5 0 l.length l.length, signedV s, .int .i64 m, slv 6 0 ds.length ds.length]) (v := .int .i64 ((admE kk master l s m ds))) (H' := [rwR cItem l, dsR ds, dgB master, bxB 69 (signedC s), bxB 69 (signedC b), rwB cItem l, dsB ds]) rfl rfl rfl rfl rfl rfl rfl ⟨⟨rfl, ⟨rfl, rfl, rfl, by first | omega | exact Nat.le_refl _, by first | omega | exact Nat.le_refl _⟩, rfl, rfl, ⟨rfl, rfl, rfl, by first | omega | exact Nat.le_refl _, by first | omega | exact Nat.le_refl _⟩, trivial⟩, ⟨(emb_rwB rfl), (emb_dsB rfl), trivial⟩, rfl, rfl, rfl⟩ rfl (by kernel_rfl) ?_
  refine r_bin (v := .bool true) (vx := .int .i64 ((admE kk master l s m ds))) (vy := .int .i64 ((admE kk master l s m ds))) rfl rfl rfl rfl (eql_t (by omega)) ?_
  refine r_pick (v := .bool true) rfl rfl rfl ?_
  refine r_move (v := .bool true) rfl rfl rfl ?_
  refine r_load (p := pt 2 0) (v := dgV master) rfl rfl rfl (by kernel_rfl) ?_
  refine r_load (p := pt 3 0) (v := signedV s) rfl rfl rfl (by kernel_rfl) ?_
  refine r_load (p := pt 4 0) (v := signedV b) rfl rfl rfl (by kernel_rfl) ?_
  refine r_callP (Apart_ok (G := G) kk hG master s b) (vals := [dgV master, signedV s, signedV b]) (res' := .bool (apE kk master s b)) rfl rfl rfl rfl rfl rfl ?_
  refine r_load (p := pt 2 0) (v := dgV master) rfl rfl rfl (by kernel_rfl) ?_
  refine r_load (p := pt 3 0) (v := signedV s) rfl rfl rfl (by kernel_rfl) ?_
  refine r_load (p := pt 4 0) (v := signedV b) rfl rfl rfl (by kernel_rfl) ?_
  refine r_callP (refApart_ok (G := G) kk hG hG2 master s b) (vals := [dgV master, signedV s, signedV b]) (res' := .bool (apE kk master s b)) rfl rfl rfl rfl rfl rfl ?_
  rcases Bool.eq_false_or_eq_true (apE kk master s b) with h3 | h3
  refine r_bin (v := .bool true) (vx := .bool (apE kk master s b)) (vy := .bool (apE kk master s b)) rfl rfl rfl rfl (eqlB' rfl h3 h3) ?_
  refine r_pick (v := .bool true) rfl rfl rfl ?_
  refine r_move (v := .bool true) rfl rfl rfl ?_
  refine r_move (v := slv 0 0 l.length c) rfl rfl rfl ?_
  refine r_move (v := slv 5 0 l.length l.length) rfl rfl rfl ?_
  refine r_callN (e := [some (0, 0), some (5, 0)]) (nid := 0) (refSame_refl (G := G) l l.length c l.length rfl (by omega) (by omega) (by omega)) (vals := [slv 0 0 l.length c, slv 5 0 l.length l.length]) (v := .bool true) (H' := [rwR cItem l, dsR ds, dgB master, bxB 69 (signedC s), bxB 69 (signedC b), rwB cItem l, dsB ds]) rfl rfl rfl rfl rfl rfl rfl ⟨⟨⟨rfl, rfl, rfl, by first | omega | exact Nat.le_refl _, by first | omega | exact Nat.le_refl _⟩, ⟨rfl, rfl, rfl, by first | omega | exact Nat.le_refl _, by first | omega | exact Nat.le_refl _⟩, trivial⟩, ⟨(emb_rwR rfl), (emb_rwB rfl), trivial⟩, rfl, rfl, rfl⟩ rfl (by kernel_rfl) ?_
  refine r_pick (v := .bool true) rfl rfl rfl ?_
  refine r_move (v := .bool true) rfl rfl rfl ?_
  refine r_move (v := slv 1 0 ds.length p) rfl rfl rfl ?_
  refine r_move (v := slv 6 0 ds.length ds.length) rfl rfl rfl ?_
  refine r_callN (e := [some (1, 0), some (6, 0)]) (nid := 0) (Digests_eq (G := G) ds ds.length p ds.length rfl (by omega)) (vals := [slv 1 0 ds.length p, slv 6 0 ds.length ds.length]) (v := .bool true) (H' := [rwR cItem l, dsR ds, dgB master, bxB 69 (signedC s), bxB 69 (signedC b), rwB cItem l, dsB ds]) rfl rfl rfl rfl rfl rfl rfl ⟨⟨⟨rfl, rfl, rfl, by first | omega | exact Nat.le_refl _, by first | omega | exact Nat.le_refl _⟩, ⟨rfl, rfl, rfl, by first | omega | exact Nat.le_refl _, by first | omega | exact Nat.le_refl _⟩, trivial⟩, ⟨(emb_dsR rfl), (emb_dsB rfl), trivial⟩, rfl, rfl, rfl⟩ rfl (by kernel_rfl) ?_
  refine r_pick (v := .bool true) rfl rfl rfl ?_
  refine r_assign (v := .bool true) rfl rfl rfl ?_
  refine r_doneD (drawnT_ok [[], [0], [0, 1], [0, 1], [0, 1], [0, 1], [0, 1], [0, 1], [0, 1, 3, 4, 5, 6, 7], [0, 1, 2, 3, 4, 5, 6, 7, 8], [0, 1, 2, 3, 4, 5, 6, 7, 8, 9], [0, 1, 2, 3, 4, 5, 6, 7, 8, 9, 10], [0, 1, 2, 3, 4, 5, 6, 7, 8, 9, 10, 11], [0, 1, 2, 3, 4, 5, 6, 7, 8, 9, 10, 11], [0, 1, 2, 3, 4, 5, 6, 7, 8, 9, 10, 11], [0, 1, 2, 3, 4, 5, 6, 7, 8, 9, 10, 11, 12, 13, 14], [0, 1, 2, 3, 4, 5, 6, 7, 8, 9, 10, 11], [0, 1, 2, 3, 4, 5, 6, 7, 8, 9, 10, 11], [0, 1, 2, 3, 4, 5, 6, 7, 8, 9, 10, 11], [0, 1, 2, 3, 4, 5, 6, 7, 8, 9, 10, 11, 12, 13, 14, 15, 16, 17, 18], [0, 1, 2, 3, 4, 5, 6, 7, 8, 9, 10, 11, 12, 13, 14, 15, 16, 17, 18, 19], [0, 1, 2, 3, 4, 5, 6, 7, 8, 9, 10, 11, 12, 13, 14, 15, 16, 17, 18, 19, 20], [0, 1, 2, 3, 4, 5, 6, 7, 8, 9, 10, 11, 12, 13, 14, 15, 16, 17, 18, 19, 20, 21], [0, 1, 2, 3, 4, 5, 6, 7, 8, 9, 10, 11, 12, 13, 14, 15, 16, 17, 18, 19, 20, 21, 22], [0, 1, 2, 3, 4, 5, 6, 7, 8, 9, 10, 11, 12, 13, 14, 15, 16, 17, 18, 19, 20, 21, 22], [0, 1, 2, 3, 4, 5, 6, 7, 8, 9, 10, 11, 12, 13, 14, 15, 16, 17, 18, 19, 20, 21, 22, 23, 24], [0, 1, 2, 3, 4, 5, 6, 7, 8, 9, 10, 11, 12, 13, 14, 15, 16, 17, 18, 19, 20, 21, 22, 23, 24, 25], [0, 1, 2, 3, 4, 5, 6, 7, 8, 9, 10, 11, 12, 13, 14, 15, 16, 17, 18, 19, 20, 21, 22, 23, 24, 25, 26], [0, 1, 2, 3, 4, 5, 6, 7, 8, 9, 10, 11, 12, 13, 14, 15, 16, 17, 18, 19, 20, 21, 22, 23, 24, 25, 26, 27], [0, 1, 2, 3, 4, 5, 6, 7, 8, 9, 10, 11, 12, 13, 14, 15, 16, 17, 18, 19, 20, 21, 22, 23, 24, 25, 26, 27], [0, 1, 2, 3, 4, 5, 6, 7, 8, 9, 10, 11, 12, 13, 14, 15, 16, 17, 18, 19, 20, 21, 22, 23, 24, 25, 26, 27, 28, 29], [0, 1, 2, 3, 4, 5, 6, 7, 8, 9, 10, 11, 12, 13, 14, 15, 16, 17, 18, 19, 20, 21, 22, 23, 24, 25, 26, 27, 28, 29, 30], [0, 1, 2, 3, 4, 5, 6, 7, 8, 9, 10, 11, 12, 13, 14, 15, 16, 17, 18, 19, 20, 21, 22, 23, 24, 25, 26, 27, 28, 29, 30, 31]] (by kernel_rfl) (by kernel_rfl)) ?_
  refine x_then (c_ret (x_end ?_))
  exact end_map [0, 1] (v := .bool true) rfl (by kernel_rfl) rfl rfl (by decide) (by simp [keptB, rwR, cItem, dsR]) rfl
  refine r_bin (v := .bool true) (vx := .bool (apE kk master s b)) (vy := .bool (apE kk master s b)) rfl rfl rfl rfl (eqlB' rfl h3 h3) ?_
  refine r_pick (v := .bool true) rfl rfl rfl ?_
  refine r_move (v := .bool true) rfl rfl rfl ?_
  refine r_move (v := slv 0 0 l.length c) rfl rfl rfl ?_
  refine r_move (v := slv 5 0 l.length l.length) rfl rfl rfl ?_
  refine r_callN (e := [some (0, 0), some (5, 0)]) (nid := 0) (refSame_refl (G := G) l l.length c l.length rfl (by omega) (by omega) (by omega)) (vals := [slv 0 0 l.length c, slv 5 0 l.length l.length]) (v := .bool true) (H' := [rwR cItem l, dsR ds, dgB master, bxB 69 (signedC s), bxB 69 (signedC b), rwB cItem l, dsB ds]) rfl rfl rfl rfl rfl rfl rfl ⟨⟨⟨rfl, rfl, rfl, by first | omega | exact Nat.le_refl _, by first | omega | exact Nat.le_refl _⟩, ⟨rfl, rfl, rfl, by first | omega | exact Nat.le_refl _, by first | omega | exact Nat.le_refl _⟩, trivial⟩, ⟨(emb_rwR rfl), (emb_rwB rfl), trivial⟩, rfl, rfl, rfl⟩ rfl (by kernel_rfl) ?_
  refine r_pick (v := .bool true) rfl rfl rfl ?_
  refine r_move (v := .bool true) rfl rfl rfl ?_
  refine r_move (v := slv 1 0 ds.length p) rfl rfl rfl ?_
  refine r_move (v := slv 6 0 ds.length ds.length) rfl rfl rfl ?_
  refine r_callN (e := [some (1, 0), some (6, 0)]) (nid := 0) (Digests_eq (G := G) ds ds.length p ds.length rfl (by omega)) (vals := [slv 1 0 ds.length p, slv 6 0 ds.length ds.length]) (v := .bool true) (H' := [rwR cItem l, dsR ds, dgB master, bxB 69 (signedC s), bxB 69 (signedC b), rwB cItem l, dsB ds]) rfl rfl rfl rfl rfl rfl rfl ⟨⟨⟨rfl, rfl, rfl, by first | omega | exact Nat.le_refl _, by first | omega | exact Nat.le_refl _⟩, ⟨rfl, rfl, rfl, by first | omega | exact Nat.le_refl _, by first | omega | exact Nat.le_refl _⟩, trivial⟩, ⟨(emb_dsR rfl), (emb_dsB rfl), trivial⟩, rfl, rfl, rfl⟩ rfl (by kernel_rfl) ?_
  refine r_pick (v := .bool true) rfl rfl rfl ?_
  refine r_assign (v := .bool true) rfl rfl rfl ?_
  refine r_doneD (drawnT_ok [[], [0], [0, 1], [0, 1], [0, 1], [0, 1], [0, 1], [0, 1], [0, 1, 3, 4, 5, 6, 7], [0, 1, 2, 3, 4, 5, 6, 7, 8], [0, 1, 2, 3, 4, 5, 6, 7, 8, 9], [0, 1, 2, 3, 4, 5, 6, 7, 8, 9, 10], [0, 1, 2, 3, 4, 5, 6, 7, 8, 9, 10, 11], [0, 1, 2, 3, 4, 5, 6, 7, 8, 9, 10, 11], [0, 1, 2, 3, 4, 5, 6, 7, 8, 9, 10, 11], [0, 1, 2, 3, 4, 5, 6, 7, 8, 9, 10, 11, 12, 13, 14], [0, 1, 2, 3, 4, 5, 6, 7, 8, 9, 10, 11], [0, 1, 2, 3, 4, 5, 6, 7, 8, 9, 10, 11], [0, 1, 2, 3, 4, 5, 6, 7, 8, 9, 10, 11], [0, 1, 2, 3, 4, 5, 6, 7, 8, 9, 10, 11, 12, 13, 14, 15, 16, 17, 18], [0, 1, 2, 3, 4, 5, 6, 7, 8, 9, 10, 11, 12, 13, 14, 15, 16, 17, 18, 19], [0, 1, 2, 3, 4, 5, 6, 7, 8, 9, 10, 11, 12, 13, 14, 15, 16, 17, 18, 19, 20], [0, 1, 2, 3, 4, 5, 6, 7, 8, 9, 10, 11, 12, 13, 14, 15, 16, 17, 18, 19, 20, 21], [0, 1, 2, 3, 4, 5, 6, 7, 8, 9, 10, 11, 12, 13, 14, 15, 16, 17, 18, 19, 20, 21, 22], [0, 1, 2, 3, 4, 5, 6, 7, 8, 9, 10, 11, 12, 13, 14, 15, 16, 17, 18, 19, 20, 21, 22], [0, 1, 2, 3, 4, 5, 6, 7, 8, 9, 10, 11, 12, 13, 14, 15, 16, 17, 18, 19, 20, 21, 22, 23, 24], [0, 1, 2, 3, 4, 5, 6, 7, 8, 9, 10, 11, 12, 13, 14, 15, 16, 17, 18, 19, 20, 21, 22, 23, 24, 25], [0, 1, 2, 3, 4, 5, 6, 7, 8, 9, 10, 11, 12, 13, 14, 15, 16, 17, 18, 19, 20, 21, 22, 23, 24, 25, 26], [0, 1, 2, 3, 4, 5, 6, 7, 8, 9, 10, 11, 12, 13, 14, 15, 16, 17, 18, 19, 20, 21, 22, 23, 24, 25, 26, 27], [0, 1, 2, 3, 4, 5, 6, 7, 8, 9, 10, 11, 12, 13, 14, 15, 16, 17, 18, 19, 20, 21, 22, 23, 24, 25, 26, 27], [0, 1, 2, 3, 4, 5, 6, 7, 8, 9, 10, 11, 12, 13, 14, 15, 16, 17, 18, 19, 20, 21, 22, 23, 24, 25, 26, 27, 28, 29], [0, 1, 2, 3, 4, 5, 6, 7, 8, 9, 10, 11, 12, 13, 14, 15, 16, 17, 18, 19, 20, 21, 22, 23, 24, 25, 26, 27, 28, 29, 30], [0, 1, 2, 3, 4, 5, 6, 7, 8, 9, 10, 11, 12, 13, 14, 15, 16, 17, 18, 19, 20, 21, 22, 23, 24, 25, 26, 27, 28, 29, 30, 31]] (by kernel_rfl) (by kernel_rfl)) ?_
  refine x_then (c_ret (x_end ?_))
  exact end_map [0, 1] (v := .bool true) rfl (by kernel_rfl) rfl rfl (by decide) (by simp [keptB, rwR, cItem, dsR]) rfl
end Go.Flat
