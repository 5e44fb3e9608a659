/- Walks and plain laws: what each theorem says, within the bounds that it names. -/
import Derived.Test.YtnifcpffloojcaaDoorS1
set_option linter.unusedVariables false
set_option linter.unusedSimpArgs false
set_option maxRecDepth 20000
namespace Go.Flat
open Go.Proofs
variable {G : Glob}
theorem goodF_atI : ∀ (l : List Item) (ep : Int) (i : Nat), goodF ep l = true → i < l.length → rightI (l.getD i default)
  | [], _, i, _, h => absurd h (by simp)
  | x :: l, ep, 0, h, _ => by
    rw [goodF, Bool.and_eq_true, Bool.and_eq_true] at h
    exact of_decide_eq_true h.1.1
  | x :: l, ep, i + 1, h, hi => by
    rw [goodF, Bool.and_eq_true] at h
    exact goodF_atI l x.epoch i h.2 (by simpa using hi)
def sizH (l : List Item) (k : Int) : Int := if rightL l then (if 0 ≤ k ∧ k ≤ l.length then 0 else 21) else 100
theorem sizH_0 {l : List Item} {k : Int} (h : sizH l k = 0) : rightL l ∧ 0 ≤ k ∧ k ≤ l.length := by
  unfold sizH at h
  split at h
  · split at h
    · exact ⟨by assumption, by assumption⟩
    · omega
  · omega
theorem firL_siz {kk : Nat → BitVec 32} {l : List Item} {k : Int} : (firL kk l k).2 = sizH l k := by
  unfold firL sizH
  split
  · split <;> rfl
  · rfl
theorem refSize_ok (l : List Item) (n c : Nat) (hn : l.length = n) (hc : n ≤ c) (hb : n ≤ 1048576) (k : Int) : CallL Tryd.prog G 32 [slv 0 0 n c, .int .i64 k] [rwR cItem l] (.int .i64 (sizH l k)) [rwR cItem l] := by
  refine walk (fn := Tryd.f32) (nt := 16) rfl rfl rfl rfl ?_
  refine c_seq (c_reg ?_)
  refine r_assign (v := .int .i64 0) rfl rfl rfl ?_
  refine r_doneN (x_then (c_seq (c_seq (c_reg ?_))))
  refine r_move (v := slv 0 0 n c) rfl rfl rfl ?_
  refine r_callN (e := [some (0, 0)]) (nid := 0) (refRightL_ok (G := G) l n c hn (by omega) (by omega)) (vals := [slv 0 0 n c]) (v := .bool (decide (rightL l))) (H' := [rwR cItem l]) rfl rfl rfl rfl rfl rfl rfl ⟨⟨⟨rfl, rfl, rfl, by first | omega | exact Nat.le_refl _, by first | omega | exact Nat.le_refl _⟩, trivial⟩, ⟨(emb_rwR rfl), trivial⟩, rfl, rfl, rfl⟩ rfl (by kernel_rfl) ?_
  rcases Bool.eq_false_or_eq_true (decide (rightL l)) with h1 | h1
  refine r_un (v := .bool false) (vx := .bool (decide (rightL l))) rfl rfl rfl (Eq.trans un_not (congrArg (fun b => some (Value.bool !b)) h1)) ?_
  refine r_doneN (x_then ?_)
  refine c_false rfl ?_
  refine c_skip (x_then (c_seq (c_seq (c_reg ?_))))
  refine r_move (v := .int .i64 k) rfl rfl rfl ?_
  by_cases h2 : k < 0
  refine r_bin (v := .bool true) (vx := .int .i64 k) (vy := .int .i64 0) rfl rfl rfl rfl (lss_t (by omega)) ?_
  refine r_move (v := .bool true) rfl rfl rfl ?_
  refine r_skip rfl rfl ?_
  refine r_skip rfl rfl ?_
  refine r_skip rfl rfl ?_
  refine r_skip rfl rfl ?_
  refine r_pick (v := .bool true) rfl rfl rfl ?_
  refine r_doneN (x_then ?_)
  refine c_true rfl ?_
  refine c_seq (c_reg ?_)
  refine r_assign (v := .int .i64 21) rfl rfl rfl ?_
  refine r_doneN (x_then (c_ret (x_thenR (x_end ?_))))
  rw [show sizH l k = 21 from by unfold sizH; rw [if_pos (of_decide_eq_true (by assumption)), if_neg (by omega)]]
  exact end_same (v := .int .i64 21) rfl rfl rfl (by kernel_rfl) rfl
  refine r_bin (v := .bool false) (vx := .int .i64 k) (vy := .int .i64 0) rfl rfl rfl rfl (lss_f (by omega)) ?_
  refine r_move (v := .bool false) rfl rfl rfl ?_
  refine r_move (v := .int .i64 k) rfl rfl rfl ?_
  refine r_move (v := slv 0 0 n c) rfl rfl rfl ?_
  refine r_len (p := slv 0 0 n c) (v := .int .i64 (n : Nat)) rfl rfl rfl rfl ?_
  by_cases h3 : (n : Nat) < k
  refine r_bin (v := .bool true) (vx := .int .i64 k) (vy := .int .i64 (n : Nat)) rfl rfl rfl rfl (gtr_t (by omega)) ?_
  refine r_pick (v := .bool true) rfl rfl rfl ?_
  refine r_doneN (x_then ?_)
  refine c_true rfl ?_
  refine c_seq (c_reg ?_)
  refine r_assign (v := .int .i64 21) rfl rfl rfl ?_
  refine r_doneN (x_then (c_ret (x_thenR (x_end ?_))))
  rw [show sizH l k = 21 from by unfold sizH; rw [if_pos (of_decide_eq_true (by assumption)), if_neg (by omega)]]
  exact end_same (v := .int .i64 21) rfl rfl rfl (by kernel_rfl) rfl
  refine r_bin (v := .bool false) (vx := .int .i64 k) (vy := .int .i64 (n : Nat)) rfl rfl rfl rfl (gtr_f (by omega)) ?_
  refine r_pick (v := .bool false) rfl rfl rfl ?_
  refine r_doneN (x_then ?_)
  refine c_false rfl ?_
  refine c_skip (x_then (c_seq (c_reg ?_)))
  refine r_assign (v := .int .i64 0) rfl rfl rfl ?_
  refine r_doneN (x_then (c_ret (x_end ?_)))
  rw [show sizH l k = 0 from by unfold sizH; rw [if_pos (of_decide_eq_true (by assumption)), if_pos (by omega)]]
  exact end_same (v := .int .i64 0) rfl rfl rfl (by kernel_rfl) rfl
  refine r_un (v := .bool true) (vx := .bool (decide (rightL l))) rfl rfl rfl (Eq.trans un_not (congrArg (fun b => some (Value.bool !b)) h1)) ?_
  refine r_doneN (x_then ?_)
  refine c_true rfl ?_
  refine c_seq (c_reg ?_)
  refine r_assign (v := .int .i64 100) rfl rfl rfl ?_
  refine r_doneN (x_then (c_ret (x_thenR (x_end ?_))))
  rw [show sizH l k = 100 from if_neg (of_decide_eq_false (by assumption))]
  exact end_same (v := .int .i64 100) rfl rfl rfl (by kernel_rfl) rfl
theorem refHRoot_ok (kk : Nat → BitVec 32) (hG2 : G 2 = some (rowE w32 64 kk)) (l : List Item) (n c : Nat) (hn : l.length = n) (hc : n ≤ c) (hb : n ≤ 1048576) (k : Int) : CallL Tryd.prog G 12 [slv 0 0 n c, .int .i64 k] [rwR cItem l] (.tuple #[dgV (rootH kk l k).1, .int .i64 (rootH kk l k).2]) [rwR cItem l] := by
  refine walk (fn := Tryd.f12) (nt := 19) rfl rfl rfl rfl ?_
  refine c_hole 2 (H' := [rwR cItem l, hole, hole]) rfl ?_
  refine c_seq (c_reg ?_)
  refine r_alloc (b := dgB dz) (nid := 1) (H' := [rwR cItem l, dgB dz, hole]) rfl rfl (by kernel_rfl) (by kernel_rfl) ?_
  refine r_assign (v := .int .i64 0) rfl rfl rfl ?_
  refine r_doneN (x_then (c_seq (c_reg ?_)))
  refine r_move (v := slv 0 0 n c) rfl rfl rfl ?_
  refine r_move (v := .int .i64 k) rfl rfl rfl ?_
  refine r_callN (e := [some (0, 0)]) (nid := 0) (refSize_ok (G := G) l n c hn (by omega) (by omega) k) (vals := [slv 0 0 n c, .int .i64 k]) (v := .int .i64 ((sizH l k))) (H' := [rwR cItem l, dgB dz, hole]) rfl rfl rfl rfl rfl rfl rfl ⟨⟨⟨rfl, rfl, rfl, by first | omega | exact Nat.le_refl _, by first | omega | exact Nat.le_refl _⟩, rfl, trivial⟩, ⟨(emb_rwR rfl), trivial⟩, rfl, rfl, rfl⟩ rfl (by kernel_rfl) ?_
  refine r_assign (v := .int .i64 ((sizH l k))) rfl rfl rfl ?_
  refine r_doneN (x_then (c_seq (c_seq (c_reg ?_))))
  refine r_move (v := .int .i64 ((sizH l k))) rfl rfl rfl ?_
  by_cases h1 : ((sizH l k)) ≠ 0
  refine r_bin (v := .bool true) (vx := .int .i64 ((sizH l k))) (vy := .int .i64 0) rfl rfl rfl rfl (neq_t (by omega)) ?_
  refine r_doneN (x_then ?_)
  refine c_true rfl ?_
  refine c_seq (c_reg ?_)
  refine r_build (vs := []) (v := dgV dz) rfl rfl rfl (by kernel_rfl) ?_
  refine r_move (v := .int .i64 ((sizH l k))) rfl rfl rfl ?_
  refine r_store (p := pt 1 0) (v := dgV dz) (b := 1) (blk := dgB dz) (H' := [rwR cItem l, dgB dz, hole]) rfl rfl rfl (by kernel_rfl) (by kernel_rfl) ?_
  refine r_assign (v := .int .i64 ((sizH l k))) rfl rfl rfl ?_
  refine r_doneN (x_then (c_ret (x_thenR (x_end ?_))))
  rw [show rootH kk l k = (dz, sizH l k) from by unfold rootH; rw [firL_siz, if_neg (by omega)]]
  exact end_same (v := .tuple #[dgV dz, .int .i64 ((sizH l k))]) (by kernel_rfl) rfl rfl (by simp [keptB, rwR, cItem]) ⟨(argV_pure (pure_row fun _ => rfl) rfl), rfl, trivial⟩
  refine r_bin (v := .bool false) (vx := .int .i64 ((sizH l k))) (vy := .int .i64 0) rfl rfl rfl rfl (neq_f (by omega)) ?_
  refine r_doneN (x_then ?_)
  refine c_false rfl ?_
  refine c_skip (x_then (c_seq ?_))
  have hsz := sizH_0 (l := l) (k := k) (by omega)
  have hsz2 := hsz.2
  have h2000 := hsz.1.1
  have hkn : k ≤ (n : Int) := by omega
  obtain ⟨q, rfl⟩ : ∃ x0 : Nat, k = (x0 : Int) := ⟨k.toNat, by omega⟩
  refine c_reg ?_
  refine r_move (v := slv 0 0 n c) rfl rfl rfl ?_
  refine r_move (v := .int .i64 (q : Nat)) rfl rfl rfl ?_
  refine r_slice (p := slv 0 0 n c) (vl := none) (vh := some (.int .i64 (q : Nat))) (v := slv 0 0 q c) rfl rfl rfl rfl rfl (slice_hi (h := q) rfl rfl (by omega) (by omega) rfl) ?_
  refine r_callN (e := [some (0, 0)]) (nid := 2) (refLeaves_ok (G := G) kk hG2 l q c (by have := hn; omega) (by omega) (by omega) (fun j hj => goodF_atI l 0 j hsz.1.2 (by omega))) (vals := [slv 0 0 q c]) (v := slv 2 0 q q) (H' := [rwR cItem l, dgB dz, dsB (acL kk l q)]) rfl rfl rfl rfl rfl rfl rfl ⟨⟨⟨rfl, rfl, rfl, by omega, by omega⟩, trivial⟩, ⟨(emb_rwR rfl), trivial⟩, rfl, rfl, rfl⟩ (by kernel_rfl) (by kernel_rfl) ?_
  refine r_callN (e := [some (2, 0)]) (nid := 0) (refRoot_ok (G := G) kk hG2 q (acL kk l q) q (acL_len kk l q) (by omega) (by omega)) (vals := [slv 2 0 q q]) (v := dgV (rootI kk (acL kk l q))) (H' := [rwR cItem l, dgB dz, dsB (acL kk l q)]) rfl rfl rfl rfl rfl rfl rfl ⟨⟨⟨rfl, rfl, rfl, by first | omega | exact Nat.le_refl _, by first | omega | exact Nat.le_refl _⟩, trivial⟩, ⟨(emb_dsB rfl), trivial⟩, rfl, rfl, rfl⟩ (by kernel_rfl) (by kernel_rfl) ?_
  refine r_store (p := pt 1 0) (v := dgV (rootI kk (acL kk l q))) (b := 1) (blk := dgB (rootI kk (acL kk l q))) (H' := [rwR cItem l, dgB (rootI kk (acL kk l q)), dsB (acL kk l q)]) rfl rfl rfl (by kernel_rfl) (by kernel_rfl) ?_
  refine r_assign (v := .int .i64 0) rfl rfl rfl ?_
  refine r_doneN (x_then (c_ret (x_end ?_)))
  rw [show rootH kk l ((q : Nat) : Int) = (rootI kk (acL kk l q), 0) from by unfold rootH; rw [fi_full hsz.1 (by omega), if_pos rfl]]
  exact end_same (v := .tuple #[dgV (rootI kk (acL kk l q)), .int .i64 0]) (by kernel_rfl) rfl rfl (by simp [keptB, rwR, cItem]) ⟨(argV_pure (pure_row fun _ => rfl) rfl), rfl, trivial⟩
theorem refHHead_ok (kk : Nat → BitVec 32) (hG2 : G 2 = some (rowE w32 64 kk)) (l : List Item) (n c : Nat) (hn : l.length = n) (hc : n ≤ c) (hb : n ≤ 1048576) (k region epoch tick : Int) : CallL Tryd.prog G 14 [slv 0 0 n c, .int .i64 k, .int .i64 region, .int .i64 epoch, .int .i64 tick] [rwR cItem l] (.tuple #[headV (headH kk l k region epoch tick).1, .int .i64 (headH kk l k region epoch tick).2]) [rwR cItem l] := by
  refine walk (fn := Tryd.f14) (nt := 36) rfl rfl rfl rfl ?_
  refine c_hole 3 (H' := [rwR cItem l, hole, hole, hole]) rfl ?_
  refine c_seq (c_reg ?_)
  refine r_alloc (b := bxB 36 (headC (⟨0, 0, 0, dz, 0⟩ : Head))) (nid := 1) (H' := [rwR cItem l, bxB 36 (headC (⟨0, 0, 0, dz, 0⟩ : Head)), hole, hole]) rfl rfl (by kernel_rfl) (by kernel_rfl) ?_
  refine r_assign (v := .int .i64 0) rfl rfl rfl ?_
  refine r_doneN (x_then (c_seq (c_reg ?_)))
  refine r_move (v := slv 0 0 n c) rfl rfl rfl ?_
  refine r_move (v := .int .i64 k) rfl rfl rfl ?_
  refine r_callN (e := [some (0, 0)]) (nid := 0) (refHRoot_ok (G := G) kk hG2 l n c hn (by omega) (by omega) k) (vals := [slv 0 0 n c, .int .i64 k]) (v := .tuple #[dgV ((rootH kk l k).1), .int .i64 (((rootH kk l k).2))]) (H' := [rwR cItem l, bxB 36 (headC (⟨0, 0, 0, dz, 0⟩ : Head)), hole, hole]) rfl rfl rfl rfl rfl rfl rfl ⟨⟨⟨rfl, rfl, rfl, by first | omega | exact Nat.le_refl _, by first | omega | exact Nat.le_refl _⟩, rfl, trivial⟩, ⟨(emb_rwR rfl), trivial⟩, rfl, rfl, rfl⟩ (by kernel_rfl) (by kernel_rfl) ?_
  refine r_move (v := .tuple #[dgV ((rootH kk l k).1), .int .i64 (((rootH kk l k).2))]) rfl rfl rfl ?_
  refine r_extract (vs := #[dgV ((rootH kk l k).1), .int .i64 (((rootH kk l k).2))]) (v := dgV ((rootH kk l k).1)) rfl rfl rfl rfl ?_
  refine r_extract (vs := #[dgV ((rootH kk l k).1), .int .i64 (((rootH kk l k).2))]) (v := .int .i64 (((rootH kk l k).2))) rfl rfl rfl rfl ?_
  refine r_alloc (b := dgB dz) (nid := 2) (H' := [rwR cItem l, bxB 36 (headC (⟨0, 0, 0, dz, 0⟩ : Head)), dgB dz, hole]) rfl rfl (by kernel_rfl) (by kernel_rfl) ?_
  refine r_store (p := pt 2 0) (v := dgV ((rootH kk l k).1)) (b := 2) (blk := dgB ((rootH kk l k).1)) (H' := [rwR cItem l, bxB 36 (headC (⟨0, 0, 0, dz, 0⟩ : Head)), dgB ((rootH kk l k).1), hole]) rfl rfl rfl (by kernel_rfl) (by kernel_rfl) ?_
  refine r_assign (v := .int .i64 (((rootH kk l k).2))) rfl rfl rfl ?_
  refine r_doneN (x_then (c_seq (c_seq (c_reg ?_))))
  refine r_move (v := .int .i64 (((rootH kk l k).2))) rfl rfl rfl ?_
  by_cases h1 : (((rootH kk l k).2)) ≠ 0
  refine r_bin (v := .bool true) (vx := .int .i64 (((rootH kk l k).2))) (vy := .int .i64 0) rfl rfl rfl rfl (neq_t (by omega)) ?_
  refine r_doneN (x_then ?_)
  refine c_true rfl ?_
  refine c_seq (c_reg ?_)
  refine r_build (vs := []) (v := headV (⟨0, 0, 0, dz, 0⟩ : Head)) rfl rfl rfl (by kernel_rfl) ?_
  refine r_move (v := .int .i64 (((rootH kk l k).2))) rfl rfl rfl ?_
  refine r_store (p := pt 1 0) (v := headV (⟨0, 0, 0, dz, 0⟩ : Head)) (b := 1) (blk := bxB 36 (headC (⟨0, 0, 0, dz, 0⟩ : Head))) (H' := [rwR cItem l, bxB 36 (headC (⟨0, 0, 0, dz, 0⟩ : Head)), dgB ((rootH kk l k).1), hole]) rfl rfl rfl (by kernel_rfl) (by kernel_rfl) ?_
  refine r_assign (v := .int .i64 (((rootH kk l k).2))) rfl rfl rfl ?_
  refine r_doneN (x_then (c_ret (x_thenR (x_end ?_))))
  rw [show headH kk l k region epoch tick = (⟨0, 0, 0, dz, 0⟩, (rootH kk l k).2) from by unfold headH; rw [if_neg (by omega)]]
  exact end_same (v := .tuple #[headV (⟨0, 0, 0, dz, 0⟩ : Head), .int .i64 (((rootH kk l k).2))]) (by kernel_rfl) rfl rfl (by simp [keptB, rwR, cItem]) ⟨(argV_p (by kernel_rfl) rfl), rfl, trivial⟩
  refine r_bin (v := .bool false) (vx := .int .i64 (((rootH kk l k).2))) (vy := .int .i64 0) rfl rfl rfl rfl (neq_f (by omega)) ?_
  refine r_doneN (x_then ?_)
  refine c_false rfl ?_
  refine c_skip (x_then (c_seq (c_reg ?_)))
  refine r_move (v := .int .i64 region) rfl rfl rfl ?_
  refine r_move (v := .int .i64 epoch) rfl rfl rfl ?_
  refine r_move (v := .int .i64 k) rfl rfl rfl ?_
  refine r_load (p := pt 2 0) (v := dgV ((rootH kk l k).1)) rfl rfl rfl (by kernel_rfl) ?_
  refine r_move (v := .int .i64 tick) rfl rfl rfl ?_
  refine r_build (vs := [(0, .int .i64 region), (1, .int .i64 epoch), (2, .int .i64 k), (3, dgV ((rootH kk l k).1)), (4, .int .i64 tick)]) (v := headV (⟨region, epoch, k, (rootH kk l k).1, tick⟩ : Head)) rfl rfl rfl (by kernel_rfl) ?_
  refine r_alloc (b := bxB 36 (headC (⟨0, 0, 0, dz, 0⟩ : Head))) (nid := 3) (H' := [rwR cItem l, bxB 36 (headC (⟨0, 0, 0, dz, 0⟩ : Head)), dgB ((rootH kk l k).1), bxB 36 (headC (⟨0, 0, 0, dz, 0⟩ : Head))]) rfl rfl (by kernel_rfl) (by kernel_rfl) ?_
  refine r_store (p := pt 3 0) (v := headV (⟨region, epoch, k, (rootH kk l k).1, tick⟩ : Head)) (b := 3) (blk := bxB 36 (headC (⟨region, epoch, k, (rootH kk l k).1, tick⟩ : Head))) (H' := [rwR cItem l, bxB 36 (headC (⟨0, 0, 0, dz, 0⟩ : Head)), dgB ((rootH kk l k).1), bxB 36 (headC (⟨region, epoch, k, (rootH kk l k).1, tick⟩ : Head))]) rfl rfl rfl (by kernel_rfl) (by kernel_rfl) ?_
  refine r_doneN (x_then (c_seq (c_seq (c_reg ?_))))
  refine r_load (p := pt 3 0) (v := headV (⟨region, epoch, k, (rootH kk l k).1, tick⟩ : Head)) rfl rfl rfl (by kernel_rfl) ?_
  refine r_callP (refRight_ok (G := G) (⟨region, epoch, k, (rootH kk l k).1, tick⟩ : Head)) (vals := [headV (⟨region, epoch, k, (rootH kk l k).1, tick⟩ : Head)]) (res' := .bool (decide (rightH (⟨region, epoch, k, (rootH kk l k).1, tick⟩ : Head)))) rfl rfl rfl rfl rfl rfl ?_
  rcases Bool.eq_false_or_eq_true (decide (rightH (⟨region, epoch, k, (rootH kk l k).1, tick⟩ : Head))) with h2 | h2
  refine r_un (v := .bool false) (vx := .bool (decide (rightH (⟨region, epoch, k, (rootH kk l k).1, tick⟩ : Head)))) rfl rfl rfl (Eq.trans un_not (congrArg (fun b => some (Value.bool !b)) h2)) ?_
  refine r_doneN (x_then ?_)
  refine c_false rfl ?_
  refine c_skip (x_then (c_seq (c_reg ?_)))
  refine r_load (p := pt 3 0) (v := headV (⟨region, epoch, k, (rootH kk l k).1, tick⟩ : Head)) rfl rfl rfl (by kernel_rfl) ?_
  refine r_store (p := pt 1 0) (v := headV (⟨region, epoch, k, (rootH kk l k).1, tick⟩ : Head)) (b := 1) (blk := bxB 36 (headC (⟨region, epoch, k, (rootH kk l k).1, tick⟩ : Head))) (H' := [rwR cItem l, bxB 36 (headC (⟨region, epoch, k, (rootH kk l k).1, tick⟩ : Head)), dgB ((rootH kk l k).1), bxB 36 (headC (⟨region, epoch, k, (rootH kk l k).1, tick⟩ : Head))]) rfl rfl rfl (by kernel_rfl) (by kernel_rfl) ?_
  refine r_assign (v := .int .i64 0) rfl rfl rfl ?_
  refine r_doneN (x_then (c_ret (x_end ?_)))
  rw [show headH kk l k region epoch tick = ((⟨region, epoch, k, (rootH kk l k).1, tick⟩ : Head), 0) from by unfold headH; rw [if_pos (by omega), if_pos (checkE_zero.2 (of_decide_eq_true (by assumption)))]]
  exact end_same (v := .tuple #[headV (⟨region, epoch, k, (rootH kk l k).1, tick⟩ : Head), .int .i64 0]) (by kernel_rfl) rfl rfl (by simp [keptB, rwR, cItem]) ⟨(argV_p (by kernel_rfl) rfl), rfl, trivial⟩
  refine r_un (v := .bool true) (vx := .bool (decide (rightH (⟨region, epoch, k, (rootH kk l k).1, tick⟩ : Head)))) rfl rfl rfl (Eq.trans un_not (congrArg (fun b => some (Value.bool !b)) h2)) ?_
  refine r_doneN (x_then ?_)
  refine c_true rfl ?_
  refine c_seq (c_reg ?_)
  refine r_build (vs := []) (v := headV (⟨0, 0, 0, dz, 0⟩ : Head)) rfl rfl rfl (by kernel_rfl) ?_
  refine r_store (p := pt 1 0) (v := headV (⟨0, 0, 0, dz, 0⟩ : Head)) (b := 1) (blk := bxB 36 (headC (⟨0, 0, 0, dz, 0⟩ : Head))) (H' := [rwR cItem l, bxB 36 (headC (⟨0, 0, 0, dz, 0⟩ : Head)), dgB ((rootH kk l k).1), bxB 36 (headC (⟨region, epoch, k, (rootH kk l k).1, tick⟩ : Head))]) rfl rfl rfl (by kernel_rfl) (by kernel_rfl) ?_
  refine r_assign (v := .int .i64 100) rfl rfl rfl ?_
  refine r_doneN (x_then (c_ret (x_thenR (x_end ?_))))
  rw [show headH kk l k region epoch tick = (⟨0, 0, 0, dz, 0⟩, 100) from by unfold headH; rw [if_pos (by omega), if_neg (fun q => (of_decide_eq_false (by assumption)) (checkE_zero.1 q))]]
  exact end_same (v := .tuple #[headV (⟨0, 0, 0, dz, 0⟩ : Head), .int .i64 100]) (by kernel_rfl) rfl rfl (by simp [keptB, rwR, cItem]) ⟨(argV_p (by kernel_rfl) rfl), rfl, trivial⟩
theorem HistoryRoots_ok (kk : Nat → BitVec 32) (hG : G 3 = some (rowE w32 64 kk)) (hG1 : G 1 = some (rowE u8N 64 dbF)) (hG2 : G 2 = some (rowE w32 64 kk)) (l : List Item) (c : Nat) (hl : l.length ≤ c) (hcc : c ≤ 9223372036854775807) (n region epoch tick : Int) : CallL Tryd.prog G 3 [slv 0 0 l.length c, .int .i64 n, .int .i64 region, .int .i64 epoch, .int .i64 tick] [rwR cItem l] (.bool true) [rwR cItem l] := by
  refine walk (fn := Tryd.f3) (nt := 80) rfl rfl rfl rfl ?_
  refine c_hole 5 (H' := [rwR cItem l, hole, hole, hole, hole, hole]) rfl ?_
  refine c_seq (c_reg ?_)
  refine r_assign (v := .bool false) rfl rfl rfl ?_
  refine r_doneN (x_then (c_seq (c_seq (c_reg ?_))))
  refine r_move (v := slv 0 0 l.length c) rfl rfl rfl ?_
  refine r_callN (e := [some (0, 0)]) (nid := 0) (refBig_ok (G := G) l l.length c rfl (by omega) (by omega)) (vals := [slv 0 0 l.length c]) (v := .bool (bigB l)) (H' := [rwR cItem l, hole, hole, hole, hole, hole]) rfl rfl rfl rfl rfl rfl rfl ⟨⟨⟨rfl, rfl, rfl, by first | omega | exact Nat.le_refl _, by first | omega | exact Nat.le_refl _⟩, trivial⟩, ⟨(emb_rwR rfl), trivial⟩, rfl, rfl, rfl⟩ rfl (by kernel_rfl) ?_
  refine r_doneN (x_then ?_)
  rcases Bool.eq_false_or_eq_true (bigB l) with h1 | h1
  refine c_true (congrArg Value.bool h1) ?_
  refine c_seq (c_reg ?_)
  refine r_assign (v := .bool true) rfl rfl rfl ?_
  refine r_doneN (x_then (c_ret (x_thenR (x_end ?_))))
  exact end_map [0] (v := .bool true) rfl (by kernel_rfl) rfl rfl (by decide) (by simp [keptB, rwR, cItem]) rfl
  refine c_false (congrArg Value.bool h1) ?_
  refine c_skip (x_then (c_seq ?_))
  have hn60 : l.length ≤ 60 := bigB_len (by assumption)
  refine c_reg ?_
  refine r_move (v := slv 0 0 l.length c) rfl rfl rfl ?_
  refine r_callN (e := [some (0, 0)]) (nid := 1) (refOwn_ok (G := G) l l.length c rfl (by omega) (by omega)) (vals := [slv 0 0 l.length c]) (v := slv 1 0 l.length l.length) (H' := [rwR cItem l, rwB cItem l, hole, hole, hole, hole]) rfl rfl rfl rfl rfl rfl rfl ⟨⟨⟨rfl, rfl, rfl, by first | omega | exact Nat.le_refl _, by first | omega | exact Nat.le_refl _⟩, trivial⟩, ⟨(emb_rwR rfl), trivial⟩, rfl, rfl, rfl⟩ (by kernel_rfl) (by kernel_rfl) ?_
  refine r_assign (v := slv 1 0 l.length l.length) rfl rfl rfl ?_
  refine r_doneN (x_then (c_seq (c_reg ?_)))
  refine r_move (v := slv 0 0 l.length c) rfl rfl rfl ?_
  refine r_move (v := .int .i64 n) rfl rfl rfl ?_
  refine r_callN (e := [some (0, 0)]) (nid := 0) (HRoot_ok (G := G) kk hG hG1 l l.length c rfl (by omega) (by omega) n) (vals := [slv 0 0 l.length c, .int .i64 n]) (v := .tuple #[dgV ((rootH kk l n).1), .int .i64 (((rootH kk l n).2))]) (H' := [rwR cItem l, rwB cItem l, hole, hole, hole, hole]) rfl rfl rfl rfl rfl rfl rfl ⟨⟨⟨rfl, rfl, rfl, by first | omega | exact Nat.le_refl _, by first | omega | exact Nat.le_refl _⟩, rfl, trivial⟩, ⟨(emb_rwR rfl), trivial⟩, rfl, rfl, rfl⟩ (by kernel_rfl) (by kernel_rfl) ?_
  refine r_move (v := .tuple #[dgV ((rootH kk l n).1), .int .i64 (((rootH kk l n).2))]) rfl rfl rfl ?_
  refine r_extract (vs := #[dgV ((rootH kk l n).1), .int .i64 (((rootH kk l n).2))]) (v := dgV ((rootH kk l n).1)) rfl rfl rfl rfl ?_
  refine r_extract (vs := #[dgV ((rootH kk l n).1), .int .i64 (((rootH kk l n).2))]) (v := .int .i64 (((rootH kk l n).2))) rfl rfl rfl rfl ?_
  refine r_alloc (b := dgB dz) (nid := 2) (H' := [rwR cItem l, rwB cItem l, dgB dz, hole, hole, hole]) rfl rfl (by kernel_rfl) (by kernel_rfl) ?_
  refine r_store (p := pt 2 0) (v := dgV ((rootH kk l n).1)) (b := 2) (blk := dgB ((rootH kk l n).1)) (H' := [rwR cItem l, rwB cItem l, dgB ((rootH kk l n).1), hole, hole, hole]) rfl rfl rfl (by kernel_rfl) (by kernel_rfl) ?_
  refine r_assign (v := .int .i64 (((rootH kk l n).2))) rfl rfl rfl ?_
  refine r_doneN (x_then (c_seq (c_reg ?_)))
  refine r_move (v := slv 1 0 l.length l.length) rfl rfl rfl ?_
  refine r_move (v := .int .i64 n) rfl rfl rfl ?_
  refine r_callN (e := [some (1, 0)]) (nid := 0) (refHRoot_ok (G := G) kk hG2 l l.length l.length rfl (by omega) (by omega) n) (vals := [slv 1 0 l.length l.length, .int .i64 n]) (v := .tuple #[dgV ((rootH kk l n).1), .int .i64 (((rootH kk l n).2))]) (H' := [rwR cItem l, rwB cItem l, dgB ((rootH kk l n).1), hole, hole, hole]) rfl rfl rfl rfl rfl rfl rfl ⟨⟨⟨rfl, rfl, rfl, by first | omega | exact Nat.le_refl _, by first | omega | exact Nat.le_refl _⟩, rfl, trivial⟩, ⟨(emb_rwB rfl), trivial⟩, rfl, rfl, rfl⟩ (by kernel_rfl) (by kernel_rfl) ?_
  refine r_move (v := .tuple #[dgV ((rootH kk l n).1), .int .i64 (((rootH kk l n).2))]) rfl rfl rfl ?_
  refine r_extract (vs := #[dgV ((rootH kk l n).1), .int .i64 (((rootH kk l n).2))]) (v := dgV ((rootH kk l n).1)) rfl rfl rfl rfl ?_
  refine r_extract (vs := #[dgV ((rootH kk l n).1), .int .i64 (((rootH kk l n).2))]) (v := .int .i64 (((rootH kk l n).2))) rfl rfl rfl rfl ?_
  refine r_alloc (b := dgB dz) (nid := 3) (H' := [rwR cItem l, rwB cItem l, dgB ((rootH kk l n).1), dgB dz, hole, hole]) rfl rfl (by kernel_rfl) (by kernel_rfl) ?_
  refine r_store (p := pt 3 0) (v := dgV ((rootH kk l n).1)) (b := 3) (blk := dgB ((rootH kk l n).1)) (H' := [rwR cItem l, rwB cItem l, dgB ((rootH kk l n).1), dgB ((rootH kk l n).1), hole, hole]) rfl rfl rfl (by kernel_rfl) (by kernel_rfl) ?_
  refine r_assign (v := .int .i64 (((rootH kk l n).2))) rfl rfl rfl ?_
  refine r_doneN (x_then (c_seq (c_reg ?_)))
  refine r_move (v := slv 0 0 l.length c) rfl rfl rfl ?_
  refine r_move (v := .int .i64 n) rfl rfl rfl ?_
  refine r_move (v := .int .i64 region) rfl rfl rfl ?_
  refine r_move (v := .int .i64 epoch) rfl rfl rfl ?_
  refine r_move (v := .int .i64 tick) rfl rfl rfl ?_
  refine r_callN (e := [some (0, 0)]) (nid := 0) (HHead_ok (G := G) kk hG hG1 l l.length c rfl (by omega) (by omega) n region epoch tick) (vals := [slv 0 0 l.length c, .int .i64 n, .int .i64 region, .int .i64 epoch, .int .i64 tick]) (v := .tuple #[headV ((headH kk l n region epoch tick).1), .int .i64 (((headH kk l n region epoch tick).2))]) (H' := [rwR cItem l, rwB cItem l, dgB ((rootH kk l n).1), dgB ((rootH kk l n).1), hole, hole]) rfl rfl rfl rfl rfl rfl rfl ⟨⟨⟨rfl, rfl, rfl, by first | omega | exact Nat.le_refl _, by first | omega | exact Nat.le_refl _⟩, rfl, rfl, rfl, rfl, trivial⟩, ⟨(emb_rwR rfl), trivial⟩, rfl, rfl, rfl⟩ (by kernel_rfl) (by kernel_rfl) ?_
  refine r_move (v := .tuple #[headV ((headH kk l n region epoch tick).1), .int .i64 (((headH kk l n region epoch tick).2))]) rfl rfl rfl ?_
  refine r_extract (vs := #[headV ((headH kk l n region epoch tick).1), .int .i64 (((headH kk l n region epoch tick).2))]) (v := headV ((headH kk l n region epoch tick).1)) rfl rfl rfl rfl ?_
  refine r_extract (vs := #[headV ((headH kk l n region epoch tick).1), .int .i64 (((headH kk l n region epoch tick).2))]) (v := .int .i64 (((headH kk l n region epoch tick).2))) rfl rfl rfl rfl ?_
  refine r_alloc (b := bxB 36 (headC (⟨0, 0, 0, dz, 0⟩ : Head))) (nid := 4) (H' := [rwR cItem l, rwB cItem l, dgB ((rootH kk l n).1), dgB ((rootH kk l n).1), bxB 36 (headC (⟨0, 0, 0, dz, 0⟩ : Head)), hole]) rfl rfl (by kernel_rfl) (by kernel_rfl) ?_
  refine r_store (p := pt 4 0) (v := headV ((headH kk l n region epoch tick).1)) (b := 4) (blk := bxB 36 (headC ((headH kk l n region epoch tick).1))) (H' := [rwR cItem l, rwB cItem l, dgB ((rootH kk l n).1), dgB ((rootH kk l n).1), bxB 36 (headC ((headH kk l n region epoch tick).1)), hole]) rfl rfl rfl (by kernel_rfl) (by kernel_rfl) ?_
  refine r_assign (v := .int .i64 (((headH kk l n region epoch tick).2))) rfl rfl rfl ?_
  refine r_doneN (x_then (c_seq (c_reg ?_)))
  refine r_move (v := slv 1 0 l.length l.length) rfl rfl rfl ?_
  refine r_move (v := .int .i64 n) rfl rfl rfl ?_
  refine r_move (v := .int .i64 region) rfl rfl rfl ?_
  refine r_move (v := .int .i64 epoch) rfl rfl rfl ?_
  refine r_move (v := .int .i64 tick) rfl rfl rfl ?_
  refine r_callN (e := [some (1, 0)]) (nid := 0) (refHHead_ok (G := G) kk hG2 l l.length l.length rfl (by omega) (by omega) n region epoch tick) (vals := [slv 1 0 l.length l.length, .int .i64 n, .int .i64 region, .int .i64 epoch, .int .i64 tick]) (v := .tuple #[headV ((headH kk l n region epoch tick).1), .int .i64 (((headH kk l n region epoch tick).2))]) (H' := [rwR cItem l, rwB cItem l, dgB ((rootH kk l n).1), dgB ((rootH kk l n).1), bxB 36 (headC ((headH kk l n region epoch tick).1)), hole]) rfl rfl rfl rfl rfl rfl rfl ⟨⟨⟨rfl, rfl, rfl, by first | omega | exact Nat.le_refl _, by first | omega | exact Nat.le_refl _⟩, rfl, rfl, rfl, rfl, trivial⟩, ⟨(emb_rwB rfl), trivial⟩, rfl, rfl, rfl⟩ (by kernel_rfl) (by kernel_rfl) ?_
  refine r_move (v := .tuple #[headV ((headH kk l n region epoch tick).1), .int .i64 (((headH kk l n region epoch tick).2))]) rfl rfl rfl ?_
  refine r_extract (vs := #[headV ((headH kk l n region epoch tick).1), .int .i64 (((headH kk l n region epoch tick).2))]) (v := headV ((headH kk l n region epoch tick).1)) rfl rfl rfl rfl ?_
  refine r_extract (vs := #[headV ((headH kk l n region epoch tick).1), .int .i64 (((headH kk l n region epoch tick).2))]) (v := .int .i64 (((headH kk l n region epoch tick).2))) rfl rfl rfl rfl ?_
  refine r_alloc (b := bxB 36 (headC (⟨0, 0, 0, dz, 0⟩ : Head))) (nid := 5) (H' := [rwR cItem l, rwB cItem l, dgB ((rootH kk l n).1), dgB ((rootH kk l n).1), bxB 36 (headC ((headH kk l n region epoch tick).1)), bxB 36 (headC (⟨0, 0, 0, dz, 0⟩ : Head))]) rfl rfl (by kernel_rfl) (by kernel_rfl) ?_
  refine r_store (p := pt 5 0) (v := headV ((headH kk l n region epoch tick).1)) (b := 5) (blk := bxB 36 (headC ((headH kk l n region epoch tick).1))) (H' := [rwR cItem l, rwB cItem l, dgB ((rootH kk l n).1), dgB ((rootH kk l n).1), bxB 36 (headC ((headH kk l n region epoch tick).1)), bxB 36 (headC ((headH kk l n region epoch tick).1))]) rfl rfl rfl (by kernel_rfl) (by kernel_rfl) ?_
  refine r_assign (v := .int .i64 (((headH kk l n region epoch tick).2))) rfl rfl rfl ?_
  refine r_doneN (x_then (c_seq (c_reg ?_)))
  refine r_callP (roots_ok (G := G) kk hG hG1) (vals := []) (res' := .bool true) rfl rfl rfl rfl rfl rfl ?_
  refine r_move (v := .bool true) rfl rfl rfl ?_
  refine r_load (p := pt 2 0) (v := dgV ((rootH kk l n).1)) rfl rfl rfl (by kernel_rfl) ?_
  refine r_load (p := pt 3 0) (v := dgV ((rootH kk l n).1)) rfl rfl rfl (by kernel_rfl) ?_
  refine r_bin (v := .bool true) (vx := dgV ((rootH kk l n).1)) (vy := dgV ((rootH kk l n).1)) rfl rfl rfl rfl (Eq.trans (eql_dg (n := 32) (a := (rootH kk l n).1) (b := (rootH kk l n).1) (by kernel_rfl) rfl rfl rfl) (by rw [(sameBd_refl _ _)] <;> rfl)) ?_
  refine r_pick (v := .bool true) rfl rfl rfl ?_
  refine r_move (v := .bool true) rfl rfl rfl ?_
  refine r_move (v := .int .i64 (((rootH kk l n).2))) rfl rfl rfl ?_
  refine r_move (v := .int .i64 (((rootH kk l n).2))) rfl rfl rfl ?_
  refine r_bin (v := .bool true) (vx := .int .i64 (((rootH kk l n).2))) (vy := .int .i64 (((rootH kk l n).2))) rfl rfl rfl rfl (eql_t (by omega)) ?_
  refine r_pick (v := .bool true) rfl rfl rfl ?_
  refine r_move (v := .bool true) rfl rfl rfl ?_
  refine r_load (p := pt 4 0) (v := headV ((headH kk l n region epoch tick).1)) rfl rfl rfl (by kernel_rfl) ?_
  refine r_load (p := pt 5 0) (v := headV ((headH kk l n region epoch tick).1)) rfl rfl rfl (by kernel_rfl) ?_
  refine r_bin (v := .bool true) (vx := headV ((headH kk l n region epoch tick).1)) (vy := headV ((headH kk l n region epoch tick).1)) rfl rfl rfl rfl (Eq.trans (eql_Head ((headH kk l n region epoch tick).1) ((headH kk l n region epoch tick).1)) (by rw [(eqHead_refl _)] <;> rfl)) ?_
  refine r_pick (v := .bool true) rfl rfl rfl ?_
  refine r_move (v := .bool true) rfl rfl rfl ?_
  refine r_move (v := .int .i64 (((headH kk l n region epoch tick).2))) rfl rfl rfl ?_
  refine r_move (v := .int .i64 (((headH kk l n region epoch tick).2))) rfl rfl rfl ?_
  refine r_bin (v := .bool true) (vx := .int .i64 (((headH kk l n region epoch tick).2))) (vy := .int .i64 (((headH kk l n region epoch tick).2))) rfl rfl rfl rfl (eql_t (by omega)) ?_
  refine r_pick (v := .bool true) rfl rfl rfl ?_
  refine r_move (v := .bool true) rfl rfl rfl ?_
  refine r_move (v := slv 0 0 l.length c) rfl rfl rfl ?_
  refine r_move (v := slv 1 0 l.length l.length) rfl rfl rfl ?_
  refine r_callN (e := [some (0, 0), some (1, 0)]) (nid := 0) (refSame_refl (G := G) l l.length c l.length rfl (by omega) (by omega) (by omega)) (vals := [slv 0 0 l.length c, slv 1 0 l.length l.length]) (v := .bool true) (H' := [rwR cItem l, rwB cItem l, dgB ((rootH kk l n).1), dgB ((rootH kk l n).1), bxB 36 (headC ((headH kk l n region epoch tick).1)), bxB 36 (headC ((headH kk l n region epoch tick).1))]) rfl rfl rfl rfl rfl rfl rfl ⟨⟨⟨rfl, rfl, rfl, by first | omega | exact Nat.le_refl _, by first | omega | exact Nat.le_refl _⟩, ⟨rfl, rfl, rfl, by first | omega | exact Nat.le_refl _, by first | omega | exact Nat.le_refl _⟩, trivial⟩, ⟨(emb_rwR rfl), (emb_rwB rfl), trivial⟩, rfl, rfl, rfl⟩ rfl (by kernel_rfl) ?_
  refine r_pick (v := .bool true) rfl rfl rfl ?_
  refine r_assign (v := .bool true) rfl rfl rfl ?_
  refine r_doneN (x_then (c_ret (x_end ?_)))
  exact end_map [0] (v := .bool true) rfl (by kernel_rfl) rfl rfl (by decide) (by simp [keptB, rwR, cItem]) rfl
end Go.Flat
