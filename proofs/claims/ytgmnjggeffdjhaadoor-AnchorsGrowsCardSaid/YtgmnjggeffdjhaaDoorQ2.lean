/- Walks and plain laws: what each theorem says, within the bounds that it names. -/
import Derived.Test.YtgmnjggeffdjhaaDoorQ1
set_option linter.unusedVariables false
set_option linter.unusedSimpArgs false
set_option maxRecDepth 20000
namespace Go.Flat
open Go.Proofs
variable {G : Glob}
def firL (kk : Nat → BitVec 32) (l : List Item) (k : Int) : List D × Int := if rightL l then (if 0 ≤ k ∧ k ≤ l.length then (acL kk l k.toNat, 0) else ([], 21)) else ([], 100)
theorem firL_len (kk : Nat → BitVec 32) (l : List Item) (k : Int) : (firL kk l k).1.length ≤ 2000 := by
  unfold firL
  split
  · rename_i h
    split
    · rename_i h2
      have := h.1
      show (acL kk l k.toNat).length ≤ 2000
      rw [acL_len]; omega
    · exact Nat.zero_le _
  · exact Nat.zero_le _
def rootH (kk : Nat → BitVec 32) (l : List Item) (k : Int) : D × Int := if (firL kk l k).2 = 0 then (rootI kk (firL kk l k).1, 0) else (dz, (firL kk l k).2)
def headH (kk : Nat → BitVec 32) (l : List Item) (k region epoch tick : Int) : Head × Int := if (rootH kk l k).2 = 0 then (if checkE ⟨region, epoch, k, (rootH kk l k).1, tick⟩ = 0 then (⟨region, epoch, k, (rootH kk l k).1, tick⟩, 0) else (⟨0, 0, 0, dz, 0⟩, 100)) else (⟨0, 0, 0, dz, 0⟩, (rootH kk l k).2)
def incH (kk : Nat → BitVec 32) (l : List Item) (k i : Int) : List D × Int := if (firL kk l k).2 = 0 then (if 0 ≤ i ∧ i < (firL kk l k).1.length then (inclP kk (firL kk l k).1 i.toNat, 0) else ([], 20)) else ([], (firL kk l k).2)
def conH (kk : Nat → BitVec 32) (l : List Item) (i k : Int) : List D × Int := if (firL kk l k).2 = 0 then (if 0 ≤ i ∧ i ≤ (firL kk l k).1.length then (if i = 0 then ([], 0) else (consP kk (firL kk l k).1 i.toNat, 0)) else ([], 21)) else ([], (firL kk l k).2)
theorem TCons_bad (ds : List D) (c n : Nat) (i : Int) (hn : ds.length = n) (h : i < 0 ∨ (n : Int) < i) : CallL Tryd.prog G 51 [slv 0 0 n c, .int .i64 i] [dsR ds] (.tuple #[nilS, .int .i64 21]) [dsR ds] := by subst hn; exact Consistency_bad ds c i h
theorem TCons_zero (ds : List D) (c n : Nat) (hn : ds.length = n) : CallL Tryd.prog G 51 [slv 0 0 n c, .int .i64 0] [dsR ds] (.tuple #[nilS, .int .i64 0]) [dsR ds] := by subst hn; exact Consistency_zero ds c
theorem first_ok (kk : Nat → BitVec 32) (hG : G 1 = some (rowE w32 64 kk)) (l : List Item) (n c : Nat) (hn : l.length = n) (hc : n ≤ c) (hb : n ≤ 1048576) (k : Int) : CallL Tryd.prog G 50 [slv 0 0 n c, .int .i64 k] [rwR cItem l] (.tuple #[slv 1 0 (firL kk l k).1.length (firL kk l k).1.length, .int .i64 (firL kk l k).2]) [rwR cItem l, dsB (firL kk l k).1] := by
  refine walk (fn := Tryd.f50) (nt := 21) rfl rfl rfl rfl ?_
  refine c_hole 2 (H' := [rwR cItem l, hole, hole]) rfl ?_
  refine c_seq (c_reg ?_)
  refine r_assign (v := .slice none 0 0) rfl rfl rfl ?_
  refine r_assign (v := .int .i64 0) rfl rfl rfl ?_
  refine r_doneN (x_then (c_seq (c_block (c_seq (c_reg ?_)))))
  refine r_move (v := slv 0 0 n c) rfl rfl rfl ?_
  refine r_callN (e := [some (0, 0)]) (nid := 0) (LCheck_ok (G := G) l n c hn (by omega) (by omega)) (vals := [slv 0 0 n c]) (v := .int .i64 ((chkL l))) (H' := [rwR cItem l, hole, hole]) rfl rfl rfl rfl rfl rfl rfl ⟨⟨⟨rfl, rfl, rfl, by first | omega | exact Nat.le_refl _, by first | omega | exact Nat.le_refl _⟩, trivial⟩, ⟨(emb_rwR rfl), trivial⟩, rfl, rfl, rfl⟩ rfl (by kernel_rfl) ?_
  by_cases h1 : ((chkL l)) ≠ 0
  refine r_bin (v := .bool true) (vx := .int .i64 ((chkL l))) (vy := .int .i64 0) rfl rfl rfl rfl (neq_t (by omega)) ?_
  refine r_assign (v := .bool true) rfl rfl rfl ?_
  refine r_doneN (x_then (c_true rfl (c_seq (c_reg ?_))))
  refine r_assign (v := .slice none 0 0) rfl rfl rfl ?_
  refine r_assign (v := .int .i64 100) rfl rfl rfl ?_
  refine r_doneN (x_then ?_)
  refine c_weak (Weak.nilTmp (i := 4) (b := 1) true 32 rfl (by decide) rfl) ?_
  refine c_ret (x_blockR (x_thenR (x_end ?_)))
  rw [show firL kk l k = ([], 100) from if_neg (chkL_neg (by omega))]
  exact end_map [0, 1] (v := .tuple #[slv 1 0 0 0, .int .i64 100]) rfl (by kernel_rfl) rfl rfl (by decide) (by simp [keptB, rwR, dsB, cItem]) ⟨⟨rfl, rfl, rfl, by first | omega | exact Nat.le_refl _ | exact Nat.zero_le _ | (dsimp only; omega), by first | omega | exact Nat.le_refl _ | exact Nat.zero_le _ | (dsimp only; omega)⟩, rfl, trivial⟩
  refine r_bin (v := .bool false) (vx := .int .i64 ((chkL l))) (vy := .int .i64 0) rfl rfl rfl rfl (neq_f (by omega)) ?_
  refine r_assign (v := .bool false) rfl rfl rfl ?_
  refine r_doneN (x_then (c_false rfl (c_seq (c_reg ?_))))
  refine r_move (v := .int .i64 k) rfl rfl rfl ?_
  refine r_move (v := slv 0 0 n c) rfl rfl rfl ?_
  refine r_len (p := slv 0 0 n c) (v := .int .i64 (n : Nat)) rfl rfl rfl rfl ?_
  by_cases h2 : 0 ≤ k
  by_cases h3 : k ≤ (n : Nat)
  refine r_callP ((hwithin_ok (G := G) k 0 (n : Nat)).res (congrArg Value.bool (withinB_t (by omega) (by omega)))) (vals := [.int .i64 k, .int .i64 0, .int .i64 (n : Nat)]) (res' := .bool true) rfl rfl rfl rfl rfl rfl ?_
  refine r_un (v := .bool false) (vx := .bool true) rfl rfl rfl un_not ?_
  refine r_assign (v := .bool false) rfl rfl rfl ?_
  refine r_doneN (x_then (c_false rfl (c_skip (x_blockN (x_then (c_seq ?_))))))
  obtain ⟨q, rfl⟩ : ∃ x0 : Nat, k = (x0 : Int) := ⟨k.toNat, by omega⟩
  refine c_reg ?_
  refine r_move (v := slv 0 0 n c) rfl rfl rfl ?_
  refine r_move (v := .int .i64 (q : Nat)) rfl rfl rfl ?_
  refine r_slice (p := slv 0 0 n c) (vl := none) (vh := some (.int .i64 (q : Nat))) (v := slv 0 0 q c) rfl rfl rfl rfl rfl (slice_hi (h := q) rfl rfl (by omega) (by omega) rfl) ?_
  refine r_callN (e := [some (0, 0)]) (nid := 1) (leaves_ok (G := G) l q c (by have := hn; omega) (by omega) (by omega)) (vals := [slv 0 0 q c]) (v := .func (.func 99) #[] #[pt 1 0]) (H' := [rwR cItem l, rfB (slv 0 0 q c), hole]) rfl rfl rfl rfl rfl rfl rfl ⟨⟨⟨rfl, rfl, rfl, by omega, by omega⟩, trivial⟩, ⟨(emb_rwR rfl), trivial⟩, rfl, rfl, rfl⟩ (by kernel_rfl) (by kernel_rfl) ?_
  refine r_callN (e := [some (0, 0), some (1, 0)]) (nid := 2) (collect_ok (G := G) kk hG l q c (by have := hn; omega) (by omega) (by omega)) (vals := [.func (.func 99) #[] #[pt 1 0]]) (v := slv 2 0 q q) (H' := [rwR cItem l, rfB (slv 0 0 q c), dsB (acL kk l q)]) rfl rfl rfl rfl rfl rfl rfl ⟨⟨⟨by simp [renC, renC0, mapE, idE], by kernel_rfl⟩, trivial⟩, ⟨(emb_rwR rfl), (emb_wr rfl rfl rfl rfl), trivial⟩, rfl, rfl, rfl⟩ (by kernel_rfl) (by kernel_rfl) ?_
  refine r_assign (v := slv 2 0 q q) rfl rfl rfl ?_
  refine r_assign (v := .int .i64 0) rfl rfl rfl ?_
  refine r_doneN (x_then (c_ret (x_end ?_)))
  rw [show firL kk l ((q : Nat) : Int) = (acL kk l q, 0) from by unfold firL; rw [if_pos (chkL_pos (by omega)), if_pos (by omega)]; rfl]
  rw [show (acL kk l q, (0 : Int)).1.length = q from acL_len kk l q]
  exact end_map [0, 2] (v := .tuple #[slv 2 0 q q, .int .i64 0]) rfl (by kernel_rfl) rfl rfl (by decide) (by simp [keptB, rwR, dsB, cItem]) ⟨⟨rfl, rfl, rfl, by first | omega | exact Nat.le_refl _ | exact Nat.zero_le _ | (dsimp only; omega), by first | omega | exact Nat.le_refl _ | exact Nat.zero_le _ | (dsimp only; omega)⟩, rfl, trivial⟩
  refine r_callP ((hwithin_ok (G := G) k 0 (n : Nat)).res (congrArg Value.bool (withinB_f (by omega)))) (vals := [.int .i64 k, .int .i64 0, .int .i64 (n : Nat)]) (res' := .bool false) rfl rfl rfl rfl rfl rfl ?_
  refine r_un (v := .bool true) (vx := .bool false) rfl rfl rfl un_not ?_
  refine r_assign (v := .bool true) rfl rfl rfl ?_
  refine r_doneN (x_then (c_true rfl (c_seq (c_reg ?_))))
  refine r_assign (v := .slice none 0 0) rfl rfl rfl ?_
  refine r_assign (v := .int .i64 21) rfl rfl rfl ?_
  refine r_doneN (x_then ?_)
  refine c_weak (Weak.nilTmp (i := 4) (b := 1) true 32 rfl (by decide) rfl) ?_
  refine c_ret (x_blockR (x_thenR (x_end ?_)))
  rw [show firL kk l k = ([], 21) from by unfold firL; rw [if_pos (chkL_pos (by omega)), if_neg (by omega)]]
  exact end_map [0, 1] (v := .tuple #[slv 1 0 0 0, .int .i64 21]) rfl (by kernel_rfl) rfl rfl (by decide) (by simp [keptB, rwR, dsB, cItem]) ⟨⟨rfl, rfl, rfl, by first | omega | exact Nat.le_refl _ | exact Nat.zero_le _ | (dsimp only; omega), by first | omega | exact Nat.le_refl _ | exact Nat.zero_le _ | (dsimp only; omega)⟩, rfl, trivial⟩
  refine r_callP ((hwithin_ok (G := G) k 0 (n : Nat)).res (congrArg Value.bool (withinB_f (by omega)))) (vals := [.int .i64 k, .int .i64 0, .int .i64 (n : Nat)]) (res' := .bool false) rfl rfl rfl rfl rfl rfl ?_
  refine r_un (v := .bool true) (vx := .bool false) rfl rfl rfl un_not ?_
  refine r_assign (v := .bool true) rfl rfl rfl ?_
  refine r_doneN (x_then (c_true rfl (c_seq (c_reg ?_))))
  refine r_assign (v := .slice none 0 0) rfl rfl rfl ?_
  refine r_assign (v := .int .i64 21) rfl rfl rfl ?_
  refine r_doneN (x_then ?_)
  refine c_weak (Weak.nilTmp (i := 4) (b := 1) true 32 rfl (by decide) rfl) ?_
  refine c_ret (x_blockR (x_thenR (x_end ?_)))
  rw [show firL kk l k = ([], 21) from by unfold firL; rw [if_pos (chkL_pos (by omega)), if_neg (by omega)]]
  exact end_map [0, 1] (v := .tuple #[slv 1 0 0 0, .int .i64 21]) rfl (by kernel_rfl) rfl rfl (by decide) (by simp [keptB, rwR, dsB, cItem]) ⟨⟨rfl, rfl, rfl, by first | omega | exact Nat.le_refl _ | exact Nat.zero_le _ | (dsimp only; omega), by first | omega | exact Nat.le_refl _ | exact Nat.zero_le _ | (dsimp only; omega)⟩, rfl, trivial⟩
theorem HRoot_ok (kk : Nat → BitVec 32) (hG : G 1 = some (rowE w32 64 kk)) (hG1 : G 3 = some (rowE u8N 64 dbF)) (l : List Item) (n c : Nat) (hn : l.length = n) (hc : n ≤ c) (hb : n ≤ 1048576) (k : Int) : CallL Tryd.prog G 46 [slv 0 0 n c, .int .i64 k] [rwR cItem l] (.tuple #[dgV (rootH kk l k).1, .int .i64 (rootH kk l k).2]) [rwR cItem l] := by
  refine walk (fn := Tryd.f46) (nt := 20) rfl rfl rfl rfl ?_
  refine c_hole 2 (H' := [rwR cItem l, hole, hole]) rfl ?_
  refine c_seq (c_reg ?_)
  refine r_alloc (b := dgB dz) (nid := 1) (H' := [rwR cItem l, dgB dz, hole]) rfl rfl (by kernel_rfl) (by kernel_rfl) ?_
  refine r_assign (v := .int .i64 0) rfl rfl rfl ?_
  refine r_doneN (x_then (c_seq (c_reg ?_)))
  refine r_move (v := slv 0 0 n c) rfl rfl rfl ?_
  refine r_move (v := .int .i64 k) rfl rfl rfl ?_
  have hfl3 := firL_len kk l k
  refine r_callN (e := [some (0, 0)]) (nid := 2) (first_ok (G := G) kk hG l n c hn (by omega) (by omega) k) (vals := [slv 0 0 n c, .int .i64 k]) (v := .tuple #[slv 2 0 ((firL kk l k).1.length) ((firL kk l k).1.length), .int .i64 (((firL kk l k).2))]) (H' := [rwR cItem l, dgB dz, dsB ((firL kk l k).1)]) rfl rfl rfl rfl rfl rfl rfl ⟨⟨⟨rfl, rfl, rfl, by first | omega | exact Nat.le_refl _, by first | omega | exact Nat.le_refl _⟩, rfl, trivial⟩, ⟨(emb_rwR rfl), trivial⟩, rfl, rfl, rfl⟩ (by kernel_rfl) (by kernel_rfl) ?_
  refine r_move (v := .tuple #[slv 2 0 ((firL kk l k).1.length) ((firL kk l k).1.length), .int .i64 (((firL kk l k).2))]) rfl rfl rfl ?_
  refine r_extract (vs := #[slv 2 0 ((firL kk l k).1.length) ((firL kk l k).1.length), .int .i64 (((firL kk l k).2))]) (v := slv 2 0 ((firL kk l k).1.length) ((firL kk l k).1.length)) rfl rfl rfl rfl ?_
  refine r_extract (vs := #[slv 2 0 ((firL kk l k).1.length) ((firL kk l k).1.length), .int .i64 (((firL kk l k).2))]) (v := .int .i64 (((firL kk l k).2))) rfl rfl rfl rfl ?_
  refine r_assign (v := slv 2 0 ((firL kk l k).1.length) ((firL kk l k).1.length)) rfl rfl rfl ?_
  refine r_assign (v := .int .i64 (((firL kk l k).2))) rfl rfl rfl ?_
  refine r_doneN (x_then (c_seq (c_seq (c_reg ?_))))
  refine r_move (v := .int .i64 (((firL kk l k).2))) rfl rfl rfl ?_
  by_cases h1 : (((firL kk l k).2)) ≠ 0
  refine r_bin (v := .bool true) (vx := .int .i64 (((firL kk l k).2))) (vy := .int .i64 0) rfl rfl rfl rfl (neq_t (by omega)) ?_
  refine r_doneN (x_then (c_true rfl (c_seq (c_reg ?_))))
  refine r_build (vs := []) (v := dgV dz) rfl rfl rfl (by kernel_rfl) ?_
  refine r_move (v := .int .i64 (((firL kk l k).2))) rfl rfl rfl ?_
  refine r_store (p := pt 1 0) (v := dgV dz) (b := 1) (blk := dgB dz) (H' := [rwR cItem l, dgB dz, dsB ((firL kk l k).1)]) rfl rfl rfl (by kernel_rfl) (by kernel_rfl) ?_
  refine r_assign (v := .int .i64 (((firL kk l k).2))) rfl rfl rfl ?_
  refine r_doneN (x_then (c_ret (x_thenR (x_end ?_))))
  rw [show rootH kk l k = (dz, (firL kk l k).2) from if_neg (by omega)]
  exact end_same (v := .tuple #[dgV dz, .int .i64 (((firL kk l k).2))]) (by kernel_rfl) rfl rfl (by simp [keptB, rwR, cItem]) ⟨(argV_pure (pure_row fun _ => rfl) rfl), rfl, trivial⟩
  refine r_bin (v := .bool false) (vx := .int .i64 (((firL kk l k).2))) (vy := .int .i64 0) rfl rfl rfl rfl (neq_f (by omega)) ?_
  refine r_doneN (x_then (c_false rfl (c_skip (x_then (c_seq (c_reg ?_))))))
  refine r_move (v := slv 2 0 ((firL kk l k).1.length) ((firL kk l k).1.length)) rfl rfl rfl ?_
  refine r_callN (e := [some (2, 0)]) (nid := 0) (Root_ok' (G := G) kk hG hG1 ((firL kk l k).1) (c := ((firL kk l k).1.length)) (n := ((firL kk l k).1.length)) (rfl : _ = _) (by omega) (by omega) rfl) (vals := [slv 2 0 ((firL kk l k).1.length) ((firL kk l k).1.length)]) (v := dgV (rootI kk ((firL kk l k).1))) (H' := [rwR cItem l, dgB dz, dsB ((firL kk l k).1)]) rfl rfl rfl rfl rfl rfl rfl ⟨⟨⟨rfl, rfl, rfl, by first | omega | exact Nat.le_refl _, by first | omega | exact Nat.le_refl _⟩, trivial⟩, ⟨(emb_dsB rfl), trivial⟩, rfl, rfl, rfl⟩ (by kernel_rfl) (by kernel_rfl) ?_
  refine r_store (p := pt 1 0) (v := dgV (rootI kk ((firL kk l k).1))) (b := 1) (blk := dgB (rootI kk ((firL kk l k).1))) (H' := [rwR cItem l, dgB (rootI kk ((firL kk l k).1)), dsB ((firL kk l k).1)]) rfl rfl rfl (by kernel_rfl) (by kernel_rfl) ?_
  refine r_assign (v := .int .i64 0) rfl rfl rfl ?_
  refine r_doneN (x_then (c_ret (x_end ?_)))
  rw [show rootH kk l k = (rootI kk (firL kk l k).1, 0) from if_pos (by omega)]
  exact end_same (v := .tuple #[dgV (rootI kk ((firL kk l k).1)), .int .i64 0]) (by kernel_rfl) rfl rfl (by simp [keptB, rwR, cItem]) ⟨(argV_pure (pure_row fun _ => rfl) rfl), rfl, trivial⟩
theorem HHead_ok (kk : Nat → BitVec 32) (hG : G 1 = some (rowE w32 64 kk)) (hG1 : G 3 = some (rowE u8N 64 dbF)) (l : List Item) (n c : Nat) (hn : l.length = n) (hc : n ≤ c) (hb : n ≤ 1048576) (k region epoch tick : Int) : CallL Tryd.prog G 28 [slv 0 0 n c, .int .i64 k, .int .i64 region, .int .i64 epoch, .int .i64 tick] [rwR cItem l] (.tuple #[headV (headH kk l k region epoch tick).1, .int .i64 (headH kk l k region epoch tick).2]) [rwR cItem l] := by
  refine walk (fn := Tryd.f28) (nt := 36) rfl rfl rfl rfl ?_
  refine c_hole 3 (H' := [rwR cItem l, hole, hole, hole]) rfl ?_
  refine c_seq (c_reg ?_)
  refine r_alloc (b := bxB 36 (headC (⟨0, 0, 0, dz, 0⟩ : Head))) (nid := 1) (H' := [rwR cItem l, bxB 36 (headC (⟨0, 0, 0, dz, 0⟩ : Head)), hole, hole]) rfl rfl (by kernel_rfl) (by kernel_rfl) ?_
  refine r_assign (v := .int .i64 0) rfl rfl rfl ?_
  refine r_doneN (x_then (c_seq (c_reg ?_)))
  refine r_move (v := slv 0 0 n c) rfl rfl rfl ?_
  refine r_move (v := .int .i64 k) rfl rfl rfl ?_
  refine r_callN (e := [some (0, 0)]) (nid := 0) (HRoot_ok (G := G) kk hG hG1 l n c hn (by omega) (by omega) k) (vals := [slv 0 0 n c, .int .i64 k]) (v := .tuple #[dgV ((rootH kk l k).1), .int .i64 (((rootH kk l k).2))]) (H' := [rwR cItem l, bxB 36 (headC (⟨0, 0, 0, dz, 0⟩ : Head)), hole, hole]) rfl rfl rfl rfl rfl rfl rfl ⟨⟨⟨rfl, rfl, rfl, by first | omega | exact Nat.le_refl _, by first | omega | exact Nat.le_refl _⟩, rfl, trivial⟩, ⟨(emb_rwR rfl), trivial⟩, rfl, rfl, rfl⟩ (by kernel_rfl) (by kernel_rfl) ?_
  refine r_move (v := .tuple #[dgV ((rootH kk l k).1), .int .i64 (((rootH kk l k).2))]) rfl rfl rfl ?_
  refine r_extract (vs := #[dgV ((rootH kk l k).1), .int .i64 (((rootH kk l k).2))]) (v := dgV ((rootH kk l k).1)) rfl rfl rfl rfl ?_
  refine r_extract (vs := #[dgV ((rootH kk l k).1), .int .i64 (((rootH kk l k).2))]) (v := .int .i64 (((rootH kk l k).2))) rfl rfl rfl rfl ?_
  refine r_alloc (b := dgB dz) (nid := 2) (H' := [rwR cItem l, bxB 36 (headC (⟨0, 0, 0, dz, 0⟩ : Head)), dgB dz, hole]) rfl rfl (by kernel_rfl) (by kernel_rfl) ?_
  refine r_store (p := pt 2 0) (v := dgV ((rootH kk l k).1)) (b := 2) (blk := dgB ((rootH kk l k).1)) (H' := [rwR cItem l, bxB 36 (headC (⟨0, 0, 0, dz, 0⟩ : Head)), dgB ((rootH kk l k).1), hole]) rfl rfl rfl (by kernel_rfl) (by kernel_rfl) ?_
  refine r_assign (v := .int .i64 (((rootH kk l k).2))) rfl rfl rfl ?_
  refine r_doneN (x_then (c_seq (c_seq (c_reg ?_))))
  refine r_move (v := .int .i64 (((rootH kk l k).2))) rfl rfl rfl ?_
  by_cases h1 : (((rootH kk l k).2)) ≠ 0
  refine r_bin (v := .bool true) (vx := .int .i64 (((rootH kk l k).2))) (vy := .int .i64 0) rfl rfl rfl rfl (neq_t (by omega)) ?_
  refine r_doneN (x_then (c_true rfl (c_seq (c_reg ?_))))
  refine r_build (vs := []) (v := headV (⟨0, 0, 0, dz, 0⟩ : Head)) rfl rfl rfl (by kernel_rfl) ?_
  refine r_move (v := .int .i64 (((rootH kk l k).2))) rfl rfl rfl ?_
  refine r_store (p := pt 1 0) (v := headV (⟨0, 0, 0, dz, 0⟩ : Head)) (b := 1) (blk := bxB 36 (headC (⟨0, 0, 0, dz, 0⟩ : Head))) (H' := [rwR cItem l, bxB 36 (headC (⟨0, 0, 0, dz, 0⟩ : Head)), dgB ((rootH kk l k).1), hole]) rfl rfl rfl (by kernel_rfl) (by kernel_rfl) ?_
  refine r_assign (v := .int .i64 (((rootH kk l k).2))) rfl rfl rfl ?_
  refine r_doneN (x_then (c_ret (x_thenR (x_end ?_))))
  rw [show headH kk l k region epoch tick = (⟨0, 0, 0, dz, 0⟩, (rootH kk l k).2) from by unfold headH; rw [if_neg (by omega)]]
  exact end_same (v := .tuple #[headV (⟨0, 0, 0, dz, 0⟩ : Head), .int .i64 (((rootH kk l k).2))]) (by kernel_rfl) rfl rfl (by simp [keptB, rwR, cItem]) ⟨(argV_p (by kernel_rfl) rfl), rfl, trivial⟩
  refine r_bin (v := .bool false) (vx := .int .i64 (((rootH kk l k).2))) (vy := .int .i64 0) rfl rfl rfl rfl (neq_f (by omega)) ?_
  refine r_doneN (x_then (c_false rfl (c_skip (x_then (c_seq (c_reg ?_))))))
  refine r_move (v := .int .i64 region) rfl rfl rfl ?_
  refine r_move (v := .int .i64 epoch) rfl rfl rfl ?_
  refine r_move (v := .int .i64 k) rfl rfl rfl ?_
  refine r_load (p := pt 2 0) (v := dgV ((rootH kk l k).1)) rfl rfl rfl (by kernel_rfl) ?_
  refine r_move (v := .int .i64 tick) rfl rfl rfl ?_
  refine r_build (vs := [(0, .int .i64 region), (1, .int .i64 epoch), (2, .int .i64 k), (3, dgV ((rootH kk l k).1)), (4, .int .i64 tick)]) (v := headV (⟨region, epoch, k, (rootH kk l k).1, tick⟩ : Head)) rfl rfl rfl (by kernel_rfl) ?_
  refine r_alloc (b := bxB 36 (headC (⟨0, 0, 0, dz, 0⟩ : Head))) (nid := 3) (H' := [rwR cItem l, bxB 36 (headC (⟨0, 0, 0, dz, 0⟩ : Head)), dgB ((rootH kk l k).1), bxB 36 (headC (⟨0, 0, 0, dz, 0⟩ : Head))]) rfl rfl (by kernel_rfl) (by kernel_rfl) ?_
  refine r_store (p := pt 3 0) (v := headV (⟨region, epoch, k, (rootH kk l k).1, tick⟩ : Head)) (b := 3) (blk := bxB 36 (headC (⟨region, epoch, k, (rootH kk l k).1, tick⟩ : Head))) (H' := [rwR cItem l, bxB 36 (headC (⟨0, 0, 0, dz, 0⟩ : Head)), dgB ((rootH kk l k).1), bxB 36 (headC (⟨region, epoch, k, (rootH kk l k).1, tick⟩ : Head))]) rfl rfl rfl (by kernel_rfl) (by kernel_rfl) ?_
  refine r_doneN (x_then (c_seq (c_seq (c_reg ?_))))
  refine r_load (p := pt 3 0) (v := headV (⟨region, epoch, k, (rootH kk l k).1, tick⟩ : Head)) rfl rfl rfl (by kernel_rfl) ?_
  refine r_callP (Check_ok (G := G) (⟨region, epoch, k, (rootH kk l k).1, tick⟩ : Head)) (vals := [headV (⟨region, epoch, k, (rootH kk l k).1, tick⟩ : Head)]) (res' := .int .i64 ((checkE (⟨region, epoch, k, (rootH kk l k).1, tick⟩ : Head)))) rfl rfl rfl rfl rfl rfl ?_
  by_cases h2 : ((checkE (⟨region, epoch, k, (rootH kk l k).1, tick⟩ : Head))) ≠ 0
  refine r_bin (v := .bool true) (vx := .int .i64 ((checkE (⟨region, epoch, k, (rootH kk l k).1, tick⟩ : Head)))) (vy := .int .i64 0) rfl rfl rfl rfl (neq_t (by omega)) ?_
  refine r_doneN (x_then (c_true rfl (c_seq (c_reg ?_))))
  refine r_build (vs := []) (v := headV (⟨0, 0, 0, dz, 0⟩ : Head)) rfl rfl rfl (by kernel_rfl) ?_
  refine r_store (p := pt 1 0) (v := headV (⟨0, 0, 0, dz, 0⟩ : Head)) (b := 1) (blk := bxB 36 (headC (⟨0, 0, 0, dz, 0⟩ : Head))) (H' := [rwR cItem l, bxB 36 (headC (⟨0, 0, 0, dz, 0⟩ : Head)), dgB ((rootH kk l k).1), bxB 36 (headC (⟨region, epoch, k, (rootH kk l k).1, tick⟩ : Head))]) rfl rfl rfl (by kernel_rfl) (by kernel_rfl) ?_
  refine r_assign (v := .int .i64 100) rfl rfl rfl ?_
  refine r_doneN (x_then (c_ret (x_thenR (x_end ?_))))
  rw [show headH kk l k region epoch tick = (⟨0, 0, 0, dz, 0⟩, 100) from by unfold headH; rw [if_pos (by omega), if_neg (by omega)]]
  exact end_same (v := .tuple #[headV (⟨0, 0, 0, dz, 0⟩ : Head), .int .i64 100]) (by kernel_rfl) rfl rfl (by simp [keptB, rwR, cItem]) ⟨(argV_p (by kernel_rfl) rfl), rfl, trivial⟩
  refine r_bin (v := .bool false) (vx := .int .i64 ((checkE (⟨region, epoch, k, (rootH kk l k).1, tick⟩ : Head)))) (vy := .int .i64 0) rfl rfl rfl rfl (neq_f (by omega)) ?_
  refine r_doneN (x_then (c_false rfl (c_skip (x_then (c_seq (c_reg ?_))))))
  refine r_load (p := pt 3 0) (v := headV (⟨region, epoch, k, (rootH kk l k).1, tick⟩ : Head)) rfl rfl rfl (by kernel_rfl) ?_
  refine r_store (p := pt 1 0) (v := headV (⟨region, epoch, k, (rootH kk l k).1, tick⟩ : Head)) (b := 1) (blk := bxB 36 (headC (⟨region, epoch, k, (rootH kk l k).1, tick⟩ : Head))) (H' := [rwR cItem l, bxB 36 (headC (⟨region, epoch, k, (rootH kk l k).1, tick⟩ : Head)), dgB ((rootH kk l k).1), bxB 36 (headC (⟨region, epoch, k, (rootH kk l k).1, tick⟩ : Head))]) rfl rfl rfl (by kernel_rfl) (by kernel_rfl) ?_
  refine r_assign (v := .int .i64 0) rfl rfl rfl ?_
  refine r_doneN (x_then (c_ret (x_end ?_)))
  rw [show headH kk l k region epoch tick = ((⟨region, epoch, k, (rootH kk l k).1, tick⟩ : Head), 0) from by unfold headH; rw [if_pos (by omega), if_pos (by omega)]]
  exact end_same (v := .tuple #[headV (⟨region, epoch, k, (rootH kk l k).1, tick⟩ : Head), .int .i64 0]) (by kernel_rfl) rfl rfl (by simp [keptB, rwR, cItem]) ⟨(argV_p (by kernel_rfl) rfl), rfl, trivial⟩
theorem HCons_ok (kk : Nat → BitVec 32) (hG : G 1 = some (rowE w32 64 kk)) (hG1 : G 3 = some (rowE u8N 64 dbF)) (l : List Item) (n c : Nat) (hn : l.length = n) (hc : n ≤ c) (hb : n ≤ 1048576) (i k : Int) : CallL Tryd.prog G 30 [slv 0 0 n c, .int .i64 i, .int .i64 k] [rwR cItem l] (.tuple #[slv 1 0 (conH kk l i k).1.length (conH kk l i k).1.length, .int .i64 (conH kk l i k).2]) [rwR cItem l, dsB (conH kk l i k).1] := by
  refine walk (fn := Tryd.f30) (nt := 24) rfl rfl rfl rfl ?_
  refine c_hole 2 (H' := [rwR cItem l, hole, hole]) rfl ?_
  refine c_seq (c_reg ?_)
  refine r_assign (v := .slice none 0 0) rfl rfl rfl ?_
  refine r_assign (v := .int .i64 0) rfl rfl rfl ?_
  refine r_doneN (x_then (c_seq (c_reg ?_)))
  refine r_move (v := slv 0 0 n c) rfl rfl rfl ?_
  refine r_move (v := .int .i64 k) rfl rfl rfl ?_
  have hfl4 := firL_len kk l k
  refine r_callN (e := [some (0, 0)]) (nid := 1) (first_ok (G := G) kk hG l n c hn (by omega) (by omega) k) (vals := [slv 0 0 n c, .int .i64 k]) (v := .tuple #[slv 1 0 ((firL kk l k).1.length) ((firL kk l k).1.length), .int .i64 (((firL kk l k).2))]) (H' := [rwR cItem l, dsB ((firL kk l k).1), hole]) rfl rfl rfl rfl rfl rfl rfl ⟨⟨⟨rfl, rfl, rfl, by first | omega | exact Nat.le_refl _, by first | omega | exact Nat.le_refl _⟩, rfl, trivial⟩, ⟨(emb_rwR rfl), trivial⟩, rfl, rfl, rfl⟩ (by kernel_rfl) (by kernel_rfl) ?_
  refine r_move (v := .tuple #[slv 1 0 ((firL kk l k).1.length) ((firL kk l k).1.length), .int .i64 (((firL kk l k).2))]) rfl rfl rfl ?_
  refine r_extract (vs := #[slv 1 0 ((firL kk l k).1.length) ((firL kk l k).1.length), .int .i64 (((firL kk l k).2))]) (v := slv 1 0 ((firL kk l k).1.length) ((firL kk l k).1.length)) rfl rfl rfl rfl ?_
  refine r_extract (vs := #[slv 1 0 ((firL kk l k).1.length) ((firL kk l k).1.length), .int .i64 (((firL kk l k).2))]) (v := .int .i64 (((firL kk l k).2))) rfl rfl rfl rfl ?_
  refine r_assign (v := slv 1 0 ((firL kk l k).1.length) ((firL kk l k).1.length)) rfl rfl rfl ?_
  refine r_assign (v := .int .i64 (((firL kk l k).2))) rfl rfl rfl ?_
  refine r_doneN (x_then (c_seq (c_seq (c_reg ?_))))
  refine r_move (v := .int .i64 (((firL kk l k).2))) rfl rfl rfl ?_
  by_cases h1 : (((firL kk l k).2)) ≠ 0
  refine r_bin (v := .bool true) (vx := .int .i64 (((firL kk l k).2))) (vy := .int .i64 0) rfl rfl rfl rfl (neq_t (by omega)) ?_
  refine r_doneN (x_then (c_true rfl (c_seq (c_reg ?_))))
  refine r_move (v := .int .i64 (((firL kk l k).2))) rfl rfl rfl ?_
  refine r_assign (v := .slice none 0 0) rfl rfl rfl ?_
  refine r_assign (v := .int .i64 (((firL kk l k).2))) rfl rfl rfl ?_
  refine r_doneN (x_then ?_)
  refine c_weak (Weak.nilTmp (i := 6) (b := 2) true 32 rfl (by decide) rfl) ?_
  refine c_ret (x_thenR (x_end ?_))
  rw [show conH kk l i k = ([], (firL kk l k).2) from by unfold conH; rw [if_neg (by omega)]]
  exact end_map [0, 2] (v := .tuple #[slv 2 0 0 0, .int .i64 (((firL kk l k).2))]) rfl (by kernel_rfl) rfl rfl (by decide) (by simp [keptB, rwR, dsB, cItem]) ⟨⟨rfl, rfl, rfl, by first | omega | exact Nat.le_refl _ | exact Nat.zero_le _ | (dsimp only; omega), by first | omega | exact Nat.le_refl _ | exact Nat.zero_le _ | (dsimp only; omega)⟩, rfl, trivial⟩
  refine r_bin (v := .bool false) (vx := .int .i64 (((firL kk l k).2))) (vy := .int .i64 0) rfl rfl rfl rfl (neq_f (by omega)) ?_
  refine r_doneN (x_then (c_false rfl (c_skip (x_then (c_seq (c_reg ?_))))))
  refine r_move (v := slv 1 0 ((firL kk l k).1.length) ((firL kk l k).1.length)) rfl rfl rfl ?_
  refine r_move (v := .int .i64 i) rfl rfl rfl ?_
  by_cases h2 : i < 0
  refine r_callN (e := [some (1, 0)]) (nid := 0) (TCons_bad (G := G) ((firL kk l k).1) ((firL kk l k).1.length) ((firL kk l k).1.length) i (rfl : _ = _) (by omega)) (vals := [slv 1 0 ((firL kk l k).1.length) ((firL kk l k).1.length), .int .i64 i]) (v := .tuple #[.slice none 0 0, .int .i64 21]) (H' := [rwR cItem l, dsB ((firL kk l k).1), hole]) rfl rfl rfl rfl rfl rfl rfl ⟨⟨⟨rfl, rfl, rfl, by first | omega | exact Nat.le_refl _, by first | omega | exact Nat.le_refl _⟩, rfl, trivial⟩, ⟨(emb_dsB rfl), trivial⟩, rfl, rfl, rfl⟩ (by kernel_rfl) (by kernel_rfl) ?_
  refine r_extract (vs := #[.slice none 0 0, .int .i64 21]) (v := .slice none 0 0) rfl rfl rfl rfl ?_
  refine r_extract (vs := #[.slice none 0 0, .int .i64 21]) (v := .int .i64 21) rfl rfl rfl rfl ?_
  refine r_assign (v := .slice none 0 0) rfl rfl rfl ?_
  refine r_assign (v := .int .i64 21) rfl rfl rfl ?_
  refine r_doneN (x_then ?_)
  refine c_weak (Weak.nilTmp (i := 6) (b := 2) true 32 rfl (by decide) rfl) ?_
  refine c_ret (x_end ?_)
  rw [show conH kk l i k = ([], 21) from by unfold conH; rw [if_pos (by omega), if_neg (by omega)]]
  exact end_map [0, 2] (v := .tuple #[slv 2 0 0 0, .int .i64 21]) rfl (by kernel_rfl) rfl rfl (by decide) (by simp [keptB, rwR, dsB, cItem]) ⟨⟨rfl, rfl, rfl, by first | omega | exact Nat.le_refl _ | exact Nat.zero_le _ | (dsimp only; omega), by first | omega | exact Nat.le_refl _ | exact Nat.zero_le _ | (dsimp only; omega)⟩, rfl, trivial⟩
  by_cases h3 : i ≤ ((((firL kk l k).1.length) : Nat) : Int)
  by_cases h4 : i = 0
  refine r_callN (e := [some (1, 0)]) (nid := 0) (TCons_zero (G := G) ((firL kk l k).1) ((firL kk l k).1.length) ((firL kk l k).1.length) (rfl : _ = _)) (vals := [slv 1 0 ((firL kk l k).1.length) ((firL kk l k).1.length), .int .i64 i]) (v := .tuple #[.slice none 0 0, .int .i64 0]) (H' := [rwR cItem l, dsB ((firL kk l k).1), hole]) rfl rfl rfl rfl rfl rfl rfl ⟨⟨⟨rfl, rfl, rfl, by first | omega | exact Nat.le_refl _, by first | omega | exact Nat.le_refl _⟩, (congrArg (Value.int .i64) (by omega)), trivial⟩, ⟨(emb_dsB rfl), trivial⟩, rfl, rfl, rfl⟩ (by kernel_rfl) (by kernel_rfl) ?_
  refine r_extract (vs := #[.slice none 0 0, .int .i64 0]) (v := .slice none 0 0) rfl rfl rfl rfl ?_
  refine r_extract (vs := #[.slice none 0 0, .int .i64 0]) (v := .int .i64 0) rfl rfl rfl rfl ?_
  refine r_assign (v := .slice none 0 0) rfl rfl rfl ?_
  refine r_assign (v := .int .i64 0) rfl rfl rfl ?_
  refine r_doneN (x_then ?_)
  refine c_weak (Weak.nilTmp (i := 6) (b := 2) true 32 rfl (by decide) rfl) ?_
  refine c_ret (x_end ?_)
  rw [show conH kk l i k = ([], 0) from by unfold conH; rw [if_pos (by omega), if_pos (by omega), if_pos (by omega)]]
  exact end_map [0, 2] (v := .tuple #[slv 2 0 0 0, .int .i64 0]) rfl (by kernel_rfl) rfl rfl (by decide) (by simp [keptB, rwR, dsB, cItem]) ⟨⟨rfl, rfl, rfl, by first | omega | exact Nat.le_refl _ | exact Nat.zero_le _ | (dsimp only; omega), by first | omega | exact Nat.le_refl _ | exact Nat.zero_le _ | (dsimp only; omega)⟩, rfl, trivial⟩
  refine r_callN (e := [some (1, 0)]) (nid := 2) (Cons_ok (G := G) kk hG hG1 ((firL kk l k).1) ((firL kk l k).1.length) i.toNat (n := ((firL kk l k).1.length)) (rfl : _ = _) (by omega) (by omega) (by omega) (by omega) rfl) (vals := [slv 1 0 ((firL kk l k).1.length) ((firL kk l k).1.length), .int .i64 i]) (v := .tuple #[slv 2 0 ((consP kk ((firL kk l k).1) i.toNat).length) ((consP kk ((firL kk l k).1) i.toNat).length), .int .i64 0]) (H' := [rwR cItem l, dsB ((firL kk l k).1), dsB (consP kk ((firL kk l k).1) i.toNat)]) rfl rfl rfl rfl rfl rfl rfl ⟨⟨⟨rfl, rfl, rfl, by first | omega | exact Nat.le_refl _, by first | omega | exact Nat.le_refl _⟩, (congrArg (Value.int .i64) (by omega)), trivial⟩, ⟨(emb_dsB rfl), trivial⟩, rfl, rfl, rfl⟩ (by kernel_rfl) (by kernel_rfl) ?_
  refine r_extract (vs := #[slv 2 0 ((consP kk ((firL kk l k).1) i.toNat).length) ((consP kk ((firL kk l k).1) i.toNat).length), .int .i64 0]) (v := slv 2 0 ((consP kk ((firL kk l k).1) i.toNat).length) ((consP kk ((firL kk l k).1) i.toNat).length)) rfl rfl rfl rfl ?_
  refine r_extract (vs := #[slv 2 0 ((consP kk ((firL kk l k).1) i.toNat).length) ((consP kk ((firL kk l k).1) i.toNat).length), .int .i64 0]) (v := .int .i64 0) rfl rfl rfl rfl ?_
  refine r_assign (v := slv 2 0 ((consP kk ((firL kk l k).1) i.toNat).length) ((consP kk ((firL kk l k).1) i.toNat).length)) rfl rfl rfl ?_
  refine r_assign (v := .int .i64 0) rfl rfl rfl ?_
  refine r_doneN (x_then (c_ret (x_end ?_)))
  rw [show conH kk l i k = (consP kk (firL kk l k).1 i.toNat, 0) from by unfold conH; rw [if_pos (by omega), if_pos (by omega), if_neg (by omega)]]
  exact end_map [0, 2] (v := .tuple #[slv 2 0 ((consP kk ((firL kk l k).1) i.toNat).length) ((consP kk ((firL kk l k).1) i.toNat).length), .int .i64 0]) rfl (by kernel_rfl) rfl rfl (by decide) (by simp [keptB, rwR, dsB, cItem]) ⟨⟨rfl, rfl, rfl, by first | omega | exact Nat.le_refl _ | exact Nat.zero_le _ | (dsimp only; omega), by first | omega | exact Nat.le_refl _ | exact Nat.zero_le _ | (dsimp only; omega)⟩, rfl, trivial⟩
  refine r_callN (e := [some (1, 0)]) (nid := 0) (TCons_bad (G := G) ((firL kk l k).1) ((firL kk l k).1.length) ((firL kk l k).1.length) i (rfl : _ = _) (by omega)) (vals := [slv 1 0 ((firL kk l k).1.length) ((firL kk l k).1.length), .int .i64 i]) (v := .tuple #[.slice none 0 0, .int .i64 21]) (H' := [rwR cItem l, dsB ((firL kk l k).1), hole]) rfl rfl rfl rfl rfl rfl rfl ⟨⟨⟨rfl, rfl, rfl, by first | omega | exact Nat.le_refl _, by first | omega | exact Nat.le_refl _⟩, rfl, trivial⟩, ⟨(emb_dsB rfl), trivial⟩, rfl, rfl, rfl⟩ (by kernel_rfl) (by kernel_rfl) ?_
  refine r_extract (vs := #[.slice none 0 0, .int .i64 21]) (v := .slice none 0 0) rfl rfl rfl rfl ?_
  refine r_extract (vs := #[.slice none 0 0, .int .i64 21]) (v := .int .i64 21) rfl rfl rfl rfl ?_
  refine r_assign (v := .slice none 0 0) rfl rfl rfl ?_
  refine r_assign (v := .int .i64 21) rfl rfl rfl ?_
  refine r_doneN (x_then ?_)
  refine c_weak (Weak.nilTmp (i := 6) (b := 2) true 32 rfl (by decide) rfl) ?_
  refine c_ret (x_end ?_)
  rw [show conH kk l i k = ([], 21) from by unfold conH; rw [if_pos (by omega), if_neg (by omega)]]
  exact end_map [0, 2] (v := .tuple #[slv 2 0 0 0, .int .i64 21]) rfl (by kernel_rfl) rfl rfl (by decide) (by simp [keptB, rwR, dsB, cItem]) ⟨⟨rfl, rfl, rfl, by first | omega | exact Nat.le_refl _ | exact Nat.zero_le _ | (dsimp only; omega), by first | omega | exact Nat.le_refl _ | exact Nat.zero_le _ | (dsimp only; omega)⟩, rfl, trivial⟩
end Go.Flat
