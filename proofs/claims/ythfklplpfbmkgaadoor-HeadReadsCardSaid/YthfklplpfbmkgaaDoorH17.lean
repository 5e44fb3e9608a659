/- Walks and plain laws: what each theorem says, within the bounds that it names. -/
import Derived.Test.YthfklplpfbmkgaaDoorH16
set_option linter.unusedVariables false
set_option linter.unusedSimpArgs false
set_option maxRecDepth 20000
namespace Go.Flat
open Go.Proofs
variable {G : Glob}
def nxP (L p : Nat) : Nat := if p < L then p + 1 else p
def remP (L p : Nat) : Nat := L - p
theorem remP_add {L p : Nat} (h : p ≤ L) : remP L p + p = L := by unfold remP; omega
theorem nxP_le {L p : Nat} (h : p ≤ L) : nxP L p ≤ L := by unfold nxP; split <;> omega
theorem getD_end {ls : List ByteArray} {p : Nat} (h : ls.length ≤ p) : ls.getD p ⟨#[]⟩ = ⟨#[]⟩ := by rw [List.getD_eq_getElem?_getD, List.getElem?_eq_none h]; rfl
theorem next_ok (ls : List ByteArray) (L p : Nat) (ok : Bool) (hL : ls.length = L) (hp : p ≤ L) : CallL Tryd.prog G 38 [pt 0 0, pt 2 0] [rfB (slv 1 p (remP L p) (remP L p)), strB ls, bxB 1 ([.bool ok])] (.string (ls.getD p ⟨#[]⟩)) [rfB (slv 1 (nxP L p) (remP L (nxP L p)) (remP L (nxP L p))), strB ls, bxB 1 [.bool (ok && decide (p < L))]] := by
  have hr : remP L p + p = L := remP_add hp
  refine walk (fn := Tryd.f38) (nt := 25) rfl rfl rfl rfl ?_
  refine c_seq (c_reg ?_)
  refine r_assign (v := .string ⟨#[]⟩) rfl rfl rfl ?_
  refine r_doneN (x_then (c_seq (c_seq (c_reg ?_))))
  refine r_move (v := pt 0 0) rfl rfl rfl ?_
  refine r_nilCheck (p := pt 0 0) (v := pt 0 0) rfl rfl rfl rfl ?_
  refine r_load (p := pt 0 0) (v := slv 1 p (remP L p) (remP L p)) rfl rfl rfl rfl ?_
  refine r_len (p := slv 1 p (remP L p) (remP L p)) (v := .int .i64 (((remP L p) : Nat) : Int)) rfl rfl rfl rfl ?_
  by_cases h1 : (((remP L p) : Nat) : Int) = 0
  refine r_bin (v := .bool true) (vx := .int .i64 (((remP L p) : Nat) : Int)) (vy := .int .i64 0) rfl rfl rfl rfl (eql_t (by omega)) ?_
  refine r_doneN (x_then (c_true rfl (c_seq (c_reg ?_))))
  refine r_move (v := pt 2 0) rfl rfl rfl ?_
  refine r_nilCheck (p := pt 2 0) (v := pt 2 0) rfl rfl rfl rfl ?_
  refine r_store (p := pt 2 0) (v := .bool false) (b := 2) (blk := bxB 1 ([.bool false])) (H' := [rfB (slv 1 p (remP L p) (remP L p)), strB ls, bxB 1 ([.bool false])]) rfl rfl rfl (by kernel_rfl) (by kernel_rfl) ?_
  refine r_doneN (x_then (c_seq (c_reg ?_)))
  refine r_assign (v := .string ⟨#[]⟩) rfl rfl rfl ?_
  refine r_doneN (x_then (c_ret (x_thenR (x_end ?_))))
  rw [show nxP L p = p from if_neg (by omega), show (ok && decide (p < L)) = false from by rw [decide_eq_false (by omega), Bool.and_false], getD_end (by omega)]
  exact end_same (v := .string ⟨#[]⟩) rfl rfl rfl (by simp [keptB, strB, bxB, rfB, okId, okId0]) rfl
  refine r_bin (v := .bool false) (vx := .int .i64 (((remP L p) : Nat) : Int)) (vy := .int .i64 0) rfl rfl rfl rfl (eql_f (by omega)) ?_
  refine r_doneN (x_then (c_false rfl (c_skip (x_then (c_seq (c_reg ?_))))))
  refine r_move (v := pt 0 0) rfl rfl rfl ?_
  refine r_nilCheck (p := pt 0 0) (v := pt 0 0) rfl rfl rfl rfl ?_
  refine r_load (p := pt 0 0) (v := slv 1 p (remP L p) (remP L p)) rfl rfl rfl rfl ?_
  refine r_idxS (b := 1) (o := p) (j := p) (m := (remP L p)) (c := (remP L p)) (sz := 1) (i := 0) (k := .i64) rfl rfl rfl rfl rfl (by omega) (by omega) (by omega) ?_
  refine r_load (p := pt 1 p) (v := .string (ls.getD p ⟨#[]⟩)) rfl rfl rfl (load_tx rfl rfl rfl (by have := hL; omega)) ?_
  refine r_assign (v := .string (ls.getD p ⟨#[]⟩)) rfl rfl rfl ?_
  refine r_doneN (x_then (c_seq (c_reg ?_)))
  refine r_move (v := pt 0 0) rfl rfl rfl ?_
  refine r_move (v := pt 0 0) rfl rfl rfl ?_
  refine r_nilCheck (p := pt 0 0) (v := pt 0 0) rfl rfl rfl rfl ?_
  refine r_load (p := pt 0 0) (v := slv 1 p (remP L p) (remP L p)) rfl rfl rfl rfl ?_
  refine r_slice (p := slv 1 p (remP L p) (remP L p)) (vl := some (.int .i64 1)) (vh := none) (v := slv 1 (p + 1) ((remP L p) - 1) ((remP L p) - 1)) rfl rfl rfl rfl rfl (slice_lo (sz := 1) (l := 1) rfl rfl rfl (by omega) (by omega) (by omega) rfl (by omega) (by omega) (by omega)) ?_
  refine r_nilCheck (p := pt 0 0) (v := pt 0 0) rfl rfl rfl rfl ?_
  refine r_store (p := pt 0 0) (v := slv 1 (p + 1) ((remP L p) - 1) ((remP L p) - 1)) (b := 0) (blk := rfB (slv 1 (p + 1) ((remP L p) - 1) ((remP L p) - 1))) (H' := [rfB (slv 1 (p + 1) ((remP L p) - 1) ((remP L p) - 1)), strB ls, bxB 1 ([.bool ok])]) rfl rfl rfl (by kernel_rfl) (by kernel_rfl) ?_
  refine r_doneN (x_then (c_seq (c_reg ?_)))
  refine r_move (v := .string (ls.getD p ⟨#[]⟩)) rfl rfl rfl ?_
  refine r_assign (v := .string (ls.getD p ⟨#[]⟩)) rfl rfl rfl ?_
  refine r_doneN (x_then (c_ret (x_end ?_)))
  rw [show nxP L p = p + 1 from if_pos (by omega), show remP L (p + 1) = remP L p - 1 from by unfold remP; omega, show (ok && decide (p < L)) = ok from by rw [decide_eq_true (by omega), Bool.and_true]]
  exact end_same (v := .string (ls.getD p ⟨#[]⟩)) rfl rfl rfl (by simp [keptB, strB, bxB, rfB, okId, okId0]) rfl
theorem number_ok (ls : List ByteArray) (L p : Nat) (ok : Bool) (hL : ls.length = L) (hp : p ≤ L) : CallL Tryd.prog G 39 [pt 0 0, pt 2 0] [rfB (slv 1 p (remP L p) (remP L p)), strB ls, bxB 1 ([.bool ok])] (.int .i64 (valS (ls.getD p ⟨#[]⟩)).1) [rfB (slv 1 (nxP L p) (remP L (nxP L p)) (remP L (nxP L p))), strB ls, bxB 1 [.bool ((ok && decide (p < L)) && decide ((valS (ls.getD p ⟨#[]⟩)).2 = 0))]] := by
  refine walk (fn := Tryd.f39) (nt := 24) rfl rfl rfl rfl ?_
  refine c_seq (c_reg ?_)
  refine r_assign (v := .int .i64 0) rfl rfl rfl ?_
  refine r_doneN (x_then (c_seq (c_reg ?_)))
  refine r_move (v := pt 0 0) rfl rfl rfl ?_
  refine r_move (v := pt 2 0) rfl rfl rfl ?_
  have hnx2 := nxP_le (L := L) (p := p) (by omega)
  refine r_callN (e := [some (0, 0), some (1, 0), some (2, 0)]) (nid := 0) (next_ok (G := G) ls L p ok hL (by omega)) (vals := [pt 0 0, pt 2 0]) (v := .string (ls.getD p ⟨#[]⟩)) (H' := [rfB (slv 1 (nxP L p) (remP L (nxP L p)) (remP L (nxP L p))), strB ls, bxB 1 ([.bool (ok && decide (p < L))])]) rfl rfl rfl rfl rfl rfl rfl ⟨⟨⟨rfl, rfl⟩, ⟨rfl, rfl⟩, trivial⟩, ⟨(emb_wr rfl rfl rfl (by show [_] = [renC _ _]; simp [renC, renC0])), (emb_str rfl), (emb_wr rfl rfl rfl rfl), trivial⟩, rfl, rfl, rfl⟩ rfl (Eq.trans (b := [rfB (slv 1 (0 + (nxP L p)) (remP L (nxP L p)) (remP L (nxP L p))), strB ls, bxB 1 ([.bool (ok && decide (p < L))])]) (by kernel_rfl) (by rw [Nat.zero_add])) ?_
  refine r_callP (Value_ok (G := G) (ls.getD p ⟨#[]⟩)) (vals := [.string (ls.getD p ⟨#[]⟩)]) (res' := .tuple #[.int .i64 (((valS (ls.getD p ⟨#[]⟩)).1)), .int .i64 (((valS (ls.getD p ⟨#[]⟩)).2))]) rfl rfl rfl rfl rfl (by kernel_rfl) ?_
  refine r_move (v := .tuple #[.int .i64 (((valS (ls.getD p ⟨#[]⟩)).1)), .int .i64 (((valS (ls.getD p ⟨#[]⟩)).2))]) rfl rfl rfl ?_
  refine r_extract (vs := #[.int .i64 (((valS (ls.getD p ⟨#[]⟩)).1)), .int .i64 (((valS (ls.getD p ⟨#[]⟩)).2))]) (v := .int .i64 (((valS (ls.getD p ⟨#[]⟩)).1))) rfl rfl rfl rfl ?_
  refine r_extract (vs := #[.int .i64 (((valS (ls.getD p ⟨#[]⟩)).1)), .int .i64 (((valS (ls.getD p ⟨#[]⟩)).2))]) (v := .int .i64 (((valS (ls.getD p ⟨#[]⟩)).2))) rfl rfl rfl rfl ?_
  refine r_assign (v := .int .i64 (((valS (ls.getD p ⟨#[]⟩)).1))) rfl rfl rfl ?_
  refine r_assign (v := .int .i64 (((valS (ls.getD p ⟨#[]⟩)).2))) rfl rfl rfl ?_
  refine r_doneN (x_then (c_seq (c_reg ?_)))
  refine r_move (v := pt 2 0) rfl rfl rfl ?_
  refine r_move (v := pt 2 0) rfl rfl rfl ?_
  refine r_nilCheck (p := pt 2 0) (v := pt 2 0) rfl rfl rfl rfl ?_
  refine r_load (p := pt 2 0) (v := .bool (ok && decide (p < L))) rfl rfl rfl (by kernel_rfl) ?_
  refine r_move (v := .bool (ok && decide (p < L))) rfl rfl rfl ?_
  rcases Bool.eq_false_or_eq_true (ok && decide (p < L)) with h1 | h1
  refine r_move (v := .int .i64 (((valS (ls.getD p ⟨#[]⟩)).2))) (by exact congrArg (fun b => some (b == true)) h1) rfl rfl ?_
  by_cases h2 : (((valS (ls.getD p ⟨#[]⟩)).2)) = 0
  refine r_bin (v := .bool true) (vx := .int .i64 (((valS (ls.getD p ⟨#[]⟩)).2))) (vy := .int .i64 0) (by exact congrArg (fun b => some (b == true)) h1) rfl rfl rfl (eql_t (by omega)) ?_
  refine r_pick (v := .bool true) rfl rfl (by show some (if _ then _ else _) = _; rw [h1] <;> rfl) ?_
  refine r_nilCheck (p := pt 2 0) (v := pt 2 0) rfl rfl rfl rfl ?_
  refine r_store (p := pt 2 0) (v := .bool true) (b := 2) (blk := bxB 1 ([.bool true])) (H' := [rfB (slv 1 (nxP L p) (remP L (nxP L p)) (remP L (nxP L p))), strB ls, bxB 1 ([.bool true])]) rfl rfl rfl (by kernel_rfl) (by kernel_rfl) ?_
  refine r_doneN (x_then (c_seq (c_reg ?_)))
  refine r_move (v := .int .i64 (((valS (ls.getD p ⟨#[]⟩)).1))) rfl rfl rfl ?_
  refine r_assign (v := .int .i64 (((valS (ls.getD p ⟨#[]⟩)).1))) rfl rfl rfl ?_
  refine r_doneN (x_then (c_ret (x_end ?_)))
  rw [show ((ok && decide (p < L)) && decide ((valS (ls.getD p ⟨#[]⟩)).2 = 0)) = true from by simp only [*, Bool.true_and, Bool.false_and, eq_self, decide_true, decide_false]]
  exact end_same (v := .int .i64 (((valS (ls.getD p ⟨#[]⟩)).1))) rfl rfl rfl (by simp [keptB, strB, bxB, rfB, okId, okId0]) rfl
  refine r_bin (v := .bool false) (vx := .int .i64 (((valS (ls.getD p ⟨#[]⟩)).2))) (vy := .int .i64 0) (by exact congrArg (fun b => some (b == true)) h1) rfl rfl rfl (eql_f (by omega)) ?_
  refine r_pick (v := .bool false) rfl rfl (by show some (if _ then _ else _) = _; rw [h1] <;> rfl) ?_
  refine r_nilCheck (p := pt 2 0) (v := pt 2 0) rfl rfl rfl rfl ?_
  refine r_store (p := pt 2 0) (v := .bool false) (b := 2) (blk := bxB 1 ([.bool false])) (H' := [rfB (slv 1 (nxP L p) (remP L (nxP L p)) (remP L (nxP L p))), strB ls, bxB 1 ([.bool false])]) rfl rfl rfl (by kernel_rfl) (by kernel_rfl) ?_
  refine r_doneN (x_then (c_seq (c_reg ?_)))
  refine r_move (v := .int .i64 (((valS (ls.getD p ⟨#[]⟩)).1))) rfl rfl rfl ?_
  refine r_assign (v := .int .i64 (((valS (ls.getD p ⟨#[]⟩)).1))) rfl rfl rfl ?_
  refine r_doneN (x_then (c_ret (x_end ?_)))
  rw [show ((ok && decide (p < L)) && decide ((valS (ls.getD p ⟨#[]⟩)).2 = 0)) = false from by simp only [*, Bool.true_and, Bool.false_and, eq_self, decide_true, decide_false]]
  exact end_same (v := .int .i64 (((valS (ls.getD p ⟨#[]⟩)).1))) rfl rfl rfl (by simp [keptB, strB, bxB, rfB, okId, okId0]) rfl
  refine r_skip (by exact congrArg (fun b => some (b == true)) h1) rfl ?_
  refine r_skip (by exact congrArg (fun b => some (b == true)) h1) rfl ?_
  refine r_pick (v := .bool false) rfl rfl (by show some (if _ then _ else _) = _; rw [h1] <;> rfl) ?_
  refine r_nilCheck (p := pt 2 0) (v := pt 2 0) rfl rfl rfl rfl ?_
  refine r_store (p := pt 2 0) (v := .bool false) (b := 2) (blk := bxB 1 ([.bool false])) (H' := [rfB (slv 1 (nxP L p) (remP L (nxP L p)) (remP L (nxP L p))), strB ls, bxB 1 ([.bool false])]) rfl rfl rfl (by kernel_rfl) (by kernel_rfl) ?_
  refine r_doneN (x_then (c_seq (c_reg ?_)))
  refine r_move (v := .int .i64 (((valS (ls.getD p ⟨#[]⟩)).1))) rfl rfl rfl ?_
  refine r_assign (v := .int .i64 (((valS (ls.getD p ⟨#[]⟩)).1))) rfl rfl rfl ?_
  refine r_doneN (x_then (c_ret (x_end ?_)))
  rw [show ((ok && decide (p < L)) && decide ((valS (ls.getD p ⟨#[]⟩)).2 = 0)) = false from by simp only [*, Bool.true_and, Bool.false_and, eq_self, decide_true, decide_false]]
  exact end_same (v := .int .i64 (((valS (ls.getD p ⟨#[]⟩)).1))) rfl rfl rfl (by simp [keptB, strB, bxB, rfB, okId, okId0]) rfl
end Go.Flat
