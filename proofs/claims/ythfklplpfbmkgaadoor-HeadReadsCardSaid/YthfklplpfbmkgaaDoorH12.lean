/- Walks and plain laws: what each theorem says, within the bounds that it names. -/
import Derived.Test.YthfklplpfbmkgaaDoorH8
set_option linter.unusedVariables false
set_option linter.unusedSimpArgs false
set_option maxRecDepth 20000
namespace Go.Flat
open Go.Proofs
variable {G : Glob}
def getF (l : Bs) (n : Nat) : Field × Int × Int :=
  if (n : Nat) < 4 then ((⟨0, ⟨#[]⟩⟩ : Field), 0, 10) else
  if ((l.getD 0 0) == 0#8) = true then ((⟨0, ⟨#[]⟩⟩ : Field), 0, 11) else
  if 65536 < 65536 * ((((l.getD 1 0).toNat) : Nat) : Int) + 256 * ((((l.getD 2 0).toNat) : Nat) : Int) + ((((l.getD 3 0).toNat) : Nat) : Int) then ((⟨0, ⟨#[]⟩⟩ : Field), 0, 11) else
  if (n : Nat) - 4 < 65536 * ((((l.getD 1 0).toNat) : Nat) : Int) + 256 * ((((l.getD 2 0).toNat) : Nat) : Int) + ((((l.getD 3 0).toNat) : Nat) : Int) then ((⟨0, ⟨#[]⟩⟩ : Field), 0, 10) else
  ((⟨((((l.getD 0 0).toNat) : Nat) : Int), (strOf ((l.drop 4).take (65536 * ((l.getD 1 0).toNat) + 256 * ((l.getD 2 0).toNat) + ((l.getD 3 0).toNat))))⟩ : Field), 65536 * ((((l.getD 1 0).toNat) : Nat) : Int) + 256 * ((((l.getD 2 0).toNat) : Nat) : Int) + ((((l.getD 3 0).toNat) : Nat) : Int) + 4, 0)
theorem Get_ok (l : Bs) (n c : Nat) (hn : l.length = n) (hc : n ≤ c) (hb : n ≤ 1099511627776) : CallL Tryd.prog G 73 [slv 0 0 n c] [rdB l] (.tuple #[fdV (getF l n).1, .int .i64 (getF l n).2.1, .int .i64 (getF l n).2.2]) [rdB l] := by
  refine walk (fn := Tryd.f73) (nt := 55) rfl rfl rfl rfl ?_
  refine c_hole 1 (H' := [rdB l, hole]) rfl ?_
  refine c_seq (c_reg ?_)
  refine r_alloc (b := bxB 2 (fdC (⟨0, ⟨#[]⟩⟩ : Field))) (nid := 1) (H' := [rdB l, bxB 2 (fdC (⟨0, ⟨#[]⟩⟩ : Field))]) rfl rfl (by kernel_rfl) (by kernel_rfl) ?_
  refine r_assign (v := .int .i64 0) rfl rfl rfl ?_
  refine r_assign (v := .int .i64 0) rfl rfl rfl ?_
  refine r_doneN (x_then (c_seq (c_seq (c_reg ?_))))
  refine r_move (v := slv 0 0 n c) rfl rfl rfl ?_
  refine r_len (p := slv 0 0 n c) (v := .int .i64 (n : Nat)) rfl rfl rfl rfl ?_
  by_cases h1 : (n : Nat) < 4
  refine r_bin (v := .bool true) (vx := .int .i64 (n : Nat)) (vy := .int .i64 4) rfl rfl rfl rfl (lss_t (by omega)) ?_
  refine r_doneN (x_then (c_true rfl (c_seq (c_reg ?_))))
  refine r_build (vs := []) (v := fdV (⟨0, ⟨#[]⟩⟩ : Field)) rfl rfl rfl (by kernel_rfl) ?_
  refine r_store (p := pt 1 0) (v := fdV (⟨0, ⟨#[]⟩⟩ : Field)) (b := 1) (blk := bxB 2 (fdC (⟨0, ⟨#[]⟩⟩ : Field))) (H' := [rdB l, bxB 2 (fdC (⟨0, ⟨#[]⟩⟩ : Field))]) rfl rfl rfl (by kernel_rfl) (by kernel_rfl) ?_
  refine r_assign (v := .int .i64 0) rfl rfl rfl ?_
  refine r_assign (v := .int .i64 10) rfl rfl rfl ?_
  refine r_doneN (x_then (c_ret (x_thenR (x_end ?_))))
  rw [show getF l n = ((⟨0, ⟨#[]⟩⟩ : Field), 0, 10) from by unfold getF; rw [if_pos h1]]
  exact end_same (v := .tuple #[fdV (⟨0, ⟨#[]⟩⟩ : Field), .int .i64 0, .int .i64 10]) (by kernel_rfl) rfl rfl (by simp [keptB, rdB]) ⟨(argV_p (by kernel_rfl) rfl), rfl, rfl, trivial⟩
  refine r_bin (v := .bool false) (vx := .int .i64 (n : Nat)) (vy := .int .i64 4) rfl rfl rfl rfl (lss_f (by omega)) ?_
  refine r_doneN (x_then (c_false rfl (c_skip (x_then (c_seq ?_)))))
  refine c_draw (by kernel_rfl) ?_
  refine r_move (v := slv 0 0 n c) rfl rfl rfl ?_
  refine r_idxS (b := 0) (o := 0) (j := 1) (m := n) (c := c) (sz := 1) (i := 1) (k := .i64) rfl rfl rfl rfl rfl (by omega) (by omega) (by omega) ?_
  refine r_load (p := pt 0 1) (v := w8 (l.getD 1 0)) rfl rfl rfl (load_byte rfl rfl rfl (by have := hn; omega)) ?_
  have hw5 := BitVec.isLt (l.getD 1 0)
  refine r_conv (w := w8 (l.getD 1 0)) (v := .int .i64 ((((l.getD 1 0).toNat) : Nat) : Int)) rfl rfl rfl (convI rfl rfl (by have := (l.getD 1 0).isLt; omega) (by have := (l.getD 1 0).isLt; omega)) ?_
  refine r_bin (v := .int .i64 (65536 * ((((l.getD 1 0).toNat) : Nat) : Int))) (vx := .int .i64 ((((l.getD 1 0).toNat) : Nat) : Int)) (vy := .int .u64 16) rfl rfl rfl rfl (shl_p 16 (by omega) (by omega) (by omega) (by omega) (by omega)) ?_
  refine r_move (v := slv 0 0 n c) rfl rfl rfl ?_
  refine r_idxS (b := 0) (o := 0) (j := 2) (m := n) (c := c) (sz := 1) (i := 2) (k := .i64) rfl rfl rfl rfl rfl (by omega) (by omega) (by omega) ?_
  refine r_load (p := pt 0 2) (v := w8 (l.getD 2 0)) rfl rfl rfl (load_byte rfl rfl rfl (by have := hn; omega)) ?_
  have hw6 := BitVec.isLt (l.getD 2 0)
  refine r_conv (w := w8 (l.getD 2 0)) (v := .int .i64 ((((l.getD 2 0).toNat) : Nat) : Int)) rfl rfl rfl (convI rfl rfl (by have := (l.getD 2 0).isLt; omega) (by have := (l.getD 2 0).isLt; omega)) ?_
  refine r_bin (v := .int .i64 (256 * ((((l.getD 2 0).toNat) : Nat) : Int))) (vx := .int .i64 ((((l.getD 2 0).toNat) : Nat) : Int)) (vy := .int .u64 8) rfl rfl rfl rfl (shl_p 8 (by omega) (by omega) (by omega) (by omega) (by omega)) ?_
  refine r_bin (v := .int .i64 (65536 * ((((l.getD 1 0).toNat) : Nat) : Int) + 256 * ((((l.getD 2 0).toNat) : Nat) : Int))) (vx := .int .i64 (65536 * ((((l.getD 1 0).toNat) : Nat) : Int))) (vy := .int .i64 (256 * ((((l.getD 2 0).toNat) : Nat) : Int))) rfl rfl rfl rfl (or_p 16 ((l.getD 1 0).toNat) (256 * ((l.getD 2 0).toNat)) (by omega) (by omega) (by omega) (by omega) (by omega)) ?_
  refine r_move (v := slv 0 0 n c) rfl rfl rfl ?_
  refine r_idxS (b := 0) (o := 0) (j := 3) (m := n) (c := c) (sz := 1) (i := 3) (k := .i64) rfl rfl rfl rfl rfl (by omega) (by omega) (by omega) ?_
  refine r_load (p := pt 0 3) (v := w8 (l.getD 3 0)) rfl rfl rfl (load_byte rfl rfl rfl (by have := hn; omega)) ?_
  have hw7 := BitVec.isLt (l.getD 3 0)
  refine r_conv (w := w8 (l.getD 3 0)) (v := .int .i64 ((((l.getD 3 0).toNat) : Nat) : Int)) rfl rfl rfl (convI rfl rfl (by have := (l.getD 3 0).isLt; omega) (by have := (l.getD 3 0).isLt; omega)) ?_
  refine r_bin (v := .int .i64 (65536 * ((((l.getD 1 0).toNat) : Nat) : Int) + 256 * ((((l.getD 2 0).toNat) : Nat) : Int) + ((((l.getD 3 0).toNat) : Nat) : Int))) (vx := .int .i64 (65536 * ((((l.getD 1 0).toNat) : Nat) : Int) + 256 * ((((l.getD 2 0).toNat) : Nat) : Int))) (vy := .int .i64 ((((l.getD 3 0).toNat) : Nat) : Int)) rfl rfl rfl rfl (or_p 8 (256 * ((l.getD 1 0).toNat) + ((l.getD 2 0).toNat)) ((l.getD 3 0).toNat) (by omega) (by omega) (by omega) (by omega) (by omega)) ?_
  refine r_assign (v := .int .i64 (65536 * ((((l.getD 1 0).toNat) : Nat) : Int) + 256 * ((((l.getD 2 0).toNat) : Nat) : Int) + ((((l.getD 3 0).toNat) : Nat) : Int))) rfl rfl rfl ?_
  refine r_doneD (by kernel_rfl) ?_
  refine x_then (c_seq (c_block (c_seq (c_reg ?_))))
  refine r_move (v := slv 0 0 n c) rfl rfl rfl ?_
  refine r_idxS (b := 0) (o := 0) (j := 0) (m := n) (c := c) (sz := 1) (i := 0) (k := .i64) rfl rfl rfl rfl rfl (by omega) (by omega) (by omega) ?_
  refine r_load (p := pt 0 0) (v := w8 (l.getD 0 0)) rfl rfl rfl (load_byte rfl rfl rfl (by have := hn; omega)) ?_
  rcases Bool.eq_false_or_eq_true ((l.getD 0 0) == 0#8) with h2 | h2
  refine r_bin (v := .bool true) (vx := w8 (l.getD 0 0)) (vy := w8 (0#8)) rfl rfl rfl rfl (Eq.trans eqlW (by rw [h2] <;> rfl)) ?_
  refine r_move (v := .bool true) rfl rfl rfl ?_
  refine r_skip rfl rfl (r_skip rfl rfl ?_)
  refine r_pick (v := .bool true) rfl rfl rfl ?_
  refine r_assign (v := .bool true) rfl rfl rfl ?_
  refine r_doneN (x_then (c_true rfl (c_seq (c_reg ?_))))
  refine r_build (vs := []) (v := fdV (⟨0, ⟨#[]⟩⟩ : Field)) rfl rfl rfl (by kernel_rfl) ?_
  refine r_store (p := pt 1 0) (v := fdV (⟨0, ⟨#[]⟩⟩ : Field)) (b := 1) (blk := bxB 2 (fdC (⟨0, ⟨#[]⟩⟩ : Field))) (H' := [rdB l, bxB 2 (fdC (⟨0, ⟨#[]⟩⟩ : Field))]) rfl rfl rfl (by kernel_rfl) (by kernel_rfl) ?_
  refine r_assign (v := .int .i64 0) rfl rfl rfl ?_
  refine r_assign (v := .int .i64 11) rfl rfl rfl ?_
  refine r_doneN (x_then (c_ret (x_blockR (x_thenR (x_end ?_)))))
  rw [show getF l n = ((⟨0, ⟨#[]⟩⟩ : Field), 0, 11) from by unfold getF; rw [if_neg h1, if_pos h2]]
  exact end_same (v := .tuple #[fdV (⟨0, ⟨#[]⟩⟩ : Field), .int .i64 0, .int .i64 11]) (by kernel_rfl) rfl rfl (by simp [keptB, rdB]) ⟨(argV_p (by kernel_rfl) rfl), rfl, rfl, trivial⟩
  refine r_bin (v := .bool false) (vx := w8 (l.getD 0 0)) (vy := w8 (0#8)) rfl rfl rfl rfl (Eq.trans eqlW (by rw [h2] <;> rfl)) ?_
  refine r_move (v := .bool false) rfl rfl rfl ?_
  refine r_move (v := .int .i64 (65536 * ((((l.getD 1 0).toNat) : Nat) : Int) + 256 * ((((l.getD 2 0).toNat) : Nat) : Int) + ((((l.getD 3 0).toNat) : Nat) : Int))) rfl rfl rfl ?_
  by_cases h3 : 65536 < 65536 * ((((l.getD 1 0).toNat) : Nat) : Int) + 256 * ((((l.getD 2 0).toNat) : Nat) : Int) + ((((l.getD 3 0).toNat) : Nat) : Int)
  refine r_bin (v := .bool true) (vx := .int .i64 (65536 * ((((l.getD 1 0).toNat) : Nat) : Int) + 256 * ((((l.getD 2 0).toNat) : Nat) : Int) + ((((l.getD 3 0).toNat) : Nat) : Int))) (vy := .int .i64 65536) rfl rfl rfl rfl (gtr_t (by omega)) ?_
  refine r_pick (v := .bool true) rfl rfl rfl ?_
  refine r_assign (v := .bool true) rfl rfl rfl ?_
  refine r_doneN (x_then (c_true rfl (c_seq (c_reg ?_))))
  refine r_build (vs := []) (v := fdV (⟨0, ⟨#[]⟩⟩ : Field)) rfl rfl rfl (by kernel_rfl) ?_
  refine r_store (p := pt 1 0) (v := fdV (⟨0, ⟨#[]⟩⟩ : Field)) (b := 1) (blk := bxB 2 (fdC (⟨0, ⟨#[]⟩⟩ : Field))) (H' := [rdB l, bxB 2 (fdC (⟨0, ⟨#[]⟩⟩ : Field))]) rfl rfl rfl (by kernel_rfl) (by kernel_rfl) ?_
  refine r_assign (v := .int .i64 0) rfl rfl rfl ?_
  refine r_assign (v := .int .i64 11) rfl rfl rfl ?_
  refine r_doneN (x_then (c_ret (x_blockR (x_thenR (x_end ?_)))))
  rw [show getF l n = ((⟨0, ⟨#[]⟩⟩ : Field), 0, 11) from by unfold getF; rw [if_neg h1, if_neg (by rw [h2]; decide), if_pos h3]]
  exact end_same (v := .tuple #[fdV (⟨0, ⟨#[]⟩⟩ : Field), .int .i64 0, .int .i64 11]) (by kernel_rfl) rfl rfl (by simp [keptB, rdB]) ⟨(argV_p (by kernel_rfl) rfl), rfl, rfl, trivial⟩
  refine r_bin (v := .bool false) (vx := .int .i64 (65536 * ((((l.getD 1 0).toNat) : Nat) : Int) + 256 * ((((l.getD 2 0).toNat) : Nat) : Int) + ((((l.getD 3 0).toNat) : Nat) : Int))) (vy := .int .i64 65536) rfl rfl rfl rfl (gtr_f (by omega)) ?_
  refine r_pick (v := .bool false) rfl rfl rfl ?_
  refine r_assign (v := .bool false) rfl rfl rfl ?_
  refine r_doneN (x_then (c_false rfl (c_seq (c_reg ?_))))
  refine r_move (v := slv 0 0 n c) rfl rfl rfl ?_
  refine r_len (p := slv 0 0 n c) (v := .int .i64 (n : Nat)) rfl rfl rfl rfl ?_
  refine r_bin (v := .int .i64 ((n : Nat) - 4)) (vx := .int .i64 (n : Nat)) (vy := .int .i64 4) rfl rfl rfl rfl (bin_sub (by omega) (by omega) (by omega)) ?_
  refine r_move (v := .int .i64 (65536 * ((((l.getD 1 0).toNat) : Nat) : Int) + 256 * ((((l.getD 2 0).toNat) : Nat) : Int) + ((((l.getD 3 0).toNat) : Nat) : Int))) rfl rfl rfl ?_
  by_cases h4 : (n : Nat) - 4 < 65536 * ((((l.getD 1 0).toNat) : Nat) : Int) + 256 * ((((l.getD 2 0).toNat) : Nat) : Int) + ((((l.getD 3 0).toNat) : Nat) : Int)
  refine r_bin (v := .bool true) (vx := .int .i64 ((n : Nat) - 4)) (vy := .int .i64 (65536 * ((((l.getD 1 0).toNat) : Nat) : Int) + 256 * ((((l.getD 2 0).toNat) : Nat) : Int) + ((((l.getD 3 0).toNat) : Nat) : Int))) rfl rfl rfl rfl (lss_t (by omega)) ?_
  refine r_assign (v := .bool true) rfl rfl rfl ?_
  refine r_doneN (x_then (c_true rfl (c_seq (c_reg ?_))))
  refine r_build (vs := []) (v := fdV (⟨0, ⟨#[]⟩⟩ : Field)) rfl rfl rfl (by kernel_rfl) ?_
  refine r_store (p := pt 1 0) (v := fdV (⟨0, ⟨#[]⟩⟩ : Field)) (b := 1) (blk := bxB 2 (fdC (⟨0, ⟨#[]⟩⟩ : Field))) (H' := [rdB l, bxB 2 (fdC (⟨0, ⟨#[]⟩⟩ : Field))]) rfl rfl rfl (by kernel_rfl) (by kernel_rfl) ?_
  refine r_assign (v := .int .i64 0) rfl rfl rfl ?_
  refine r_assign (v := .int .i64 10) rfl rfl rfl ?_
  refine r_doneN (x_then (c_ret (x_blockR (x_thenR (x_end ?_)))))
  rw [show getF l n = ((⟨0, ⟨#[]⟩⟩ : Field), 0, 10) from by unfold getF; rw [if_neg h1, if_neg (by rw [h2]; decide), if_neg h3, if_pos h4]]
  exact end_same (v := .tuple #[fdV (⟨0, ⟨#[]⟩⟩ : Field), .int .i64 0, .int .i64 10]) (by kernel_rfl) rfl rfl (by simp [keptB, rdB]) ⟨(argV_p (by kernel_rfl) rfl), rfl, rfl, trivial⟩
  refine r_bin (v := .bool false) (vx := .int .i64 ((n : Nat) - 4)) (vy := .int .i64 (65536 * ((((l.getD 1 0).toNat) : Nat) : Int) + 256 * ((((l.getD 2 0).toNat) : Nat) : Int) + ((((l.getD 3 0).toNat) : Nat) : Int))) rfl rfl rfl rfl (lss_f (by omega)) ?_
  refine r_assign (v := .bool false) rfl rfl rfl ?_
  refine r_doneN (x_then (c_false rfl (c_skip (x_blockN (x_then (c_seq ?_))))))
  refine c_draw (by kernel_rfl) ?_
  refine r_move (v := slv 0 0 n c) rfl rfl rfl ?_
  refine r_idxS (b := 0) (o := 0) (j := 0) (m := n) (c := c) (sz := 1) (i := 0) (k := .i64) rfl rfl rfl rfl rfl (by omega) (by omega) (by omega) ?_
  refine r_load (p := pt 0 0) (v := w8 (l.getD 0 0)) rfl rfl rfl (load_byte rfl rfl rfl (by have := hn; omega)) ?_
  have hw8 := BitVec.isLt (l.getD 0 0)
  refine r_conv (w := w8 (l.getD 0 0)) (v := .int .i64 ((((l.getD 0 0).toNat) : Nat) : Int)) rfl rfl rfl (convI rfl rfl (by have := (l.getD 0 0).isLt; omega) (by have := (l.getD 0 0).isLt; omega)) ?_
  refine r_move (v := slv 0 0 n c) rfl rfl rfl ?_
  refine r_move (v := .int .i64 (65536 * ((((l.getD 1 0).toNat) : Nat) : Int) + 256 * ((((l.getD 2 0).toNat) : Nat) : Int) + ((((l.getD 3 0).toNat) : Nat) : Int))) rfl rfl rfl ?_
  refine r_bin (v := .int .i64 (65536 * ((((l.getD 1 0).toNat) : Nat) : Int) + 256 * ((((l.getD 2 0).toNat) : Nat) : Int) + ((((l.getD 3 0).toNat) : Nat) : Int) + 4)) (vx := .int .i64 4) (vy := .int .i64 (65536 * ((((l.getD 1 0).toNat) : Nat) : Int) + 256 * ((((l.getD 2 0).toNat) : Nat) : Int) + ((((l.getD 3 0).toNat) : Nat) : Int))) rfl rfl rfl rfl (bin_add (by omega) (by omega) (by omega)) ?_
  refine r_slice (p := slv 0 0 n c) (vl := some (.int .i64 4)) (vh := some (.int .i64 (65536 * ((((l.getD 1 0).toNat) : Nat) : Int) + 256 * ((((l.getD 2 0).toNat) : Nat) : Int) + ((((l.getD 3 0).toNat) : Nat) : Int) + 4))) (v := slv 0 4 (65536 * ((l.getD 1 0).toNat) + 256 * ((l.getD 2 0).toNat) + ((l.getD 3 0).toNat)) (c - 4)) rfl rfl rfl rfl rfl (slice_both (sz := 1) (l := 4) (h := 65536 * ((l.getD 1 0).toNat) + 256 * ((l.getD 2 0).toNat) + ((l.getD 3 0).toNat) + 4) rfl rfl rfl (by omega) (by omega) (by omega) (by omega) rfl (by omega) (by omega) (by omega)) ?_
  refine r_str (p := slv 0 4 (65536 * ((l.getD 1 0).toNat) + 256 * ((l.getD 2 0).toNat) + ((l.getD 3 0).toNat)) (c - 4)) (v := .string (strOf ((l.drop 4).take (65536 * ((l.getD 1 0).toNat) + 256 * ((l.getD 2 0).toNat) + ((l.getD 3 0).toNat))))) rfl rfl rfl (str_row rfl rfl rfl rfl rfl (by have := hn; omega) rfl) ?_
  refine r_build (vs := [(0, .int .i64 ((((l.getD 0 0).toNat) : Nat) : Int)), (1, .string (strOf ((l.drop 4).take (65536 * ((l.getD 1 0).toNat) + 256 * ((l.getD 2 0).toNat) + ((l.getD 3 0).toNat)))))]) (v := fdV (⟨((((l.getD 0 0).toNat) : Nat) : Int), (strOf ((l.drop 4).take (65536 * ((l.getD 1 0).toNat) + 256 * ((l.getD 2 0).toNat) + ((l.getD 3 0).toNat))))⟩ : Field)) rfl rfl rfl (by kernel_rfl) ?_
  refine r_move (v := .int .i64 (65536 * ((((l.getD 1 0).toNat) : Nat) : Int) + 256 * ((((l.getD 2 0).toNat) : Nat) : Int) + ((((l.getD 3 0).toNat) : Nat) : Int))) rfl rfl rfl ?_
  refine r_bin (v := .int .i64 (65536 * ((((l.getD 1 0).toNat) : Nat) : Int) + 256 * ((((l.getD 2 0).toNat) : Nat) : Int) + ((((l.getD 3 0).toNat) : Nat) : Int) + 4)) (vx := .int .i64 4) (vy := .int .i64 (65536 * ((((l.getD 1 0).toNat) : Nat) : Int) + 256 * ((((l.getD 2 0).toNat) : Nat) : Int) + ((((l.getD 3 0).toNat) : Nat) : Int))) rfl rfl rfl rfl (bin_add (by omega) (by omega) (by omega)) ?_
  refine r_store (p := pt 1 0) (v := fdV (⟨((((l.getD 0 0).toNat) : Nat) : Int), (strOf ((l.drop 4).take (65536 * ((l.getD 1 0).toNat) + 256 * ((l.getD 2 0).toNat) + ((l.getD 3 0).toNat))))⟩ : Field)) (b := 1) (blk := bxB 2 (fdC (⟨((((l.getD 0 0).toNat) : Nat) : Int), (strOf ((l.drop 4).take (65536 * ((l.getD 1 0).toNat) + 256 * ((l.getD 2 0).toNat) + ((l.getD 3 0).toNat))))⟩ : Field))) (H' := [rdB l, bxB 2 (fdC (⟨((((l.getD 0 0).toNat) : Nat) : Int), (strOf ((l.drop 4).take (65536 * ((l.getD 1 0).toNat) + 256 * ((l.getD 2 0).toNat) + ((l.getD 3 0).toNat))))⟩ : Field))]) rfl rfl rfl (by kernel_rfl) (by kernel_rfl) ?_
  refine r_assign (v := .int .i64 (65536 * ((((l.getD 1 0).toNat) : Nat) : Int) + 256 * ((((l.getD 2 0).toNat) : Nat) : Int) + ((((l.getD 3 0).toNat) : Nat) : Int) + 4)) rfl rfl rfl ?_
  refine r_assign (v := .int .i64 0) rfl rfl rfl ?_
  refine r_doneD (by kernel_rfl) ?_
  refine x_then (c_ret (x_end ?_))
  rw [show getF l n = ((⟨((((l.getD 0 0).toNat) : Nat) : Int), (strOf ((l.drop 4).take (65536 * ((l.getD 1 0).toNat) + 256 * ((l.getD 2 0).toNat) + ((l.getD 3 0).toNat))))⟩ : Field), 65536 * ((((l.getD 1 0).toNat) : Nat) : Int) + 256 * ((((l.getD 2 0).toNat) : Nat) : Int) + ((((l.getD 3 0).toNat) : Nat) : Int) + 4, 0) from by unfold getF; rw [if_neg h1, if_neg (by rw [h2]; decide), if_neg h3, if_neg h4]]
  exact end_same (v := .tuple #[fdV (⟨((((l.getD 0 0).toNat) : Nat) : Int), (strOf ((l.drop 4).take (65536 * ((l.getD 1 0).toNat) + 256 * ((l.getD 2 0).toNat) + ((l.getD 3 0).toNat))))⟩ : Field), .int .i64 (65536 * ((((l.getD 1 0).toNat) : Nat) : Int) + 256 * ((((l.getD 2 0).toNat) : Nat) : Int) + ((((l.getD 3 0).toNat) : Nat) : Int) + 4), .int .i64 0]) (by kernel_rfl) rfl rfl (by simp [keptB, rdB]) ⟨(argV_p (by kernel_rfl) rfl), rfl, rfl, trivial⟩
end Go.Flat
