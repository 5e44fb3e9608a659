/- Walks and plain laws: what each theorem says, within the bounds that it names. -/
import Derived.Test.YthfklplpfbmkgaaDoorH1
set_option linter.unusedVariables false
set_option linter.unusedSimpArgs false
set_option maxRecDepth 20000
namespace Go.Flat
open Go.Proofs
variable {G : Glob}
def fldB (f : Field) : Bs := [BitVec.ofInt 8 f.tag, BitVec.ofInt 8 (f.data.size / 65536 : Nat), BitVec.ofInt 8 (f.data.size / 256 : Nat), BitVec.ofInt 8 (f.data.size : Nat)] ++ bl f.data
def mayE (f : Field) (last : Int) : Int :=
  if 255 < f.tag then 1 else
  if f.tag ≤ last then 1 else
  if 65536 < (f.data.size : Nat) then 2 else
  0
theorem may_ok (f : Field) (last : Int) : CallL Tryd.prog G 63 [fdV f, .int .i64 last] [] (.int .i64 (mayE f last)) [] := by
  refine walk (fn := Tryd.f63) (nt := 21) rfl rfl rfl rfl ?_
  refine c_hole 1 (H' := [hole]) rfl ?_
  refine c_seq (c_reg ?_)
  refine r_box (v := fdV f) (b := bxB 2 (fdC f)) (nid := 0) (H' := [bxB 2 (fdC f)]) rfl rfl rfl (by kernel_rfl) (by kernel_rfl) ?_
  refine r_assign (v := .int .i64 0) rfl rfl rfl ?_
  refine r_doneN (x_then (c_seq (c_reg ?_)))
  refine r_assign (v := .int .i64 0) rfl rfl rfl ?_
  refine r_doneN (x_then (c_seq (c_block (c_seq (c_block (c_seq (c_block (c_block (c_seq (c_seq (c_seq (c_reg ?_))))))))))))
  refine r_fieldAddr (b := 0) (o := 0) (n := 0) (o' := 0) rfl rfl rfl rfl rfl ?_
  refine r_load (p := pt 0 0) (v := .int .i64 f.tag) rfl rfl rfl (by kernel_rfl) ?_
  by_cases h1 : 255 < f.tag
  refine r_bin (v := .bool true) (vx := .int .i64 f.tag) (vy := .int .i64 255) rfl rfl rfl rfl (gtr_t (by omega)) ?_
  refine r_assign (v := .bool true) rfl rfl rfl ?_
  refine r_doneN (x_then (c_true rfl (c_exit (x_thenE (x_thenE (x_block rfl (x_blockN (x_then (c_seq (c_reg ?_))))))))))
  refine r_assign (v := .int .i64 1) rfl rfl rfl ?_
  refine r_doneN (x_then (c_exit (x_out rfl (x_thenE (x_block rfl (x_then (c_seq (c_reg ?_))))))))
  refine r_move (v := .int .i64 1) rfl rfl rfl ?_
  refine r_assign (v := .int .i64 1) rfl rfl rfl ?_
  refine r_doneN (x_then (c_ret (x_end ?_)))
  rw [show mayE f last = 1 from by unfold mayE; rw [if_pos h1]]
  exact end_same (v := .int .i64 1) rfl rfl rfl (by kernel_rfl) rfl
  refine r_bin (v := .bool false) (vx := .int .i64 f.tag) (vy := .int .i64 255) rfl rfl rfl rfl (gtr_f (by omega)) ?_
  refine r_assign (v := .bool false) rfl rfl rfl ?_
  refine r_doneN (x_then (c_false rfl (c_skip (x_then (c_seq (c_seq (c_reg ?_)))))))
  refine r_fieldAddr (b := 0) (o := 0) (n := 0) (o' := 0) rfl rfl rfl rfl rfl ?_
  refine r_load (p := pt 0 0) (v := .int .i64 f.tag) rfl rfl rfl (by kernel_rfl) ?_
  refine r_move (v := .int .i64 last) rfl rfl rfl ?_
  by_cases h2 : f.tag ≤ last
  refine r_bin (v := .bool true) (vx := .int .i64 f.tag) (vy := .int .i64 last) rfl rfl rfl rfl (leq_t (by omega)) ?_
  refine r_assign (v := .bool true) rfl rfl rfl ?_
  refine r_doneN (x_then (c_true rfl (c_exit (x_thenE (x_thenE (x_out rfl (x_block rfl (x_then (c_seq (c_reg ?_))))))))))
  refine r_assign (v := .int .i64 1) rfl rfl rfl ?_
  refine r_doneN (x_then (c_exit (x_out rfl (x_thenE (x_block rfl (x_then (c_seq (c_reg ?_))))))))
  refine r_move (v := .int .i64 1) rfl rfl rfl ?_
  refine r_assign (v := .int .i64 1) rfl rfl rfl ?_
  refine r_doneN (x_then (c_ret (x_end ?_)))
  rw [show mayE f last = 1 from by unfold mayE; rw [if_neg h1, if_pos h2]]
  exact end_same (v := .int .i64 1) rfl rfl rfl (by kernel_rfl) rfl
  refine r_bin (v := .bool false) (vx := .int .i64 f.tag) (vy := .int .i64 last) rfl rfl rfl rfl (leq_f (by omega)) ?_
  refine r_assign (v := .bool false) rfl rfl rfl ?_
  refine r_doneN (x_then (c_false rfl (c_skip (x_then (c_seq (c_reg ?_))))))
  refine r_fieldAddr (b := 0) (o := 0) (n := 1) (o' := 1) rfl rfl rfl rfl rfl ?_
  refine r_load (p := pt 0 1) (v := .string f.data) rfl rfl rfl (by kernel_rfl) ?_
  refine r_len (p := .string f.data) (v := .int .i64 (f.data.size : Nat)) rfl rfl rfl rfl ?_
  by_cases h3 : 65536 < (f.data.size : Nat)
  refine r_bin (v := .bool true) (vx := .int .i64 (f.data.size : Nat)) (vy := .int .i64 65536) rfl rfl rfl rfl (gtr_t (by omega)) ?_
  refine r_assign (v := .bool true) rfl rfl rfl ?_
  refine r_doneN (x_then (c_true rfl (c_exit (x_thenE (x_out rfl (x_out rfl (x_thenE (x_block rfl (x_then (c_seq (c_reg ?_)))))))))))
  refine r_assign (v := .int .i64 2) rfl rfl rfl ?_
  refine r_doneN (x_then (c_exit (x_block rfl (x_then (c_seq (c_reg ?_))))))
  refine r_move (v := .int .i64 2) rfl rfl rfl ?_
  refine r_assign (v := .int .i64 2) rfl rfl rfl ?_
  refine r_doneN (x_then (c_ret (x_end ?_)))
  rw [show mayE f last = 2 from by unfold mayE; rw [if_neg h1, if_neg h2, if_pos h3]]
  exact end_same (v := .int .i64 2) rfl rfl rfl (by kernel_rfl) rfl
  refine r_bin (v := .bool false) (vx := .int .i64 (f.data.size : Nat)) (vy := .int .i64 65536) rfl rfl rfl rfl (gtr_f (by omega)) ?_
  refine r_assign (v := .bool false) rfl rfl rfl ?_
  refine r_doneN (x_then (c_false rfl (c_skip (x_then (c_exit (x_out rfl (x_out rfl (x_thenE (x_out rfl (x_thenE (x_block rfl (x_then (c_seq (c_reg ?_))))))))))))))
  refine r_move (v := .int .i64 0) rfl rfl rfl ?_
  refine r_assign (v := .int .i64 0) rfl rfl rfl ?_
  refine r_doneN (x_then (c_ret (x_end ?_)))
  rw [show mayE f last = 0 from by unfold mayE; rw [if_neg h1, if_neg h2, if_neg h3]]
  exact end_same (v := .int .i64 0) rfl rfl rfl (by kernel_rfl) rfl
theorem put_ok (l : Bs) (f : Field) (n c : Nat) (hn : l.length = n) (hc : n ≤ c) (hf : f.data.size ≤ 65536) (hb : n ≤ 1099511627776) : CallL Tryd.prog G 64 [slv 0 0 n c, fdV f] [rowB l] (slv 0 0 (n + f.data.size + 4) (n + f.data.size + 4)) [rowB (l ++ fldB f)] := by
  refine walk (fn := Tryd.f64) (nt := 26) rfl rfl rfl rfl ?_
  refine c_hole 2 (H' := [rowB l, hole, hole]) rfl ?_
  refine c_seq (c_reg ?_)
  refine r_box (v := fdV f) (b := bxB 2 (fdC f)) (nid := 1) (H' := [rowB l, bxB 2 (fdC f), hole]) rfl rfl rfl (by kernel_rfl) (by kernel_rfl) ?_
  refine r_assign (v := .slice none 0 0) rfl rfl rfl ?_
  refine r_doneN (x_then (c_seq (c_reg ?_)))
  refine r_fieldAddr (b := 1) (o := 0) (n := 1) (o' := 1) rfl rfl rfl rfl rfl ?_
  refine r_load (p := pt 1 1) (v := .string f.data) rfl rfl rfl (by kernel_rfl) ?_
  refine r_len (p := .string f.data) (v := .int .i64 (f.data.size : Nat)) rfl rfl rfl rfl ?_
  refine r_assign (v := .int .i64 (f.data.size : Nat)) rfl rfl rfl ?_
  refine r_doneN (x_then (c_seq ?_))
  refine c_drawK (by kernel_rfl) ?_
  refine r_move (v := slv 0 0 n c) rfl rfl rfl ?_
  refine r_fieldAddr (b := 1) (o := 0) (n := 0) (o' := 0) rfl rfl rfl rfl rfl ?_
  refine r_load (p := pt 1 0) (v := .int .i64 f.tag) rfl rfl rfl (by kernel_rfl) ?_
  refine r_conv (w := .int .i64 f.tag) (v := w8 (BitVec.ofInt 8 f.tag)) rfl rfl rfl (conv8 rfl rfl rfl) ?_
  refine r_move (v := .int .i64 (f.data.size : Nat)) rfl rfl rfl ?_
  refine r_bin (v := .int .i64 (((f.data.size / 65536) : Nat) : Int)) (vx := .int .i64 (f.data.size : Nat)) (vy := .int .u64 16) rfl rfl rfl rfl (shr_p 16 (by omega) (by omega) (by omega) (by omega)) ?_
  refine r_conv (w := .int .i64 (((f.data.size / 65536) : Nat) : Int)) (v := w8 (BitVec.ofInt 8 (((f.data.size / 65536) : Nat) : Int))) rfl rfl rfl (conv8 rfl rfl rfl) ?_
  refine r_move (v := .int .i64 (f.data.size : Nat)) rfl rfl rfl ?_
  refine r_bin (v := .int .i64 (((f.data.size / 256) : Nat) : Int)) (vx := .int .i64 (f.data.size : Nat)) (vy := .int .u64 8) rfl rfl rfl rfl (shr_p 8 (by omega) (by omega) (by omega) (by omega)) ?_
  refine r_conv (w := .int .i64 (((f.data.size / 256) : Nat) : Int)) (v := w8 (BitVec.ofInt 8 (((f.data.size / 256) : Nat) : Int))) rfl rfl rfl (conv8 rfl rfl rfl) ?_
  refine r_move (v := .int .i64 (f.data.size : Nat)) rfl rfl rfl ?_
  refine r_conv (w := .int .i64 (f.data.size : Nat)) (v := w8 (BitVec.ofInt 8 (f.data.size : Nat))) rfl rfl rfl (conv8 rfl rfl rfl) ?_
  refine r_lit (vs := [(0, w8 (BitVec.ofInt 8 f.tag)), (1, w8 (BitVec.ofInt 8 (((f.data.size / 65536) : Nat) : Int))), (2, w8 (BitVec.ofInt 8 (((f.data.size / 256) : Nat) : Int))), (3, w8 (BitVec.ofInt 8 (f.data.size : Nat)))]) (v := slv 2 0 4 4) (blk := rowB [(BitVec.ofInt 8 f.tag), (BitVec.ofInt 8 (((f.data.size / 65536) : Nat) : Int)), (BitVec.ofInt 8 (((f.data.size / 256) : Nat) : Int)), (BitVec.ofInt 8 (f.data.size : Nat))]) (nid := 2) (H' := [rowB l, bxB 2 (fdC f), rowB [(BitVec.ofInt 8 f.tag), (BitVec.ofInt 8 (((f.data.size / 65536) : Nat) : Int)), (BitVec.ofInt 8 (((f.data.size / 256) : Nat) : Int)), (BitVec.ofInt 8 (f.data.size : Nat))]]) rfl rfl rfl (by kernel_rfl) (by kernel_rfl) ?_
  have hl3 : (l ++ [(BitVec.ofInt 8 f.tag), (BitVec.ofInt 8 (((f.data.size / 65536) : Nat) : Int)), (BitVec.ofInt 8 (((f.data.size / 256) : Nat) : Int)), (BitVec.ofInt 8 (f.data.size : Nat))]).length = n + 4 := by have := hn; have := (rfl : _ = 4); first | (rw [List.length_append]; omega) | (simp; omega) | simp
  refine r_append (p := slv 0 0 n c) (q := slv 2 0 4 4) (v := slv 0 0 (n + 4) (n + 4)) (b := 0) (blk := rowB (l ++ [(BitVec.ofInt 8 f.tag), (BitVec.ofInt 8 (((f.data.size / 65536) : Nat) : Int)), (BitVec.ofInt 8 (((f.data.size / 256) : Nat) : Int)), (BitVec.ofInt 8 (f.data.size : Nat))])) (H' := [rowB (l ++ [(BitVec.ofInt 8 f.tag), (BitVec.ofInt 8 (((f.data.size / 65536) : Nat) : Int)), (BitVec.ofInt 8 (((f.data.size / 256) : Nat) : Int)), (BitVec.ofInt 8 (f.data.size : Nat))]), bxB 2 (fdC f), rowB [(BitVec.ofInt 8 f.tag), (BitVec.ofInt 8 (((f.data.size / 65536) : Nat) : Int)), (BitVec.ofInt 8 (((f.data.size / 256) : Nat) : Int)), (BitVec.ofInt 8 (f.data.size : Nat))]]) rfl rfl rfl (.inl ⟨_, rfl⟩) rfl rfl (appD_row (by_ := 1) (n' := n + 4) rfl rfl (srcA_byW rfl rfl (by have := (rfl : _ = 4); omega)) rfl rfl (by have := hn; omega) (by omega) (by decide) (by omega)) rfl (by kernel_rfl) ?_
  refine r_fieldAddr (b := 1) (o := 0) (n := 1) (o' := 1) rfl rfl rfl rfl rfl ?_
  refine r_load (p := pt 1 1) (v := .string f.data) rfl rfl rfl (by kernel_rfl) ?_
  have hl4 : ((l ++ [(BitVec.ofInt 8 f.tag), (BitVec.ofInt 8 (((f.data.size / 65536) : Nat) : Int)), (BitVec.ofInt 8 (((f.data.size / 256) : Nat) : Int)), (BitVec.ofInt 8 (f.data.size : Nat))]) ++ (bl f.data)).length = n + f.data.size + 4 := by have := hl3; have := (bl_len f.data); first | (rw [List.length_append]; omega) | (simp; omega) | simp
  refine r_append (p := slv 0 0 (n + 4) (n + 4)) (q := .string f.data) (v := slv 0 0 (n + f.data.size + 4) (n + f.data.size + 4)) (b := 0) (blk := rowB ((l ++ [(BitVec.ofInt 8 f.tag), (BitVec.ofInt 8 (((f.data.size / 65536) : Nat) : Int)), (BitVec.ofInt 8 (((f.data.size / 256) : Nat) : Int)), (BitVec.ofInt 8 (f.data.size : Nat))]) ++ (bl f.data))) (H' := [rowB ((l ++ [(BitVec.ofInt 8 f.tag), (BitVec.ofInt 8 (((f.data.size / 65536) : Nat) : Int)), (BitVec.ofInt 8 (((f.data.size / 256) : Nat) : Int)), (BitVec.ofInt 8 (f.data.size : Nat))]) ++ (bl f.data)), bxB 2 (fdC f), rowB [(BitVec.ofInt 8 f.tag), (BitVec.ofInt 8 (((f.data.size / 65536) : Nat) : Int)), (BitVec.ofInt 8 (((f.data.size / 256) : Nat) : Int)), (BitVec.ofInt 8 (f.data.size : Nat))]]) rfl rfl rfl (.inr rfl) rfl rfl (appD_row (by_ := 1) (n' := n + f.data.size + 4) rfl rfl (rfl : srcA _ 1 (.string _) = some (_, bytesV _)) (bytesV_bl _) rfl (by have := hl3; omega) (by omega) (by decide) (by omega)) rfl (by kernel_rfl) ?_
  refine r_assign (v := slv 0 0 (n + f.data.size + 4) (n + f.data.size + 4)) rfl rfl rfl ?_
  refine r_doneK (by kernel_rfl) ?_
  refine x_then (c_ret (x_end ?_))
  rw [show rowB (l ++ fldB f) = rowB ((l ++ [(BitVec.ofInt 8 f.tag), (BitVec.ofInt 8 (((f.data.size / 65536) : Nat) : Int)), (BitVec.ofInt 8 (((f.data.size / 256) : Nat) : Int)), (BitVec.ofInt 8 (f.data.size : Nat))]) ++ (bl f.data)) from congrArg rowB (List.append_assoc _ _ _).symm]
  exact end_same (v := slv 0 0 (n + f.data.size + 4) (n + f.data.size + 4)) rfl rfl rfl (by simp [keptB, rowB]) ⟨rfl, rfl, rfl, by first | omega | exact Nat.le_refl _ | exact Nat.zero_le _ | (dsimp only; omega), by first | omega | exact Nat.le_refl _ | exact Nat.zero_le _ | (dsimp only; omega)⟩
end Go.Flat
