/- Walks and plain laws: what each theorem says, within the bounds that it names. -/
import Derived.Test.YthfklplpfbmkgaaDoorH30
set_option linter.unusedVariables false
set_option linter.unusedSimpArgs false
set_option maxRecDepth 20000
namespace Go.Flat
open Go.Proofs
variable {G : Glob}
theorem pad_len {b : Bs} {n : Nat} (hn : b.length = n) : (b ++ List.replicate 7 195#8).length = n + 7 := by simp [hn]
theorem kept_same {b : Bs} {n : Nat} (hn : b.length = n) : sameT (strOf ((b ++ List.replicate 7 195#8).take n)) (strOf b) = true := by
  rw [List.take_append_of_le_length (by omega), List.take_of_length_le (by omega)]; exact sameT_refl _
theorem kept_same0 {b : Bs} {n : Nat} (hn : b.length = n) : sameT (strOf (((b ++ List.replicate 7 195#8).drop 0).take n)) (strOf b) = true := kept_same hn
theorem kept_at {b : Bs} {n i : Nat} (hn : b.length = n) (h : n ≤ i) (h2 : i < n + 7) : ((b ++ List.replicate 7 195#8).getD i 0 == 195#8) = true := by
  rw [List.getD_eq_getElem?_getD, List.getElem?_append_right (by omega), List.getElem?_replicate, if_pos (by omega)]; rfl
theorem Lent_ok (b : Bs) (n c : Nat) (hn : b.length = n) (hc : n ≤ c) (hb : n ≤ 1099511627776) : CallL Tryd.prog G 18 [slv 0 0 n c] [rdB b] (slv 1 0 n (n + 7)) [rdB b, rowB (b ++ List.replicate 7 195#8)] := by
  refine walk (fn := Tryd.f18) (nt := 19) rfl rfl rfl rfl ?_
  refine c_hole 1 (H' := [rdB b, hole]) rfl ?_
  refine c_seq (c_reg ?_)
  refine r_assign (v := .slice none 0 0) rfl rfl rfl ?_
  refine r_doneN (x_then (c_seq (c_reg ?_)))
  refine r_assign (v := .slice none 0 0) rfl rfl rfl ?_
  refine r_doneN (x_then (c_seq ?_))
  refine c_weak (Weak.nilTmp (i := 3) (b := 1) true 1 rfl (by decide) rfl) ?_
  refine c_reg ?_
  refine r_move (v := slv 1 0 0 0) rfl rfl rfl ?_
  refine r_move (v := slv 0 0 n c) rfl rfl rfl ?_
  have hl3 : ([] ++ b).length = n := by have := hn; first | (rw [List.length_append]; omega) | (simp; omega) | simp
  refine r_append (p := slv 1 0 0 0) (q := slv 0 0 n c) (v := slv 1 0 n n) (b := 1) (blk := rowB ([] ++ b)) (H' := [rdB b, rowB ([] ++ b)]) rfl rfl rfl (.inl ⟨_, rfl⟩) rfl rfl (appD_row (by_ := 1) (n' := n) rfl rfl (srcA_byW rfl rfl (by have := hn; omega)) rfl rfl rfl (by omega) (by decide) (by omega)) rfl (by kernel_rfl) ?_
  refine r_assign (v := slv 1 0 n n) rfl rfl rfl ?_
  refine r_doneN (x_then (c_seq (c_seq (c_reg ?_))))
  refine r_assign (v := .int .i64 0) rfl rfl rfl ?_
  refine r_doneN (x_then (c_block ?_))
  refine c_loopN (fun x : Nat × Nat × Bs => match x with | (i, m, acc) => [slv 0 0 n c, dead, .slice none 0 0, slv 1 0 m m, .int .i64 (i : Nat), dead, dead, dead]) (fun x : Nat × Nat × Bs => match x with | (i, m, acc) => [rdB b, rowB acc]) (fun x : Nat × Nat × Bs => match x with | (i, m, acc) => acc = b ++ List.replicate i 195#8 ∧ acc.length = m ∧ m = n + i ∧ i ≤ 7) (fun x : Nat × Nat × Bs => match x with | (i, m, acc) => 7 - i) (0, n, ([] ++ b)) ⟨by simp, by simp [hn], by omega, by omega⟩ ?_ ?_
  · refine weak_to (n := 2) rfl ?_ (by kernel_rfl) (by kernel_rfl)
    repeat (first | exact trivial | refine ⟨.inl rfl, ?_⟩ | refine ⟨.inr ⟨rfl, rfl⟩, ?_⟩ | refine ⟨.inr ⟨congrArg (Value.int .i64) (by first | omega | (dsimp only; omega)), rfl⟩, ?_⟩)
  rintro ⟨i, m, acc⟩ ⟨hR, ha, hm, hi⟩
  dsimp only at *
  refine c_hole 3 (H' := [rdB b, rowB acc, hole, hole, hole]) rfl ?_
  refine c_seq (c_seq (c_reg ?_))
  refine r_move (v := .int .i64 (i : Nat)) rfl rfl rfl ?_
  by_cases h1 : (i : Nat) < 7
  refine r_bin (v := .bool true) (vx := .int .i64 (i : Nat)) (vy := .int .i64 7) rfl rfl rfl rfl (lss_t (by omega)) ?_
  refine r_doneN (x_then (c_true rfl (c_skip (x_then (c_seq (c_block (c_reg ?_)))))))
  refine r_move (v := slv 1 0 m m) rfl rfl rfl ?_
  refine r_lit (vs := [(0, w8 (195#8))]) (v := slv 2 0 1 1) (blk := rowB [195#8]) (nid := 2) (H' := [rdB b, rowB acc, rowB [195#8], hole, hole]) rfl rfl rfl (by kernel_rfl) (by kernel_rfl) ?_
  have hl4 : (acc ++ [195#8]).length = m + 1 := by have := ha; have := (rfl : _ = 1); first | (rw [List.length_append]; omega) | (simp; omega) | simp
  refine r_append (p := slv 1 0 m m) (q := slv 2 0 1 1) (v := slv 1 0 (m + 1) (m + 1)) (b := 1) (blk := rowB (acc ++ [195#8])) (H' := [rdB b, rowB (acc ++ [195#8]), rowB [195#8], hole, hole]) rfl rfl rfl (.inl ⟨_, rfl⟩) rfl rfl (appD_row (by_ := 1) (n' := m + 1) rfl rfl (srcA_byW rfl rfl (by have : ([195#8]).length = 1 := rfl; omega)) rfl rfl (by have := ha; omega) (by omega) (by decide) (by omega)) rfl (by kernel_rfl) ?_
  refine r_assign (v := slv 1 0 (m + 1) (m + 1)) rfl rfl rfl ?_
  refine r_doneN (x_blockN (x_then (c_reg ?_)))
  refine r_move (v := .int .i64 (i : Nat)) rfl rfl rfl ?_
  refine r_bin (v := .int .i64 ((i : Nat) + 1)) (vx := .int .i64 (i : Nat)) (vy := .int .i64 1) rfl rfl rfl rfl (bin_add (by omega) (by omega) (by omega)) ?_
  refine r_assign (v := .int .i64 ((i : Nat) + 1)) rfl rfl rfl ?_
  refine r_doneN ?_
  refine x_round ⟨((i + 1), (m + 1), (acc ++ [195#8])), ⟨by dsimp only; rw [hR, List.append_assoc, ← List.replicate_succ'], by rw [List.length_append, ha]; rfl, by dsimp only; omega, by dsimp only; omega⟩, by show 7 - (i + 1) < 7 - i; omega, ?_⟩
  refine weak_to (n := 2) rfl ?_ (by kernel_rfl) (by kernel_rfl)
  repeat (first | exact trivial | refine ⟨.inl rfl, ?_⟩ | refine ⟨.inr ⟨rfl, rfl⟩, ?_⟩ | refine ⟨.inr ⟨congrArg (Value.int .i64) (by first | omega | (dsimp only; omega)), rfl⟩, ?_⟩)
  refine r_bin (v := .bool false) (vx := .int .i64 (i : Nat)) (vy := .int .i64 7) rfl rfl rfl rfl (lss_f (by omega)) ?_
  refine r_doneN (x_then (c_false rfl (c_exit (x_thenE (x_leaveE (x_block rfl (x_then (c_seq (c_reg ?_)))))))))
  refine r_move (v := slv 1 0 m m) rfl rfl rfl ?_
  refine r_move (v := slv 0 0 n c) rfl rfl rfl ?_
  refine r_len (p := slv 0 0 n c) (v := .int .i64 (n : Nat)) rfl rfl rfl rfl ?_
  refine r_slice (p := slv 1 0 m m) (vl := none) (vh := some (.int .i64 (n : Nat))) (v := slv 1 0 n m) rfl rfl rfl rfl rfl (slice_hi (h := n) rfl rfl (by omega) (by omega) rfl) ?_
  refine r_assign (v := slv 1 0 n m) rfl rfl rfl ?_
  refine r_doneN (x_then (c_ret (x_end ?_)))
  obtain rfl : i = 7 := by omega
  rw [← hR, show n + 7 = m by omega]
  exact end_map [0, 1] (v := slv 1 0 n m) rfl (by kernel_rfl) rfl rfl (by decide) (by simp [keptB, rdB, rowB]) ⟨rfl, rfl, rfl, by first | omega | exact Nat.le_refl _ | exact Nat.zero_le _ | (dsimp only; omega), by first | omega | exact Nat.le_refl _ | exact Nat.zero_le _ | (dsimp only; omega)⟩
theorem Kept_ok (b : Bs) (n c : Nat) (hn : b.length = n) (hc : n ≤ c) (hb : n ≤ 1099511627776) : CallL Tryd.prog G 22 [slv 0 0 n (n + 7), slv 1 0 n c] [rdB (b ++ List.replicate 7 195#8), rdB b] (.bool true) [rdB (b ++ List.replicate 7 195#8), rdB b] := by
  refine walk (fn := Tryd.f22) (nt := 30) rfl rfl rfl rfl ?_
  refine c_seq (c_reg ?_)
  refine r_assign (v := .bool false) rfl rfl rfl ?_
  refine r_doneN (x_then (c_seq (c_seq (c_reg ?_))))
  refine r_move (v := slv 0 0 n (n + 7)) rfl rfl rfl ?_
  refine r_str (p := slv 0 0 n (n + 7)) (v := .string (strOf ((((b ++ List.replicate 7 195#8)).drop 0).take n))) rfl rfl rfl (str_row rfl rfl rfl rfl rfl (by have := (pad_len hn); omega) rfl) ?_
  refine r_move (v := slv 1 0 n c) rfl rfl rfl ?_
  refine r_str (p := slv 1 0 n c) (v := .string (strOf b)) rfl rfl rfl (str_whole rfl rfl rfl rfl rfl (by have := hn; omega)) ?_
  refine r_bin (v := .bool false) (vx := .string (strOf ((((b ++ List.replicate 7 195#8)).drop 0).take n))) (vy := .string (strOf b)) rfl rfl rfl rfl (Eq.trans (neq_str _ _) (by rw [(kept_same0 hn)] <;> rfl)) ?_
  refine r_doneN (x_then (c_false rfl (c_skip (x_then (c_seq (c_reg ?_))))))
  refine r_move (v := slv 0 0 n (n + 7)) rfl rfl rfl ?_
  refine r_move (v := slv 1 0 n c) rfl rfl rfl ?_
  refine r_len (p := slv 1 0 n c) (v := .int .i64 (n : Nat)) rfl rfl rfl rfl ?_
  refine r_bin (v := .int .i64 ((n : Nat) + 7)) (vx := .int .i64 (n : Nat)) (vy := .int .i64 7) rfl rfl rfl rfl (bin_add (by omega) (by omega) (by omega)) ?_
  refine r_slice (p := slv 0 0 n (n + 7)) (vl := none) (vh := some (.int .i64 ((n : Nat) + 7))) (v := slv 0 0 (n + 7) (n + 7)) rfl rfl rfl rfl rfl (slice_hi (h := n + 7) rfl rfl (by omega) (by omega) rfl) ?_
  refine r_assign (v := slv 0 0 (n + 7) (n + 7)) rfl rfl rfl ?_
  refine r_doneN (x_then (c_seq (c_seq (c_reg ?_))))
  refine r_move (v := slv 1 0 n c) rfl rfl rfl ?_
  refine r_len (p := slv 1 0 n c) (v := .int .i64 (n : Nat)) rfl rfl rfl rfl ?_
  refine r_assign (v := .int .i64 (n : Nat)) rfl rfl rfl ?_
  refine r_doneN (x_then (c_block ?_))
  refine c_loopN (fun i : Nat => [slv 0 0 n (n + 7), slv 1 0 n c, dead, dead, dead, slv 0 0 (n + 7) (n + 7), .int .i64 (i : Nat), dead, dead, dead, dead, dead, dead, dead, dead, dead, dead, dead, dead]) (fun i : Nat => [rdB (b ++ List.replicate 7 195#8), rdB b]) (fun i : Nat => n ≤ i ∧ i ≤ n + 7) (fun i : Nat => n + 7 - i) n ⟨Nat.le_refl _, by omega⟩ ?_ ?_
  · refine weak_to (n := 2) rfl ?_ (by kernel_rfl) (by kernel_rfl)
    repeat (first | exact trivial | refine ⟨.inl rfl, ?_⟩ | refine ⟨.inr ⟨rfl, rfl⟩, ?_⟩ | refine ⟨.inr ⟨congrArg (Value.int .i64) (by first | omega | (dsimp only; omega)), rfl⟩, ?_⟩)
  rintro i ⟨hi0, hi⟩
  refine c_hole 1 (H' := [rdB (b ++ List.replicate 7 195#8), rdB b, hole]) rfl ?_
  refine c_seq (c_seq (c_reg ?_))
  refine r_move (v := .int .i64 (i : Nat)) rfl rfl rfl ?_
  refine r_move (v := slv 0 0 (n + 7) (n + 7)) rfl rfl rfl ?_
  refine r_len (p := slv 0 0 (n + 7) (n + 7)) (v := .int .i64 ((n : Nat) + 7)) rfl rfl rfl rfl ?_
  by_cases h1 : (i : Nat) < (n : Nat) + 7
  refine r_bin (v := .bool true) (vx := .int .i64 (i : Nat)) (vy := .int .i64 ((n : Nat) + 7)) rfl rfl rfl rfl (lss_t (by omega)) ?_
  refine r_doneN (x_then (c_true rfl (c_skip (x_then (c_seq (c_block (c_seq (c_reg ?_))))))))
  refine r_move (v := slv 0 0 (n + 7) (n + 7)) rfl rfl rfl ?_
  refine r_move (v := .int .i64 (i : Nat)) rfl rfl rfl ?_
  refine r_idxS (b := 0) (o := 0) (j := i) (m := n + 7) (c := n + 7) (sz := 1) (i := (i : Nat)) (k := .i64) rfl rfl rfl rfl rfl (by omega) (by omega) (by omega) ?_
  refine r_load (p := pt 0 i) (v := w8 (((b ++ List.replicate 7 195#8)).getD i 0)) rfl rfl rfl (load_byte rfl rfl rfl (by have := (pad_len hn); omega)) ?_
  refine r_bin (v := .bool false) (vx := w8 (((b ++ List.replicate 7 195#8)).getD i 0)) (vy := w8 (195#8)) rfl rfl rfl rfl (Eq.trans neqW (by rw [(kept_at hn (by omega) (by omega))] <;> rfl)) ?_
  refine r_doneN (x_then (c_false rfl (c_skip (x_blockN (x_then (c_reg ?_))))))
  refine r_move (v := .int .i64 (i : Nat)) rfl rfl rfl ?_
  refine r_bin (v := .int .i64 ((i : Nat) + 1)) (vx := .int .i64 (i : Nat)) (vy := .int .i64 1) rfl rfl rfl rfl (bin_add (by omega) (by omega) (by omega)) ?_
  refine r_assign (v := .int .i64 ((i : Nat) + 1)) rfl rfl rfl ?_
  refine r_doneN ?_
  refine x_round ⟨(i + 1), ⟨by omega, by omega⟩, by show n + 7 - (i + 1) < n + 7 - i; omega, ?_⟩
  refine weak_to (n := 2) rfl ?_ (by kernel_rfl) (by kernel_rfl)
  repeat (first | exact trivial | refine ⟨.inl rfl, ?_⟩ | refine ⟨.inr ⟨rfl, rfl⟩, ?_⟩ | refine ⟨.inr ⟨congrArg (Value.int .i64) (by first | omega | (dsimp only; omega)), rfl⟩, ?_⟩)
  refine r_bin (v := .bool false) (vx := .int .i64 (i : Nat)) (vy := .int .i64 ((n : Nat) + 7)) rfl rfl rfl rfl (lss_f (by omega)) ?_
  refine r_doneN (x_then (c_false rfl (c_exit (x_thenE (x_leaveE (x_block rfl (x_then (c_seq (c_reg ?_)))))))))
  refine r_assign (v := .bool true) rfl rfl rfl ?_
  refine r_doneN (x_then (c_ret (x_end ?_)))
  exact end_same (v := .bool true) rfl rfl rfl (by simp [keptB, rdB]) rfl
theorem rGet_ok (l : Bs) (n c : Nat) (hn : l.length = n) (hc : n ≤ c) (hb : n ≤ 1099511627776) : CallL Tryd.prog G 68 [slv 0 0 n c] [rdB l] (.tuple #[fdV (getF l n).1, .int .i64 (getF l n).2.1, .int .i64 (getF l n).2.2]) [rdB l] := by
  refine walk (fn := Tryd.f68) (nt := 53) rfl rfl rfl rfl ?_
  refine c_hole 1 (H' := [rdB l, hole]) rfl ?_
  refine c_seq (c_reg ?_)
  refine r_alloc (b := bxB 2 (fdC (⟨0, ⟨#[]⟩⟩ : Field))) (nid := 1) (H' := [rdB l, bxB 2 (fdC (⟨0, ⟨#[]⟩⟩ : Field))]) rfl rfl (by kernel_rfl) (by kernel_rfl) ?_
  refine r_assign (v := .int .i64 0) rfl rfl rfl ?_
  refine r_assign (v := .int .i64 0) rfl rfl rfl ?_
  refine r_doneN (x_then (c_seq (c_seq (c_reg ?_))))
  refine r_move (v := slv 0 0 n c) rfl rfl rfl ?_
  refine r_len (p := slv 0 0 n c) (v := .int .i64 (n : Nat)) rfl rfl rfl rfl ?_
  by_cases h1 : (n : Nat) < 4
  refine r_bin (v := .bool true) (vx := .int .i64 (n : Nat)) (vy := .int .i64 4) rfl rfl rfl rfl (lss_t (by omega)) ?_
  refine r_doneN (x_then (c_true rfl (c_seq (c_reg ?_))))
  refine r_build (vs := []) (v := fdV (⟨0, ⟨#[]⟩⟩ : Field)) rfl rfl rfl (by kernel_rfl) ?_
  refine r_store (p := pt 1 0) (v := fdV (⟨0, ⟨#[]⟩⟩ : Field)) (b := 1) (blk := bxB 2 (fdC (⟨0, ⟨#[]⟩⟩ : Field))) (H' := [rdB l, bxB 2 (fdC (⟨0, ⟨#[]⟩⟩ : Field))]) rfl rfl rfl (by kernel_rfl) (by kernel_rfl) ?_
  refine r_assign (v := .int .i64 0) rfl rfl rfl ?_
  refine r_assign (v := .int .i64 10) rfl rfl rfl ?_
  refine r_doneN (x_then (c_ret (x_thenR (x_end ?_))))
  rw [show getF l n = ((⟨0, ⟨#[]⟩⟩ : Field), 0, 10) from by unfold getF; (repeat' split) <;> first | rfl | omega | (simp_all; done) | (simp_all; omega) | (refine Prod.ext ?_ (Prod.ext (by dsimp only; omega) rfl); dsimp only; congr 2; congr 1; omega)]
  exact end_same (v := .tuple #[fdV (⟨0, ⟨#[]⟩⟩ : Field), .int .i64 0, .int .i64 10]) (by kernel_rfl) rfl rfl (by simp [keptB, rdB]) ⟨(argV_p (by kernel_rfl) rfl), rfl, rfl, trivial⟩
  refine r_bin (v := .bool false) (vx := .int .i64 (n : Nat)) (vy := .int .i64 4) rfl rfl rfl rfl (lss_f (by omega)) ?_
  refine r_doneN (x_then (c_false rfl (c_skip (x_then (c_seq ?_)))))
  refine c_draw (by kernel_rfl) ?_
  refine r_move (v := slv 0 0 n c) rfl rfl rfl ?_
  refine r_idxS (b := 0) (o := 0) (j := 1) (m := n) (c := c) (sz := 1) (i := 1) (k := .i64) rfl rfl rfl rfl rfl (by omega) (by omega) (by omega) ?_
  refine r_load (p := pt 0 1) (v := w8 (l.getD 1 0)) rfl rfl rfl (load_byte rfl rfl rfl (by have := hn; omega)) ?_
  have hw5 := BitVec.isLt (l.getD 1 0)
  refine r_conv (w := w8 (l.getD 1 0)) (v := .int .i64 ((((l.getD 1 0).toNat) : Nat) : Int)) rfl rfl rfl (convI rfl rfl (by have := (l.getD 1 0).isLt; omega) (by have := (l.getD 1 0).isLt; omega)) ?_
  refine r_bin (v := .int .i64 (65536 * ((((l.getD 1 0).toNat) : Nat) : Int))) (vx := .int .i64 65536) (vy := .int .i64 ((((l.getD 1 0).toNat) : Nat) : Int)) rfl rfl rfl rfl (bin_mul (by omega) (by omega) (by omega)) ?_
  refine r_move (v := slv 0 0 n c) rfl rfl rfl ?_
  refine r_idxS (b := 0) (o := 0) (j := 2) (m := n) (c := c) (sz := 1) (i := 2) (k := .i64) rfl rfl rfl rfl rfl (by omega) (by omega) (by omega) ?_
  refine r_load (p := pt 0 2) (v := w8 (l.getD 2 0)) rfl rfl rfl (load_byte rfl rfl rfl (by have := hn; omega)) ?_
  have hw6 := BitVec.isLt (l.getD 2 0)
  refine r_conv (w := w8 (l.getD 2 0)) (v := .int .i64 ((((l.getD 2 0).toNat) : Nat) : Int)) rfl rfl rfl (convI rfl rfl (by have := (l.getD 2 0).isLt; omega) (by have := (l.getD 2 0).isLt; omega)) ?_
  refine r_bin (v := .int .i64 (256 * ((((l.getD 2 0).toNat) : Nat) : Int))) (vx := .int .i64 256) (vy := .int .i64 ((((l.getD 2 0).toNat) : Nat) : Int)) rfl rfl rfl rfl (bin_mul (by omega) (by omega) (by omega)) ?_
  refine r_bin (v := .int .i64 (65536 * ((((l.getD 1 0).toNat) : Nat) : Int) + 256 * ((((l.getD 2 0).toNat) : Nat) : Int))) (vx := .int .i64 (65536 * ((((l.getD 1 0).toNat) : Nat) : Int))) (vy := .int .i64 (256 * ((((l.getD 2 0).toNat) : Nat) : Int))) rfl rfl rfl rfl (bin_add (by omega) (by omega) (by omega)) ?_
  refine r_move (v := slv 0 0 n c) rfl rfl rfl ?_
  refine r_idxS (b := 0) (o := 0) (j := 3) (m := n) (c := c) (sz := 1) (i := 3) (k := .i64) rfl rfl rfl rfl rfl (by omega) (by omega) (by omega) ?_
  refine r_load (p := pt 0 3) (v := w8 (l.getD 3 0)) rfl rfl rfl (load_byte rfl rfl rfl (by have := hn; omega)) ?_
  have hw7 := BitVec.isLt (l.getD 3 0)
  refine r_conv (w := w8 (l.getD 3 0)) (v := .int .i64 ((((l.getD 3 0).toNat) : Nat) : Int)) rfl rfl rfl (convI rfl rfl (by have := (l.getD 3 0).isLt; omega) (by have := (l.getD 3 0).isLt; omega)) ?_
  refine r_bin (v := .int .i64 (65536 * ((((l.getD 1 0).toNat) : Nat) : Int) + 256 * ((((l.getD 2 0).toNat) : Nat) : Int) + ((((l.getD 3 0).toNat) : Nat) : Int))) (vx := .int .i64 (65536 * ((((l.getD 1 0).toNat) : Nat) : Int) + 256 * ((((l.getD 2 0).toNat) : Nat) : Int))) (vy := .int .i64 ((((l.getD 3 0).toNat) : Nat) : Int)) rfl rfl rfl rfl (bin_add (by omega) (by omega) (by omega)) ?_
  refine r_assign (v := .int .i64 (65536 * ((((l.getD 1 0).toNat) : Nat) : Int) + 256 * ((((l.getD 2 0).toNat) : Nat) : Int) + ((((l.getD 3 0).toNat) : Nat) : Int))) rfl rfl rfl ?_
  refine r_doneD (drawnT_ok [[], [0], [0, 1], [0, 1, 2], [0, 1, 2, 3], [], [5], [5, 6], [5, 6, 7], [5, 6, 7, 8], [0, 1, 2, 3, 4, 5, 6, 7, 8, 9], [], [11], [11, 12], [11, 12, 13], [0, 1, 2, 3, 4, 5, 6, 7, 8, 9, 10, 11, 12, 13, 14], [0, 1, 2, 3, 4, 5, 6, 7, 8, 9, 10, 11, 12, 13, 14, 15]] (by kernel_rfl) (by kernel_rfl)) ?_
  refine x_then (c_seq (c_seq (c_reg ?_)))
  refine r_move (v := slv 0 0 n c) rfl rfl rfl ?_
  refine r_idxS (b := 0) (o := 0) (j := 0) (m := n) (c := c) (sz := 1) (i := 0) (k := .i64) rfl rfl rfl rfl rfl (by omega) (by omega) (by omega) ?_
  refine r_load (p := pt 0 0) (v := w8 (l.getD 0 0)) rfl rfl rfl (load_byte rfl rfl rfl (by have := hn; omega)) ?_
  rcases Bool.eq_false_or_eq_true ((l.getD 0 0) == 0#8) with h2 | h2
  refine r_bin (v := .bool true) (vx := w8 (l.getD 0 0)) (vy := w8 (0#8)) rfl rfl rfl rfl (Eq.trans eqlW (by rw [h2] <;> rfl)) ?_
  refine r_move (v := .bool true) rfl rfl rfl ?_
  refine r_skip rfl rfl (r_skip rfl rfl ?_)
  refine r_pick (v := .bool true) rfl rfl rfl ?_
  refine r_doneN (x_then (c_true rfl (c_seq (c_reg ?_))))
  refine r_build (vs := []) (v := fdV (⟨0, ⟨#[]⟩⟩ : Field)) rfl rfl rfl (by kernel_rfl) ?_
  refine r_store (p := pt 1 0) (v := fdV (⟨0, ⟨#[]⟩⟩ : Field)) (b := 1) (blk := bxB 2 (fdC (⟨0, ⟨#[]⟩⟩ : Field))) (H' := [rdB l, bxB 2 (fdC (⟨0, ⟨#[]⟩⟩ : Field))]) rfl rfl rfl (by kernel_rfl) (by kernel_rfl) ?_
  refine r_assign (v := .int .i64 0) rfl rfl rfl ?_
  refine r_assign (v := .int .i64 11) rfl rfl rfl ?_
  refine r_doneN (x_then (c_ret (x_thenR (x_end ?_))))
  rw [show getF l n = ((⟨0, ⟨#[]⟩⟩ : Field), 0, 11) from by unfold getF; (repeat' split) <;> first | rfl | omega | (simp_all; done) | (simp_all; omega) | (refine Prod.ext ?_ (Prod.ext (by dsimp only; omega) rfl); dsimp only; congr 2; congr 1; omega)]
  exact end_same (v := .tuple #[fdV (⟨0, ⟨#[]⟩⟩ : Field), .int .i64 0, .int .i64 11]) (by kernel_rfl) rfl rfl (by simp [keptB, rdB]) ⟨(argV_p (by kernel_rfl) rfl), rfl, rfl, trivial⟩
  refine r_bin (v := .bool false) (vx := w8 (l.getD 0 0)) (vy := w8 (0#8)) rfl rfl rfl rfl (Eq.trans eqlW (by rw [h2] <;> rfl)) ?_
  refine r_move (v := .bool false) rfl rfl rfl ?_
  refine r_move (v := .int .i64 (65536 * ((((l.getD 1 0).toNat) : Nat) : Int) + 256 * ((((l.getD 2 0).toNat) : Nat) : Int) + ((((l.getD 3 0).toNat) : Nat) : Int))) rfl rfl rfl ?_
  by_cases h3 : 65536 < 65536 * ((((l.getD 1 0).toNat) : Nat) : Int) + 256 * ((((l.getD 2 0).toNat) : Nat) : Int) + ((((l.getD 3 0).toNat) : Nat) : Int)
  refine r_bin (v := .bool true) (vx := .int .i64 (65536 * ((((l.getD 1 0).toNat) : Nat) : Int) + 256 * ((((l.getD 2 0).toNat) : Nat) : Int) + ((((l.getD 3 0).toNat) : Nat) : Int))) (vy := .int .i64 65536) rfl rfl rfl rfl (gtr_t (by omega)) ?_
  refine r_pick (v := .bool true) rfl rfl rfl ?_
  refine r_doneN (x_then (c_true rfl (c_seq (c_reg ?_))))
  refine r_build (vs := []) (v := fdV (⟨0, ⟨#[]⟩⟩ : Field)) rfl rfl rfl (by kernel_rfl) ?_
  refine r_store (p := pt 1 0) (v := fdV (⟨0, ⟨#[]⟩⟩ : Field)) (b := 1) (blk := bxB 2 (fdC (⟨0, ⟨#[]⟩⟩ : Field))) (H' := [rdB l, bxB 2 (fdC (⟨0, ⟨#[]⟩⟩ : Field))]) rfl rfl rfl (by kernel_rfl) (by kernel_rfl) ?_
  refine r_assign (v := .int .i64 0) rfl rfl rfl ?_
  refine r_assign (v := .int .i64 11) rfl rfl rfl ?_
  refine r_doneN (x_then (c_ret (x_thenR (x_end ?_))))
  rw [show getF l n = ((⟨0, ⟨#[]⟩⟩ : Field), 0, 11) from by unfold getF; (repeat' split) <;> first | rfl | omega | (simp_all; done) | (simp_all; omega) | (refine Prod.ext ?_ (Prod.ext (by dsimp only; omega) rfl); dsimp only; congr 2; congr 1; omega)]
  exact end_same (v := .tuple #[fdV (⟨0, ⟨#[]⟩⟩ : Field), .int .i64 0, .int .i64 11]) (by kernel_rfl) rfl rfl (by simp [keptB, rdB]) ⟨(argV_p (by kernel_rfl) rfl), rfl, rfl, trivial⟩
  refine r_bin (v := .bool false) (vx := .int .i64 (65536 * ((((l.getD 1 0).toNat) : Nat) : Int) + 256 * ((((l.getD 2 0).toNat) : Nat) : Int) + ((((l.getD 3 0).toNat) : Nat) : Int))) (vy := .int .i64 65536) rfl rfl rfl rfl (gtr_f (by omega)) ?_
  refine r_pick (v := .bool false) rfl rfl rfl ?_
  refine r_doneN (x_then (c_false rfl (c_skip (x_then (c_seq (c_seq (c_reg ?_)))))))
  refine r_move (v := slv 0 0 n c) rfl rfl rfl ?_
  refine r_len (p := slv 0 0 n c) (v := .int .i64 (n : Nat)) rfl rfl rfl rfl ?_
  refine r_bin (v := .int .i64 ((n : Nat) - 4)) (vx := .int .i64 (n : Nat)) (vy := .int .i64 4) rfl rfl rfl rfl (bin_sub (by omega) (by omega) (by omega)) ?_
  refine r_move (v := .int .i64 (65536 * ((((l.getD 1 0).toNat) : Nat) : Int) + 256 * ((((l.getD 2 0).toNat) : Nat) : Int) + ((((l.getD 3 0).toNat) : Nat) : Int))) rfl rfl rfl ?_
  by_cases h4 : (n : Nat) - 4 < 65536 * ((((l.getD 1 0).toNat) : Nat) : Int) + 256 * ((((l.getD 2 0).toNat) : Nat) : Int) + ((((l.getD 3 0).toNat) : Nat) : Int)
  refine r_bin (v := .bool true) (vx := .int .i64 ((n : Nat) - 4)) (vy := .int .i64 (65536 * ((((l.getD 1 0).toNat) : Nat) : Int) + 256 * ((((l.getD 2 0).toNat) : Nat) : Int) + ((((l.getD 3 0).toNat) : Nat) : Int))) rfl rfl rfl rfl (lss_t (by omega)) ?_
  refine r_doneN (x_then (c_true rfl (c_seq (c_reg ?_))))
  refine r_build (vs := []) (v := fdV (⟨0, ⟨#[]⟩⟩ : Field)) rfl rfl rfl (by kernel_rfl) ?_
  refine r_store (p := pt 1 0) (v := fdV (⟨0, ⟨#[]⟩⟩ : Field)) (b := 1) (blk := bxB 2 (fdC (⟨0, ⟨#[]⟩⟩ : Field))) (H' := [rdB l, bxB 2 (fdC (⟨0, ⟨#[]⟩⟩ : Field))]) rfl rfl rfl (by kernel_rfl) (by kernel_rfl) ?_
  refine r_assign (v := .int .i64 0) rfl rfl rfl ?_
  refine r_assign (v := .int .i64 10) rfl rfl rfl ?_
  refine r_doneN (x_then (c_ret (x_thenR (x_end ?_))))
  rw [show getF l n = ((⟨0, ⟨#[]⟩⟩ : Field), 0, 10) from by unfold getF; (repeat' split) <;> first | rfl | omega | (simp_all; done) | (simp_all; omega) | (refine Prod.ext ?_ (Prod.ext (by dsimp only; omega) rfl); dsimp only; congr 2; congr 1; omega)]
  exact end_same (v := .tuple #[fdV (⟨0, ⟨#[]⟩⟩ : Field), .int .i64 0, .int .i64 10]) (by kernel_rfl) rfl rfl (by simp [keptB, rdB]) ⟨(argV_p (by kernel_rfl) rfl), rfl, rfl, trivial⟩
  refine r_bin (v := .bool false) (vx := .int .i64 ((n : Nat) - 4)) (vy := .int .i64 (65536 * ((((l.getD 1 0).toNat) : Nat) : Int) + 256 * ((((l.getD 2 0).toNat) : Nat) : Int) + ((((l.getD 3 0).toNat) : Nat) : Int))) rfl rfl rfl rfl (lss_f (by omega)) ?_
  refine r_doneN (x_then (c_false rfl (c_skip (x_then (c_seq ?_)))))
  refine c_draw (by kernel_rfl) ?_
  refine r_move (v := slv 0 0 n c) rfl rfl rfl ?_
  refine r_idxS (b := 0) (o := 0) (j := 0) (m := n) (c := c) (sz := 1) (i := 0) (k := .i64) rfl rfl rfl rfl rfl (by omega) (by omega) (by omega) ?_
  refine r_load (p := pt 0 0) (v := w8 (l.getD 0 0)) rfl rfl rfl (load_byte rfl rfl rfl (by have := hn; omega)) ?_
  have hw8 := BitVec.isLt (l.getD 0 0)
  refine r_conv (w := w8 (l.getD 0 0)) (v := .int .i64 ((((l.getD 0 0).toNat) : Nat) : Int)) rfl rfl rfl (convI rfl rfl (by have := (l.getD 0 0).isLt; omega) (by have := (l.getD 0 0).isLt; omega)) ?_
  refine r_move (v := slv 0 0 n c) rfl rfl rfl ?_
  refine r_move (v := .int .i64 (65536 * ((((l.getD 1 0).toNat) : Nat) : Int) + 256 * ((((l.getD 2 0).toNat) : Nat) : Int) + ((((l.getD 3 0).toNat) : Nat) : Int))) rfl rfl rfl ?_
  refine r_bin (v := .int .i64 (65536 * ((((l.getD 1 0).toNat) : Nat) : Int) + 256 * ((((l.getD 2 0).toNat) : Nat) : Int) + ((((l.getD 3 0).toNat) : Nat) : Int) + 4)) (vx := .int .i64 4) (vy := .int .i64 (65536 * ((((l.getD 1 0).toNat) : Nat) : Int) + 256 * ((((l.getD 2 0).toNat) : Nat) : Int) + ((((l.getD 3 0).toNat) : Nat) : Int))) rfl rfl rfl rfl (bin_add (by omega) (by omega) (by omega)) ?_
  refine r_slice (p := slv 0 0 n c) (vl := some (.int .i64 4)) (vh := some (.int .i64 (65536 * ((((l.getD 1 0).toNat) : Nat) : Int) + 256 * ((((l.getD 2 0).toNat) : Nat) : Int) + ((((l.getD 3 0).toNat) : Nat) : Int) + 4))) (v := slv 0 4 (65536 * ((l.getD 1 0).toNat) + 256 * ((l.getD 2 0).toNat) + ((l.getD 3 0).toNat)) (c - 4)) rfl rfl rfl rfl rfl (slice_both (sz := 1) (l := 4) (h := 65536 * ((l.getD 1 0).toNat) + 256 * ((l.getD 2 0).toNat) + ((l.getD 3 0).toNat) + 4) rfl rfl rfl (by omega) (by omega) (by omega) (by omega) rfl (by omega) (by omega) (by omega)) ?_
  refine r_str (p := slv 0 4 (65536 * ((l.getD 1 0).toNat) + 256 * ((l.getD 2 0).toNat) + ((l.getD 3 0).toNat)) (c - 4)) (v := .string (strOf ((l.drop 4).take (65536 * ((l.getD 1 0).toNat) + 256 * ((l.getD 2 0).toNat) + ((l.getD 3 0).toNat))))) rfl rfl rfl (str_row rfl rfl rfl rfl rfl (by have := hn; omega) rfl) ?_
  refine r_build (vs := [(0, .int .i64 ((((l.getD 0 0).toNat) : Nat) : Int)), (1, .string (strOf ((l.drop 4).take (65536 * ((l.getD 1 0).toNat) + 256 * ((l.getD 2 0).toNat) + ((l.getD 3 0).toNat)))))]) (v := fdV (⟨((((l.getD 0 0).toNat) : Nat) : Int), (strOf ((l.drop 4).take (65536 * ((l.getD 1 0).toNat) + 256 * ((l.getD 2 0).toNat) + ((l.getD 3 0).toNat))))⟩ : Field)) rfl rfl rfl (by kernel_rfl) ?_
  refine r_move (v := .int .i64 (65536 * ((((l.getD 1 0).toNat) : Nat) : Int) + 256 * ((((l.getD 2 0).toNat) : Nat) : Int) + ((((l.getD 3 0).toNat) : Nat) : Int))) rfl rfl rfl ?_
  refine r_bin (v := .int .i64 (65536 * ((((l.getD 1 0).toNat) : Nat) : Int) + 256 * ((((l.getD 2 0).toNat) : Nat) : Int) + ((((l.getD 3 0).toNat) : Nat) : Int) + 4)) (vx := .int .i64 4) (vy := .int .i64 (65536 * ((((l.getD 1 0).toNat) : Nat) : Int) + 256 * ((((l.getD 2 0).toNat) : Nat) : Int) + ((((l.getD 3 0).toNat) : Nat) : Int))) rfl rfl rfl rfl (bin_add (by omega) (by omega) (by omega)) ?_
  refine r_store (p := pt 1 0) (v := fdV (⟨((((l.getD 0 0).toNat) : Nat) : Int), (strOf ((l.drop 4).take (65536 * ((l.getD 1 0).toNat) + 256 * ((l.getD 2 0).toNat) + ((l.getD 3 0).toNat))))⟩ : Field)) (b := 1) (blk := bxB 2 (fdC (⟨((((l.getD 0 0).toNat) : Nat) : Int), (strOf ((l.drop 4).take (65536 * ((l.getD 1 0).toNat) + 256 * ((l.getD 2 0).toNat) + ((l.getD 3 0).toNat))))⟩ : Field))) (H' := [rdB l, bxB 2 (fdC (⟨((((l.getD 0 0).toNat) : Nat) : Int), (strOf ((l.drop 4).take (65536 * ((l.getD 1 0).toNat) + 256 * ((l.getD 2 0).toNat) + ((l.getD 3 0).toNat))))⟩ : Field))]) rfl rfl rfl (by kernel_rfl) (by kernel_rfl) ?_
  refine r_assign (v := .int .i64 (65536 * ((((l.getD 1 0).toNat) : Nat) : Int) + 256 * ((((l.getD 2 0).toNat) : Nat) : Int) + ((((l.getD 3 0).toNat) : Nat) : Int) + 4)) rfl rfl rfl ?_
  refine r_assign (v := .int .i64 0) rfl rfl rfl ?_
  refine r_doneD (drawnT_ok [[], [0], [0, 1], [0, 1, 2], [], [], [5], [4, 5, 6], [4, 5, 6, 7], [0, 1, 2, 3, 4, 5, 6, 7, 8], [], [10], [0, 1, 2, 3, 4, 5, 6, 7, 8, 9], [0, 1, 2, 3, 4, 5, 6, 7, 8, 9, 10, 11, 12], [0, 1, 2, 3, 4, 5, 6, 7, 8, 9, 10, 11, 12, 13]] (by kernel_rfl) (by kernel_rfl)) ?_
  refine x_then (c_ret (x_end ?_))
  rw [show getF l n = ((⟨((((l.getD 0 0).toNat) : Nat) : Int), (strOf ((l.drop 4).take (65536 * ((l.getD 1 0).toNat) + 256 * ((l.getD 2 0).toNat) + ((l.getD 3 0).toNat))))⟩ : Field), 65536 * ((((l.getD 1 0).toNat) : Nat) : Int) + 256 * ((((l.getD 2 0).toNat) : Nat) : Int) + ((((l.getD 3 0).toNat) : Nat) : Int) + 4, 0) from by unfold getF; (repeat' split) <;> first | rfl | omega | (simp_all; done) | (simp_all; omega) | (refine Prod.ext ?_ (Prod.ext (by dsimp only; omega) rfl); dsimp only; congr 2; congr 1; omega)]
  exact end_same (v := .tuple #[fdV (⟨((((l.getD 0 0).toNat) : Nat) : Int), (strOf ((l.drop 4).take (65536 * ((l.getD 1 0).toNat) + 256 * ((l.getD 2 0).toNat) + ((l.getD 3 0).toNat))))⟩ : Field), .int .i64 (65536 * ((((l.getD 1 0).toNat) : Nat) : Int) + 256 * ((((l.getD 2 0).toNat) : Nat) : Int) + ((((l.getD 3 0).toNat) : Nat) : Int) + 4), .int .i64 0]) (by kernel_rfl) rfl rfl (by simp [keptB, rdB]) ⟨(argV_p (by kernel_rfl) rfl), rfl, rfl, trivial⟩
end Go.Flat
