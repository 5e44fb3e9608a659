/- Walks and plain laws: what each theorem says, within the bounds that it names. -/
import Derived.Test.YthfklplpfbmkgaaDoorH2
set_option linter.unusedVariables false
set_option linter.unusedSimpArgs false
set_option maxRecDepth 20000
namespace Go.Flat
open Go.Proofs
variable {G : Glob}
theorem fldB_len (f : Field) : (fldB f).length = f.data.size + 4 := by simp [fldB, bl_len]
theorem put_ok' (l : Bs) (f : Field) (n c : Nat) (hn : l.length = n) (hc : n ≤ c) (hf : f.data.size ≤ 65536) (hb : n ≤ 1099511627776) : CallL Tryd.prog G 64 [slv 0 0 n c, fdV f] [rowB l] (slv 0 0 (l ++ fldB f).length (l ++ fldB f).length) [rowB (l ++ fldB f)] := by
  have h := put_ok (G := G) l f n c hn hc hf hb
  rw [show n + f.data.size + 4 = (l ++ fldB f).length from by rw [List.length_append, fldB_len]; omega] at h
  exact h
theorem mayE_size {f : Field} {last : Int} (h : mayE f last = 0) : f.data.size ≤ 65536 := by
  unfold mayE at h
  split at h
  · omega
  · split at h
    · omega
    · split at h <;> omega
def layF : List Field → Int → Bs → Bs × Int
  | [], _, acc => (acc, 0)
  | f :: fs, last, acc => if mayE f last = 0 then layF fs f.tag (acc ++ fldB f) else ([], mayE f last)
theorem drop_getD {α : Type} [Inhabited α] {l : List α} {i : Nat} (h : i < l.length) : l.drop i = l.getD i default :: l.drop (i + 1) := by
  rw [List.drop_eq_getElem_cons h, List.getD_eq_getElem?_getD, List.getElem?_eq_getElem h]; rfl
theorem layF_step {fs : List Field} {i : Nat} {last : Int} {acc : Bs} {R : Bs × Int} (hR : layF (fs.drop i) last acc = R) (hi : i < fs.length) (hm : mayE (fs.getD i default) last = 0) : layF (fs.drop (i + 1)) (fs.getD i default).tag (acc ++ fldB (fs.getD i default)) = R := by
  rw [drop_getD hi, layF, if_pos hm] at hR; exact hR
theorem layF_bad {fs : List Field} {i : Nat} {last : Int} {acc : Bs} {R : Bs × Int} (hR : layF (fs.drop i) last acc = R) (hi : i < fs.length) (hm : mayE (fs.getD i default) last ≠ 0) : R = ([], mayE (fs.getD i default) last) := by
  rw [drop_getD hi, layF, if_neg hm] at hR; exact hR.symm
def valL : Bs → Nat → Int × Int
  | [], n => ((n : Nat), 0)
  | x :: l, n => if 18014398509481983 < n then (0, 11) else valL l (n * 256 + x.toNat)
def valS (s : ByteArray) : Int × Int := if 8 < s.size ∨ (1 ≤ s.size ∧ ((bl s).getD 0 0 == 0#8) = true) then (0, 11) else valL (bl s) 0
theorem valL_step {l : Bs} {j v w : Nat} {R : Int × Int} (hR : valL (l.drop j) v = R) (hj : j < l.length) (hv : v ≤ 18014398509481983) (hw : w = 256 * v + (l.getD j 0).toNat := by rfl) : valL (l.drop (j + 1)) w = R := by
  have e : l.drop j = l.getD j 0 :: l.drop (j + 1) := drop_getD (α := BitVec 8) hj
  subst hw
  rw [e, valL, if_neg (by omega), Nat.mul_comm] at hR
  exact hR
theorem valL_bad {l : Bs} {j v : Nat} {R : Int × Int} (hR : valL (l.drop j) v = R) (hj : j < l.length) (hv : 18014398509481983 < v) : R = (0, 11) := by
  have e : l.drop j = l.getD j 0 :: l.drop (j + 1) := drop_getD (α := BitVec 8) hj
  rw [e, valL, if_pos hv] at hR
  exact hR.symm
theorem valS_ok {s : ByteArray} {R : Int × Int} (h1 : s.size ≤ 8) (h2 : 1 ≤ s.size → ((bl s).getD 0 0 == 0#8) = false) (h : valL (bl s) 0 = R) : valS s = R := by
  unfold valS
  rw [if_neg, h]
  rintro (h | ⟨h, h'⟩)
  · omega
  · rw [h2 h] at h'; cases h'
theorem valS_bad {s : ByteArray} (h : 8 < s.size ∨ (1 ≤ s.size ∧ ((bl s).getD 0 0 == 0#8) = true)) : valS s = (0, 11) := if_pos h
theorem Lay_ok (fs : List Field) (n c : Nat) (hn : fs.length = n) (hc : n ≤ c) (hb : n ≤ 1000) : CallL Tryd.prog G 51 [slv 0 0 n c] [rwR cFd fs] (.tuple #[slv 1 0 (layF fs 0 []).1.length (layF fs 0 []).1.length, .int .i64 (layF fs 0 []).2]) [rwR cFd fs, rowB (layF fs 0 []).1] := by
  refine walk (fn := Tryd.f51) (nt := 28) rfl rfl rfl rfl ?_
  refine c_hole 1 (H' := [rwR cFd fs, hole]) rfl ?_
  refine c_seq (c_reg ?_)
  refine r_assign (v := .slice none 0 0) rfl rfl rfl ?_
  refine r_assign (v := .int .i64 0) rfl rfl rfl ?_
  refine r_doneN (x_then (c_seq (c_reg ?_)))
  refine r_assign (v := .slice none 0 0) rfl rfl rfl ?_
  refine r_doneN (x_then (c_seq (c_reg ?_)))
  refine r_assign (v := .int .i64 0) rfl rfl rfl ?_
  refine r_doneN (x_then (c_seq (c_seq ?_)))
  refine c_weak (Weak.nilTmp (i := 4) (b := 1) true 1 rfl (by decide) rfl) ?_
  refine c_reg ?_
  refine r_move (v := slv 0 0 n c) rfl rfl rfl ?_
  refine r_len (p := slv 0 0 n c) (v := .int .i64 (n : Nat)) rfl rfl rfl rfl ?_
  refine r_move (v := .int .i64 0) rfl rfl rfl ?_
  refine r_doneN (x_then (c_block ?_))
  refine c_loopN (fun x : Nat × Int × Bs => match x with | (i, last, acc) => [slv 0 0 n c, dead, dead, dead, slv 1 0 acc.length acc.length, .int .i64 last, dead, dead, dead, slv 0 0 n c, .int .i64 (n : Nat), .int .i64 (i : Nat)]) (fun x : Nat × Int × Bs => match x with | (i, last, acc) => [rwR cFd fs, rowB acc]) (fun x : Nat × Int × Bs => match x with | (i, last, acc) => layF (fs.drop i) last acc = layF fs 0 [] ∧ i ≤ n ∧ acc.length ≤ i * 65540) (fun x : Nat × Int × Bs => match x with | (i, last, acc) => n - i) (0, 0, []) ⟨rfl, by omega, by simp⟩ ?_ ?_
  · refine weak_to (n := 2) rfl ?_ (by kernel_rfl) (by kernel_rfl)
    repeat (first | exact trivial | refine ⟨.inl rfl, ?_⟩ | refine ⟨.inr ⟨rfl, rfl⟩, ?_⟩ | refine ⟨.inr ⟨congrArg (Value.int .i64) (by first | omega | (dsimp only; omega)), rfl⟩, ?_⟩)
  rintro ⟨i, last, acc⟩ ⟨hR, hi, ha⟩
  dsimp only at *
  refine c_hole 2 (H' := [rwR cFd fs, rowB acc, hole, hole]) rfl ?_
  have ha2 : acc.length ≤ 65540000 := by omega
  refine c_seq (c_reg ?_)
  by_cases h1 : (i : Nat) < (n : Nat)
  refine r_bin (v := .bool true) (vx := .int .i64 (i : Nat)) (vy := .int .i64 (n : Nat)) rfl rfl rfl rfl (lss_t (by omega)) ?_
  refine r_doneN (x_then (c_seq (c_true rfl (c_skip (x_then (c_seq (c_block (c_seq (c_reg ?_)))))))))
  refine r_idxS (b := 0) (o := 0) (j := i * 2) (m := n) (c := c) (sz := 2) (i := (i : Nat)) (k := .i64) rfl rfl rfl rfl rfl (by omega) (by omega) (by omega) ?_
  refine r_load (p := pt 0 (i * 2)) (v := fdV (fs.getD i default)) rfl rfl rfl (load_rw (n := 0) (m := 2) cFd rfl rfl rfl rfl (by have := hn; omega) (by omega)) ?_
  refine r_alloc (b := bxB 2 (fdC (⟨0, ⟨#[]⟩⟩ : Field))) (nid := 2) (H' := [rwR cFd fs, rowB acc, bxB 2 (fdC (⟨0, ⟨#[]⟩⟩ : Field)), hole]) rfl rfl (by kernel_rfl) (by kernel_rfl) ?_
  refine r_store (p := pt 2 0) (v := fdV (fs.getD i default)) (b := 2) (blk := bxB 2 (fdC (fs.getD i default))) (H' := [rwR cFd fs, rowB acc, bxB 2 (fdC (fs.getD i default)), hole]) rfl rfl rfl (by kernel_rfl) (by kernel_rfl) ?_
  refine r_doneN (x_then (c_seq (c_seq (c_reg ?_))))
  refine r_load (p := pt 2 0) (v := fdV (fs.getD i default)) rfl rfl rfl (by kernel_rfl) ?_
  refine r_move (v := .int .i64 last) rfl rfl rfl ?_
  refine r_callP (may_ok (G := G) (fs.getD i default) last) (vals := [fdV (fs.getD i default), .int .i64 last]) (res' := .int .i64 ((mayE (fs.getD i default) last))) rfl rfl rfl rfl rfl rfl ?_
  refine r_assign (v := .int .i64 ((mayE (fs.getD i default) last))) rfl rfl rfl ?_
  refine r_doneN (x_then (c_seq (c_reg ?_)))
  refine r_move (v := .int .i64 ((mayE (fs.getD i default) last))) rfl rfl rfl ?_
  by_cases h2 : ((mayE (fs.getD i default) last)) ≠ 0
  refine r_bin (v := .bool true) (vx := .int .i64 ((mayE (fs.getD i default) last))) (vy := .int .i64 0) rfl rfl rfl rfl (neq_t (by omega)) ?_
  refine r_doneN (x_then (c_true rfl (c_seq (c_reg ?_))))
  refine r_move (v := .int .i64 ((mayE (fs.getD i default) last))) rfl rfl rfl ?_
  refine r_assign (v := .slice none 0 0) rfl rfl rfl ?_
  refine r_assign (v := .int .i64 ((mayE (fs.getD i default) last))) rfl rfl rfl ?_
  refine r_doneN (x_then ?_)
  refine c_weak (Weak.nilTmp (i := 2) (b := 3) true 1 rfl (by decide) rfl) ?_
  refine c_ret (x_thenR (x_blockR (x_thenR (x_leaveR (x_blockR (x_thenR (x_end ?_)))))))
  rw [show layF fs 0 [] = ([], ((mayE (fs.getD i default) last))) from layF_bad hR (by omega) (by omega)]
  exact end_map [0, 3] (v := .tuple #[slv 3 0 0 0, .int .i64 ((mayE (fs.getD i default) last))]) rfl (by kernel_rfl) rfl rfl (by decide) (by simp [keptB, rowB, rwR, cFd]) ⟨⟨rfl, rfl, rfl, by first | omega | exact Nat.le_refl _ | exact Nat.zero_le _ | (dsimp only; omega), by first | omega | exact Nat.le_refl _ | exact Nat.zero_le _ | (dsimp only; omega)⟩, rfl, trivial⟩
  refine r_bin (v := .bool false) (vx := .int .i64 ((mayE (fs.getD i default) last))) (vy := .int .i64 0) rfl rfl rfl rfl (neq_f (by omega)) ?_
  refine r_doneN (x_then (c_false rfl (c_skip (x_then ?_))))
  have hsz : (fs.getD i default).data.size ≤ 65536 := mayE_size (last := last) (by omega)
  refine c_drawK (by kernel_rfl) ?_
  refine r_move (v := slv 1 0 acc.length acc.length) rfl rfl rfl ?_
  refine r_load (p := pt 2 0) (v := fdV (fs.getD i default)) rfl rfl rfl (by kernel_rfl) ?_
  refine r_call (e := [some (1, 0)]) (nid := 0) (put_ok' (G := G) acc (fs.getD i default) acc.length acc.length (by first | rfl | omega) (by omega) (by omega) (by omega)) (vals := [slv 1 0 acc.length acc.length, fdV (fs.getD i default)]) (v := slv 1 0 ((acc ++ fldB (fs.getD i default)).length) ((acc ++ fldB (fs.getD i default)).length)) (H' := [rwR cFd fs, rowB (acc ++ fldB (fs.getD i default)), bxB 2 (fdC (fs.getD i default)), hole]) rfl rfl rfl rfl rfl rfl ⟨⟨⟨rfl, rfl, rfl, by omega, by omega⟩, rfl, trivial⟩, ⟨(emb_wr rfl rfl rfl rfl), trivial⟩, rfl, rfl, rfl, Nat.le_refl _⟩ rfl rfl (by kernel_rfl) ?_
  refine r_fieldAddr (b := 2) (o := 0) (n := 0) (o' := 0) rfl rfl rfl rfl rfl ?_
  refine r_load (p := pt 2 0) (v := .int .i64 (((fs.getD i default).tag))) rfl rfl rfl (by kernel_rfl) ?_
  refine r_assign (v := slv 1 0 ((acc ++ fldB (fs.getD i default)).length) ((acc ++ fldB (fs.getD i default)).length)) rfl rfl rfl ?_
  refine r_assign (v := .int .i64 (((fs.getD i default).tag))) rfl rfl rfl ?_
  refine r_doneK (by kernel_rfl) ?_
  refine x_blockN (x_then (c_reg ?_))
  refine r_bin (v := .int .i64 ((i : Nat) + 1)) (vx := .int .i64 (i : Nat)) (vy := .int .i64 1) rfl rfl rfl rfl (bin_add (by omega) (by omega) (by omega)) ?_
  refine r_move (v := .int .i64 ((i : Nat) + 1)) rfl rfl rfl ?_
  refine r_doneN ?_
  refine x_round ⟨((i + 1), (((fs.getD i default).tag)), (acc ++ fldB (fs.getD i default))), ⟨layF_step hR (by omega) (by omega), by omega, by rw [List.length_append, fldB_len]; omega⟩, by show n - (i + 1) < n - i; omega, ?_⟩
  refine weak_to (n := 2) rfl ?_ (by kernel_rfl) (by kernel_rfl)
  repeat (first | exact trivial | refine ⟨.inl rfl, ?_⟩ | refine ⟨.inr ⟨rfl, rfl⟩, ?_⟩ | refine ⟨.inr ⟨congrArg (Value.int .i64) (by first | omega | (dsimp only; omega)), rfl⟩, ?_⟩)
  refine r_bin (v := .bool false) (vx := .int .i64 (i : Nat)) (vy := .int .i64 (n : Nat)) rfl rfl rfl rfl (lss_f (by omega)) ?_
  refine r_doneN (x_then (c_seq (c_false rfl (c_exit (x_thenE (x_leaveE (x_block rfl (x_then (c_seq (c_reg ?_))))))))))
  refine r_move (v := slv 1 0 acc.length acc.length) rfl rfl rfl ?_
  refine r_assign (v := slv 1 0 acc.length acc.length) rfl rfl rfl ?_
  refine r_assign (v := .int .i64 0) rfl rfl rfl ?_
  refine r_doneN (x_then (c_ret (x_end ?_)))
  rw [show layF fs 0 [] = (acc, 0) from by rw [← hR, List.drop_of_length_le (by omega)]; rfl]
  exact end_map [0, 1] (v := .tuple #[slv 1 0 acc.length acc.length, .int .i64 0]) rfl (by kernel_rfl) rfl rfl (by decide) (by simp [keptB, rowB, rwR, cFd]) ⟨⟨rfl, rfl, rfl, by first | omega | exact Nat.le_refl _ | exact Nat.zero_le _ | (dsimp only; omega), by first | omega | exact Nat.le_refl _ | exact Nat.zero_le _ | (dsimp only; omega)⟩, rfl, trivial⟩
theorem Value_ok (s : ByteArray) : CallL Tryd.prog G 56 [.string s] [] (.tuple #[.int .i64 (valS s).1, .int .i64 (valS s).2]) [] := by
  refine walk (fn := Tryd.f56) (nt := 34) rfl rfl rfl rfl ?_
  refine c_hole 1 (H' := [hole]) rfl ?_
  refine c_seq (c_reg ?_)
  refine r_assign (v := .int .i64 0) rfl rfl rfl ?_
  refine r_assign (v := .int .i64 0) rfl rfl rfl ?_
  refine r_doneN (x_then (c_seq (c_reg ?_)))
  refine r_assign (v := .int .i64 0) rfl rfl rfl ?_
  refine r_doneN (x_then (c_seq (c_block (c_seq (c_seq (c_reg ?_))))))
  refine r_move (v := .string s) rfl rfl rfl ?_
  refine r_len (p := .string s) (v := .int .i64 (s.size : Nat)) rfl rfl rfl rfl ?_
  by_cases h1 : 8 < (s.size : Nat)
  refine r_bin (v := .bool true) (vx := .int .i64 (s.size : Nat)) (vy := .int .i64 8) rfl rfl rfl rfl (gtr_t (by omega)) ?_
  refine r_assign (v := .bool true) rfl rfl rfl ?_
  refine r_doneN (x_then (c_true rfl (c_skip (x_then (c_true rfl (c_seq (c_reg ?_)))))))
  refine r_assign (v := .int .i64 0) rfl rfl rfl ?_
  refine r_assign (v := .int .i64 11) rfl rfl rfl ?_
  refine r_doneN (x_then (c_ret (x_blockR (x_thenR (x_end ?_)))))
  rw [valS_bad (by first | (left; omega) | (right; refine ⟨by omega, ?_⟩; first | assumption | simpa using ‹_›))]
  exact end_same (v := .tuple #[.int .i64 0, .int .i64 11]) rfl rfl rfl (by kernel_rfl) ⟨rfl, rfl, trivial⟩
  refine r_bin (v := .bool false) (vx := .int .i64 (s.size : Nat)) (vy := .int .i64 8) rfl rfl rfl rfl (gtr_f (by omega)) ?_
  refine r_assign (v := .bool false) rfl rfl rfl ?_
  refine r_doneN (x_then (c_false rfl (c_reg ?_)))
  refine r_move (v := .string s) rfl rfl rfl ?_
  rcases Bool.eq_false_or_eq_true (sameT s ⟨#[]⟩) with h2 | h2
  · have hzh2 := sameT_nil_t h2
    refine r_bin (v := .bool false) (vx := .string s) (vy := .string ⟨#[]⟩) rfl rfl rfl rfl (Eq.trans (neq_str _ _) (by rw [h2] <;> rfl)) ?_
    refine r_move (v := .bool false) rfl rfl rfl ?_
    refine r_skip rfl rfl (r_skip rfl rfl (r_skip rfl rfl ?_))
    refine r_pick (v := .bool false) rfl rfl rfl ?_
    refine r_assign (v := .bool false) rfl rfl rfl ?_
    refine r_doneN (x_then (c_false rfl (c_skip (x_blockN (x_then (c_seq (c_seq (c_reg ?_))))))))
    refine r_move (v := .string s) rfl rfl rfl ?_
    refine r_toBytes (p := .string s) (v := slv 0 0 s.size s.size) (blk := rowB (bl s)) (nid := 0) (H' := [rowB (bl s)]) rfl rfl rfl (bytes_of rfl rfl rfl) (by kernel_rfl) ?_
    refine r_len (p := slv 0 0 s.size s.size) (v := .int .i64 (s.size : Nat)) rfl rfl rfl rfl ?_
    refine r_move (v := .int .i64 0) rfl rfl rfl ?_
    refine r_doneN (x_then (c_block ?_))
    refine c_loopN (fun x : Nat × Nat => match x with | (j, v) => [.string s, dead, dead, dead, .int .i64 (v : Nat), dead, dead, .bool false, .string s, .int .i64 (s.size : Nat), .bool false, .string s, .bool false, .bool false, dead, dead, dead, .bool false, .string s, slv 0 0 s.size s.size, .int .i64 (s.size : Nat), .int .i64 (j : Nat)]) (fun x : Nat × Nat => match x with | (j, v) => [rowB (bl s)]) (fun x : Nat × Nat => match x with | (j, v) => valL ((bl s).drop j) v = valL (bl s) 0 ∧ j ≤ s.size ∧ v ≤ 4611686018427387903) (fun x : Nat × Nat => match x with | (j, v) => s.size - j) (0, 0) ⟨rfl, by omega, by omega⟩ ?_ ?_
    · refine weak_to (n := 1) rfl ?_ (by kernel_rfl) (by kernel_rfl)
      repeat (first | exact trivial | refine ⟨.inl rfl, ?_⟩ | refine ⟨.inr ⟨rfl, rfl⟩, ?_⟩ | refine ⟨.inr ⟨congrArg (Value.int .i64) (by first | omega | (dsimp only; omega)), rfl⟩, ?_⟩)
    rintro ⟨j, v⟩ ⟨hR, hj, hv⟩
    dsimp only at *
    refine c_seq (c_reg ?_)
    refine r_bin (v := .bool false) (vx := .int .i64 (j : Nat)) (vy := .int .i64 (s.size : Nat)) rfl rfl rfl rfl (lss_f (by omega)) ?_
    refine r_doneN (x_then (c_seq (c_false rfl (c_exit (x_thenE (x_leaveE (x_block rfl (x_then (c_seq (c_reg ?_))))))))))
    refine r_move (v := .int .i64 (v : Nat)) rfl rfl rfl ?_
    refine r_assign (v := .int .i64 (v : Nat)) rfl rfl rfl ?_
    refine r_assign (v := .int .i64 0) rfl rfl rfl ?_
    refine r_doneN (x_then (c_ret (x_end ?_)))
    rw [valS_ok (by omega) (by first | assumption | (intro; omega)) (R := (v, 0)) (by rw [← hR, List.drop_of_length_le (by rw [bl_len]; omega)]; rfl)]
    exact end_same (v := .tuple #[.int .i64 (v : Nat), .int .i64 0]) rfl rfl rfl (by kernel_rfl) ⟨rfl, rfl, trivial⟩
  have hzh2 := sameT_nil_f h2
  refine r_bin (v := .bool true) (vx := .string s) (vy := .string ⟨#[]⟩) rfl rfl rfl rfl (Eq.trans (neq_str _ _) (by rw [h2] <;> rfl)) ?_
  refine r_move (v := .bool true) rfl rfl rfl ?_
  refine r_move (v := .string s) rfl rfl rfl ?_
  refine r_strIdx (p := .string s) (i := .int .i64 0) (v := w8 ((bl s).getD 0 0)) rfl rfl rfl rfl (strIdx_bl rfl (by omega) (by omega)) ?_
  rcases Bool.eq_false_or_eq_true (((bl s).getD 0 0) == 0#8) with h3 | h3
  refine r_bin (v := .bool true) (vx := w8 ((bl s).getD 0 0)) (vy := w8 (0#8)) rfl rfl rfl rfl (Eq.trans eqlW (by rw [h3] <;> rfl)) ?_
  refine r_pick (v := .bool true) rfl rfl rfl ?_
  refine r_assign (v := .bool true) rfl rfl rfl ?_
  refine r_doneN (x_then (c_true rfl (c_seq (c_reg ?_))))
  refine r_assign (v := .int .i64 0) rfl rfl rfl ?_
  refine r_assign (v := .int .i64 11) rfl rfl rfl ?_
  refine r_doneN (x_then (c_ret (x_blockR (x_thenR (x_end ?_)))))
  rw [valS_bad (by first | (left; omega) | (right; refine ⟨by omega, ?_⟩; first | assumption | simpa using ‹_›))]
  exact end_same (v := .tuple #[.int .i64 0, .int .i64 11]) rfl rfl rfl (by kernel_rfl) ⟨rfl, rfl, trivial⟩
  refine r_bin (v := .bool false) (vx := w8 ((bl s).getD 0 0)) (vy := w8 (0#8)) rfl rfl rfl rfl (Eq.trans eqlW (by rw [h3] <;> rfl)) ?_
  refine r_pick (v := .bool false) rfl rfl rfl ?_
  refine r_assign (v := .bool false) rfl rfl rfl ?_
  refine r_doneN (x_then (c_false rfl (c_skip (x_blockN (x_then (c_seq (c_seq (c_reg ?_))))))))
  refine r_move (v := .string s) rfl rfl rfl ?_
  refine r_toBytes (p := .string s) (v := slv 0 0 s.size s.size) (blk := rowB (bl s)) (nid := 0) (H' := [rowB (bl s)]) rfl rfl rfl (bytes_of rfl rfl rfl) (by kernel_rfl) ?_
  refine r_len (p := slv 0 0 s.size s.size) (v := .int .i64 (s.size : Nat)) rfl rfl rfl rfl ?_
  refine r_move (v := .int .i64 0) rfl rfl rfl ?_
  refine r_doneN (x_then (c_block ?_))
  refine c_loopN (fun x : Nat × Nat => match x with | (j, v) => [.string s, dead, dead, dead, .int .i64 (v : Nat), dead, dead, .bool false, .string s, .int .i64 (s.size : Nat), .bool false, .string s, .bool true, .bool true, .string s, w8 ((bl s).getD 0 0), .bool false, .bool false, .string s, slv 0 0 s.size s.size, .int .i64 (s.size : Nat), .int .i64 (j : Nat)]) (fun x : Nat × Nat => match x with | (j, v) => [rowB (bl s)]) (fun x : Nat × Nat => match x with | (j, v) => valL ((bl s).drop j) v = valL (bl s) 0 ∧ j ≤ s.size ∧ v ≤ 4611686018427387903) (fun x : Nat × Nat => match x with | (j, v) => s.size - j) (0, 0) ⟨rfl, by omega, by omega⟩ ?_ ?_
  · refine weak_to (n := 1) rfl ?_ (by kernel_rfl) (by kernel_rfl)
    repeat (first | exact trivial | refine ⟨.inl rfl, ?_⟩ | refine ⟨.inr ⟨rfl, rfl⟩, ?_⟩ | refine ⟨.inr ⟨congrArg (Value.int .i64) (by first | omega | (dsimp only; omega)), rfl⟩, ?_⟩)
  rintro ⟨j, v⟩ ⟨hR, hj, hv⟩
  dsimp only at *
  refine c_seq (c_reg ?_)
  by_cases h4 : (j : Nat) < (s.size : Nat)
  refine r_bin (v := .bool true) (vx := .int .i64 (j : Nat)) (vy := .int .i64 (s.size : Nat)) rfl rfl rfl rfl (lss_t (by omega)) ?_
  refine r_doneN (x_then (c_seq (c_true rfl (c_skip (x_then (c_seq (c_block (c_seq (c_reg ?_)))))))))
  refine r_idxS (b := 0) (o := 0) (j := j) (m := s.size) (c := s.size) (sz := 1) (i := (j : Nat)) (k := .i64) rfl rfl rfl rfl rfl (by omega) (by omega) (by omega) ?_
  refine r_load (p := pt 0 j) (v := w8 (((bl s)).getD j 0)) rfl rfl rfl (load_byte rfl rfl rfl (by have := (bl_len s); omega)) ?_
  refine r_assign (v := w8 (((bl s)).getD j 0)) rfl rfl rfl ?_
  refine r_doneN (x_then (c_seq (c_seq (c_reg ?_))))
  refine r_move (v := .int .i64 (v : Nat)) rfl rfl rfl ?_
  by_cases h5 : 18014398509481983 < (v : Nat)
  refine r_bin (v := .bool true) (vx := .int .i64 (v : Nat)) (vy := .int .i64 18014398509481983) rfl rfl rfl rfl (gtr_t (by omega)) ?_
  refine r_doneN (x_then (c_true rfl (c_seq (c_reg ?_))))
  refine r_assign (v := .int .i64 0) rfl rfl rfl ?_
  refine r_assign (v := .int .i64 11) rfl rfl rfl ?_
  refine r_doneN (x_then (c_ret (x_thenR (x_blockR (x_thenR (x_leaveR (x_blockR (x_thenR (x_end ?_)))))))))
  rw [valS_ok (by omega) (by first | assumption | (intro; omega)) (R := (0, 11)) (valL_bad hR (by rw [bl_len]; omega) (by omega))]
  exact end_same (v := .tuple #[.int .i64 0, .int .i64 11]) rfl rfl rfl (by kernel_rfl) ⟨rfl, rfl, trivial⟩
  refine r_bin (v := .bool false) (vx := .int .i64 (v : Nat)) (vy := .int .i64 18014398509481983) rfl rfl rfl rfl (gtr_f (by omega)) ?_
  refine r_doneN (x_then (c_false rfl (c_skip (x_then (c_reg ?_)))))
  refine r_move (v := .int .i64 (v : Nat)) rfl rfl rfl ?_
  refine r_bin (v := .int .i64 (256 * (v : Nat))) (vx := .int .i64 (v : Nat)) (vy := .int .u64 8) rfl rfl rfl rfl (shl_p 8 (by omega) (by omega) (by omega) (by omega) (by omega)) ?_
  refine r_move (v := w8 (((bl s)).getD j 0)) rfl rfl rfl ?_
  have hw2 := BitVec.isLt (((bl s)).getD j 0)
  refine r_conv (w := w8 (((bl s)).getD j 0)) (v := .int .i64 ((((((bl s)).getD j 0).toNat) : Nat) : Int)) rfl rfl rfl (convI rfl rfl (by have := (((bl s)).getD j 0).isLt; omega) (by have := (((bl s)).getD j 0).isLt; omega)) ?_
  refine r_bin (v := .int .i64 (256 * (v : Nat) + ((((((bl s)).getD j 0).toNat) : Nat) : Int))) (vx := .int .i64 (256 * (v : Nat))) (vy := .int .i64 ((((((bl s)).getD j 0).toNat) : Nat) : Int)) rfl rfl rfl rfl (or_p 8 v ((((bl s)).getD j 0).toNat) (by omega) (by omega) (by omega) (by omega) (by omega)) ?_
  refine r_assign (v := .int .i64 (256 * (v : Nat) + ((((((bl s)).getD j 0).toNat) : Nat) : Int))) rfl rfl rfl ?_
  refine r_doneN (x_blockN (x_then (c_reg ?_)))
  refine r_bin (v := .int .i64 ((j : Nat) + 1)) (vx := .int .i64 (j : Nat)) (vy := .int .i64 1) rfl rfl rfl rfl (bin_add (by omega) (by omega) (by omega)) ?_
  refine r_move (v := .int .i64 ((j : Nat) + 1)) rfl rfl rfl ?_
  refine r_doneN ?_
  refine x_round ⟨((j + 1), (256 * v + ((((bl s)).getD j 0).toNat))), ⟨valL_step hR (by rw [bl_len]; omega) (by omega) (by omega), by omega, by omega⟩, by show s.size - (j + 1) < s.size - j; omega, ?_⟩
  refine weak_to (n := 1) rfl ?_ (by kernel_rfl) (by kernel_rfl)
  repeat (first | exact trivial | refine ⟨.inl rfl, ?_⟩ | refine ⟨.inr ⟨rfl, rfl⟩, ?_⟩ | refine ⟨.inr ⟨congrArg (Value.int .i64) (by first | omega | (dsimp only; omega)), rfl⟩, ?_⟩)
  refine r_bin (v := .bool false) (vx := .int .i64 (j : Nat)) (vy := .int .i64 (s.size : Nat)) rfl rfl rfl rfl (lss_f (by omega)) ?_
  refine r_doneN (x_then (c_seq (c_false rfl (c_exit (x_thenE (x_leaveE (x_block rfl (x_then (c_seq (c_reg ?_))))))))))
  refine r_move (v := .int .i64 (v : Nat)) rfl rfl rfl ?_
  refine r_assign (v := .int .i64 (v : Nat)) rfl rfl rfl ?_
  refine r_assign (v := .int .i64 0) rfl rfl rfl ?_
  refine r_doneN (x_then (c_ret (x_end ?_)))
  rw [valS_ok (by omega) (by first | assumption | (intro; omega)) (R := (v, 0)) (by rw [← hR, List.drop_of_length_le (by rw [bl_len]; omega)]; rfl)]
  exact end_same (v := .tuple #[.int .i64 (v : Nat), .int .i64 0]) rfl rfl rfl (by kernel_rfl) ⟨rfl, rfl, trivial⟩
end Go.Flat
