/- Walks and plain laws: what each theorem says, within the bounds that it names. -/
import Derived.Test.YthfklplpfbmkgaaDoorH33
import Derived.Test.YthfklplpfbmkgaaDoorH24
set_option linter.unusedVariables false
set_option linter.unusedSimpArgs false
set_option maxRecDepth 20000
namespace Go.Flat
open Go.Proofs
variable {G : Glob}
theorem parts_len {l : Bs} {n : Nat} (h : (partsR l n).2 = true) : (partsR l n).1.length = n ∧ ofF l = (true, (partsR l n).1) := by
  unfold partsR at h ⊢
  split at h
  · rename_i q; rw [if_pos q]; exact ⟨q.2, Prod.ext q.1 rfl⟩
  · exact absurd h (by decide)
theorem parts_of {l : Bs} {ls : List ByteArray} (h : ofF l = (true, ls)) : partsR l ls.length = (ls, true) := by
  unfold partsR; rw [h]; exact if_pos ⟨rfl, rfl⟩
theorem vR_0 {s : ByteArray} (h : (valS s).2 = 0) : vR s = (valS s).1 := if_neg fun q => q h
theorem vR_pos {s : ByteArray} (h : 0 ≤ vR s) : valS s = (vR s, 0) := by
  unfold vR at h ⊢
  split at h
  · omega
  · rename_i q; rw [if_neg q]; exact Prod.ext rfl (Decidable.byContradiction fun r => q r)
theorem digR_t {s : ByteArray} (h : (digR s).2 = true) : s.size = 32 ∧ (digR s).1 = cpD s := by
  unfold digR at h ⊢
  split at h
  · rename_i q; rw [if_pos q]; exact ⟨q, rfl⟩
  · exact absurd h (by decide)
theorem getH_bad {l : Bs} (h : (getH l).2 ≠ 0) : getH l = (⟨0, 0, 0, dz, 0⟩, 70) := by
  unfold getH at h ⊢
  generalize ofF l = p at h ⊢
  split at h
  · rename_i q1
    rw [if_pos q1]
    split at h
    · rename_i q2; rw [if_pos q2]
    · rename_i q2
      rw [if_neg q2]
      split at h
      · rename_i q3; rw [if_pos q3]
      · exact absurd rfl h
  · rename_i q1; rw [if_neg q1]
def fiveH (ls : List ByteArray) : Head := ⟨vR (ls.getD 0 ⟨#[]⟩), vR (ls.getD 1 ⟨#[]⟩), vR (ls.getD 2 ⟨#[]⟩), (digR (ls.getD 3 ⟨#[]⟩)).1, vR (ls.getD 4 ⟨#[]⟩)⟩
theorem getH_yes {l : Bs} (h1 : (partsR l 5).2 = true) (h2 : (digR ((partsR l 5).1.getD 3 ⟨#[]⟩)).2 = true) (h3 : rightH (fiveH (partsR l 5).1)) : getH l = (fiveH (partsR l 5).1, 0) := by
  obtain ⟨q1, q2⟩ := parts_len h1
  generalize (partsR l 5).1 = ls at *
  match ls, q1 with
  | [a, b, c, d, f], _ =>
    obtain ⟨d1, d2⟩ := digR_t h2
    have h3' := h3
    unfold fiveH at h3 ⊢
    have r1 : 1 ≤ vR a ∧ vR a ≤ 5 := h3.1
    have r2 : 1 ≤ vR b ∧ vR b ≤ 900000000 := h3.2.1
    have r3 : 0 ≤ vR c ∧ vR c ≤ 100000 := h3.2.2.1
    have r4 : 0 ≤ vR f ∧ vR f ≤ 900000000 := h3.2.2.2
    have v0 := vR_pos (s := a) (by omega)
    have v1 := vR_pos (s := b) (by omega)
    have v2 := vR_pos (s := c) (by omega)
    have v4 := vR_pos (s := f) (by omega)
    rw [show (digR ([a, b, c, d, f].getD 3 ⟨#[]⟩)).1 = cpD d from d2]
    exact getH_five q2 v0 v1 v2 d1 v4 (by have e2 : (digR d).1 = cpD d := d2; rw [← e2]; exact h3')
theorem getH_not {l : Bs} (h : (partsR l 5).2 = false ∨ (digR ((partsR l 5).1.getD 3 ⟨#[]⟩)).2 = false ∨ ¬ rightH (fiveH (partsR l 5).1)) : getH l = (⟨0, 0, 0, dz, 0⟩, 70) := by
  refine getH_bad fun e => ?_
  obtain ⟨a, b, c, d, f, h0, h1, h2, h3, h4, h5, h6, h7⟩ := getH_inv e
  have hp := parts_of h0
  rw [show [a, b, c, d, f].length = 5 from rfl] at hp
  rw [hp] at h
  have hd : digR d = (cpD d, true) := if_pos h4
  have e5 : fiveH [a, b, c, d, f] = (getH l).1 := by
    rw [h6]; show Head.mk (vR a) (vR b) (vR c) (digR d).1 (vR f) = _
    rw [vR_0 h1, vR_0 h2, vR_0 h3, vR_0 h5, hd]
  rcases h with h | h | h
  · exact absurd (show true = false from h) (by decide)
  · rw [show ([a, b, c, d, f], true).1.getD 3 ⟨#[]⟩ = d from rfl, hd] at h; exact absurd (show true = false from h) (by decide)
  · exact h (by rw [e5]; exact h7)
theorem rParts_ok (l : Bs) (c n : Nat) (hc : l.length ≤ c) (hb : l.length ≤ 1099511627776) (hcc : c ≤ 9223372036854775807) (hn9 : n ≤ 1000) : CallL Tryd.prog G 41 [slv 0 0 l.length c, .int .i64 (n : Nat)] [rdB l] (.tuple #[slv 1 0 (partsR l n).1.length (partsR l n).1.length, .bool (partsR l n).2]) [rdB l, txB (partsR l n).1] := by
  refine walk (fn := Tryd.f41) (nt := 45) rfl rfl rfl rfl ?_
  refine c_hole 2 (H' := [rdB l, hole, hole]) rfl ?_
  refine c_seq (c_reg ?_)
  refine r_assign (v := .slice none 0 0) rfl rfl rfl ?_
  refine r_assign (v := .bool false) rfl rfl rfl ?_
  refine r_doneN (x_then (c_seq (c_reg ?_)))
  refine r_move (v := slv 0 0 l.length c) rfl rfl rfl ?_
  have hrl := readF_len l
  refine r_callN (e := [some (0, 0)]) (nid := 1) (rRead_ok (G := G) l c hc hb hcc) (vals := [slv 0 0 l.length c]) (v := .tuple #[slv 1 0 ((readF l).1.length) ((readF l).1.length), .int .i64 (((readF l).2))]) (H' := [rdB l, rwB cFd ((readF l).1), hole]) rfl rfl rfl rfl rfl rfl rfl ⟨⟨⟨rfl, rfl, rfl, by omega, by omega⟩, trivial⟩, ⟨(emb_rd rfl), trivial⟩, rfl, rfl, rfl⟩ (by kernel_rfl) (by kernel_rfl) ?_
  refine r_move (v := .tuple #[slv 1 0 ((readF l).1.length) ((readF l).1.length), .int .i64 (((readF l).2))]) rfl rfl rfl ?_
  refine r_extract (vs := #[slv 1 0 ((readF l).1.length) ((readF l).1.length), .int .i64 (((readF l).2))]) (v := slv 1 0 ((readF l).1.length) ((readF l).1.length)) rfl rfl rfl rfl ?_
  refine r_extract (vs := #[slv 1 0 ((readF l).1.length) ((readF l).1.length), .int .i64 (((readF l).2))]) (v := .int .i64 (((readF l).2))) rfl rfl rfl rfl ?_
  refine r_assign (v := slv 1 0 ((readF l).1.length) ((readF l).1.length)) rfl rfl rfl ?_
  refine r_assign (v := .int .i64 (((readF l).2))) rfl rfl rfl ?_
  refine r_doneN (x_then (c_seq (c_seq (c_reg ?_))))
  refine r_move (v := .int .i64 (((readF l).2))) rfl rfl rfl ?_
  by_cases h1 : (((readF l).2)) ≠ 0
  refine r_bin (v := .bool true) (vx := .int .i64 (((readF l).2))) (vy := .int .i64 0) rfl rfl rfl rfl (neq_t (by omega)) ?_
  refine r_move (v := .bool true) rfl rfl rfl ?_
  refine r_skip rfl rfl (r_skip rfl rfl (r_skip rfl rfl (r_skip rfl rfl ?_)))
  refine r_pick (v := .bool true) rfl rfl rfl ?_
  refine r_doneN (x_then (c_true rfl (c_seq (c_reg ?_))))
  refine r_assign (v := .slice none 0 0) rfl rfl rfl ?_
  refine r_assign (v := .bool false) rfl rfl rfl ?_
  refine r_doneN (x_then ?_)
  refine c_weak (Weak.nilTmp (i := 4) (b := 2) true 1 rfl (by decide) rfl) ?_
  refine c_ret (x_thenR (x_end ?_))
  rw [show partsR l n = ([], false) from by first | exact parts_bad (by first | (left; omega) | (right; omega)) | exact parts_tag hR (by omega) (by omega)]
  exact end_map [0, 2] (v := .tuple #[slv 2 0 0 0, .bool false]) rfl (by kernel_rfl) rfl rfl (by decide) (by simp [keptB, rdB, txB]) ⟨⟨rfl, rfl, rfl, by first | omega | exact Nat.le_refl _ | exact Nat.zero_le _ | (dsimp only; omega), by first | omega | exact Nat.le_refl _ | exact Nat.zero_le _ | (dsimp only; omega)⟩, rfl, trivial⟩
  refine r_bin (v := .bool false) (vx := .int .i64 (((readF l).2))) (vy := .int .i64 0) rfl rfl rfl rfl (neq_f (by omega)) ?_
  refine r_move (v := .bool false) rfl rfl rfl ?_
  refine r_move (v := slv 1 0 ((readF l).1.length) ((readF l).1.length)) rfl rfl rfl ?_
  refine r_len (p := slv 1 0 ((readF l).1.length) ((readF l).1.length)) (v := .int .i64 ((((readF l).1.length) : Nat) : Int)) rfl rfl rfl rfl ?_
  refine r_move (v := .int .i64 (n : Nat)) rfl rfl rfl ?_
  by_cases h2 : ((((readF l).1.length) : Nat) : Int) ≠ (n : Nat)
  refine r_bin (v := .bool true) (vx := .int .i64 ((((readF l).1.length) : Nat) : Int)) (vy := .int .i64 (n : Nat)) rfl rfl rfl rfl (neq_t (by omega)) ?_
  refine r_pick (v := .bool true) rfl rfl rfl ?_
  refine r_doneN (x_then (c_true rfl (c_seq (c_reg ?_))))
  refine r_assign (v := .slice none 0 0) rfl rfl rfl ?_
  refine r_assign (v := .bool false) rfl rfl rfl ?_
  refine r_doneN (x_then ?_)
  refine c_weak (Weak.nilTmp (i := 4) (b := 2) true 1 rfl (by decide) rfl) ?_
  refine c_ret (x_thenR (x_end ?_))
  rw [show partsR l n = ([], false) from by first | exact parts_bad (by first | (left; omega) | (right; omega)) | exact parts_tag hR (by omega) (by omega)]
  exact end_map [0, 2] (v := .tuple #[slv 2 0 0 0, .bool false]) rfl (by kernel_rfl) rfl rfl (by decide) (by simp [keptB, rdB, txB]) ⟨⟨rfl, rfl, rfl, by first | omega | exact Nat.le_refl _ | exact Nat.zero_le _ | (dsimp only; omega), by first | omega | exact Nat.le_refl _ | exact Nat.zero_le _ | (dsimp only; omega)⟩, rfl, trivial⟩
  refine r_bin (v := .bool false) (vx := .int .i64 ((((readF l).1.length) : Nat) : Int)) (vy := .int .i64 (n : Nat)) rfl rfl rfl rfl (neq_f (by omega)) ?_
  refine r_pick (v := .bool false) rfl rfl rfl ?_
  refine r_doneN (x_then (c_false rfl (c_skip (x_then (c_seq (c_reg ?_))))))
  refine r_assign (v := .slice none 0 0) rfl rfl rfl ?_
  refine r_doneN (x_then (c_seq (c_seq ?_)))
  refine c_weak (Weak.nilTmp (i := 8) (b := 2) true 1 rfl (by decide) rfl) ?_
  refine c_reg ?_
  refine r_assign (v := .int .i64 0) rfl rfl rfl ?_
  refine r_doneN (x_then (c_block ?_))
  refine c_loopN (fun x : Nat × Nat × (List ByteArray) => match x with | (i, q, acc) => [slv 0 0 l.length c, .int .i64 (n : Nat), dead, dead, dead, dead, slv 1 0 ((readF l).1.length) ((readF l).1.length), .int .i64 (((readF l).2)), slv 2 0 q q, .int .i64 (i : Nat), dead, dead, dead, dead, dead, dead, dead, dead, dead, dead, dead, dead, dead]) (fun x : Nat × Nat × (List ByteArray) => match x with | (i, q, acc) => [rdB l, rwB cFd ((readF l).1), txB acc]) (fun x : Nat × Nat × (List ByteArray) => match x with | (i, q, acc) => ofL ((readF l).1.drop i) i true acc = ofF l ∧ acc.length = q ∧ q = i ∧ i ≤ n) (fun x : Nat × Nat × (List ByteArray) => match x with | (i, q, acc) => n - i) (0, 0, []) ⟨by unfold ofF; rw [decide_eq_true (by omega)]; rfl, rfl, rfl, by omega⟩ ?_ ?_
  · refine weak_to (n := 3) rfl ?_ (by kernel_rfl) (by kernel_rfl)
    repeat (first | exact trivial | refine ⟨.inl rfl, ?_⟩ | refine ⟨.inr ⟨rfl, rfl⟩, ?_⟩ | refine ⟨.inr ⟨congrArg (Value.int .i64) (by first | omega | (dsimp only; omega)), rfl⟩, ?_⟩)
  rintro ⟨i, q, acc⟩ ⟨hR, ha, hq, hi⟩
  dsimp only at *
  refine c_hole 3 (H' := [rdB l, rwB cFd ((readF l).1), txB acc, hole, hole, hole]) rfl ?_
  refine c_seq (c_seq (c_reg ?_))
  refine r_move (v := .int .i64 (i : Nat)) rfl rfl rfl ?_
  refine r_move (v := .int .i64 (n : Nat)) rfl rfl rfl ?_
  by_cases h3 : (i : Nat) < (n : Nat)
  refine r_bin (v := .bool true) (vx := .int .i64 (i : Nat)) (vy := .int .i64 (n : Nat)) rfl rfl rfl rfl (lss_t (by omega)) ?_
  refine r_doneN (x_then (c_true rfl (c_skip (x_then (c_seq (c_block (c_seq (c_seq (c_reg ?_)))))))))
  refine r_move (v := slv 1 0 ((readF l).1.length) ((readF l).1.length)) rfl rfl rfl ?_
  refine r_move (v := .int .i64 (i : Nat)) rfl rfl rfl ?_
  refine r_idxS (b := 1) (o := 0) (j := i * 2) (m := ((readF l).1.length)) (c := ((readF l).1.length)) (sz := 2) (i := (i : Nat)) (k := .i64) rfl rfl rfl rfl rfl (by omega) (by omega) (by omega) ?_
  refine r_fieldAddr (b := 1) (o := i * 2) (n := 0) (o' := i * 2) rfl rfl rfl rfl (by omega) ?_
  refine r_load (p := pt 1 (i * 2)) (v := .int .i64 (((((readF l).1).getD i default).tag))) rfl rfl rfl (load_fld1 cFd (l := (readF l).1) (i := i) (k := 0) (m := 2) rfl rfl rfl rfl (by omega) (by omega) (by kernel_rfl) rfl) ?_
  refine r_move (v := .int .i64 (i : Nat)) rfl rfl rfl ?_
  refine r_bin (v := .int .i64 ((i : Nat) + 1)) (vx := .int .i64 (i : Nat)) (vy := .int .i64 1) rfl rfl rfl rfl (bin_add (by omega) (by omega) (by omega)) ?_
  by_cases h4 : (((((readF l).1).getD i default).tag)) ≠ (i : Nat) + 1
  refine r_bin (v := .bool true) (vx := .int .i64 (((((readF l).1).getD i default).tag))) (vy := .int .i64 ((i : Nat) + 1)) rfl rfl rfl rfl (neq_t (by omega)) ?_
  refine r_doneN (x_then (c_true rfl (c_seq (c_reg ?_))))
  refine r_assign (v := .slice none 0 0) rfl rfl rfl ?_
  refine r_assign (v := .bool false) rfl rfl rfl ?_
  refine r_doneN (x_then ?_)
  refine c_weak (Weak.nilTmp (i := 4) (b := 3) true 1 rfl (by decide) rfl) ?_
  refine c_ret (x_thenR (x_blockR (x_thenR (x_leaveR (x_blockR (x_thenR (x_end ?_)))))))
  rw [show partsR l n = ([], false) from by first | exact parts_bad (by first | (left; omega) | (right; omega)) | exact parts_tag hR (by omega) (by omega)]
  exact end_map [0, 3] (v := .tuple #[slv 3 0 0 0, .bool false]) rfl (by kernel_rfl) rfl rfl (by decide) (by simp [keptB, rdB, txB]) ⟨⟨rfl, rfl, rfl, by first | omega | exact Nat.le_refl _ | exact Nat.zero_le _ | (dsimp only; omega), by first | omega | exact Nat.le_refl _ | exact Nat.zero_le _ | (dsimp only; omega)⟩, rfl, trivial⟩
  refine r_bin (v := .bool false) (vx := .int .i64 (((((readF l).1).getD i default).tag))) (vy := .int .i64 ((i : Nat) + 1)) rfl rfl rfl rfl (neq_f (by omega)) ?_
  refine r_doneN (x_then (c_false rfl (c_skip (x_then (c_reg ?_)))))
  refine r_move (v := slv 2 0 q q) rfl rfl rfl ?_
  refine r_move (v := slv 1 0 ((readF l).1.length) ((readF l).1.length)) rfl rfl rfl ?_
  refine r_move (v := .int .i64 (i : Nat)) rfl rfl rfl ?_
  refine r_idxS (b := 1) (o := 0) (j := i * 2) (m := ((readF l).1.length)) (c := ((readF l).1.length)) (sz := 2) (i := (i : Nat)) (k := .i64) rfl rfl rfl rfl rfl (by omega) (by omega) (by omega) ?_
  refine r_fieldAddr (b := 1) (o := i * 2) (n := 1) (o' := i * 2 + 1) rfl rfl rfl rfl (by omega) ?_
  refine r_load (p := pt 1 (i * 2 + 1)) (v := .string ((((readF l).1).getD i default).data)) rfl rfl rfl (load_fld1 cFd (l := (readF l).1) (i := i) (k := 1) (m := 2) rfl rfl rfl rfl (by omega) (by omega) (by kernel_rfl) rfl) ?_
  refine r_lit (vs := [(0, .string ((((readF l).1).getD i default).data))]) (v := slv 3 0 1 1) (blk := txB [(((readF l).1).getD i default).data]) (nid := 3) (H' := [rdB l, rwB cFd ((readF l).1), txB acc, txB [(((readF l).1).getD i default).data], hole, hole]) rfl rfl rfl (by kernel_rfl) (by kernel_rfl) ?_
  have hl2 : (acc ++ [(((readF l).1).getD i default).data]).length = q + 1 := by have := ha; have := (rfl : _ = 1); first | (rw [List.length_append]; omega) | (simp; omega) | simp
  refine r_append (p := slv 2 0 q q) (q := slv 3 0 1 1) (v := slv 2 0 (q + 1) (q + 1)) (b := 2) (blk := txB (acc ++ [(((readF l).1).getD i default).data])) (H' := [rdB l, rwB cFd ((readF l).1), txB (acc ++ [(((readF l).1).getD i default).data]), txB [(((readF l).1).getD i default).data], hole, hole]) rfl rfl rfl (.inl ⟨_, rfl⟩) rfl rfl (appD_tx (by_ := 16) (k := 1) (n' := q + 1) (ms := [(((readF l).1).getD i default).data]) rfl rfl (by kernel_rfl) rfl (by have := ha; omega) (by omega) (by decide) (by omega)) rfl (by kernel_rfl) ?_
  refine r_assign (v := slv 2 0 (q + 1) (q + 1)) rfl rfl rfl ?_
  refine r_doneN (x_blockN (x_then (c_reg ?_)))
  refine r_move (v := .int .i64 (i : Nat)) rfl rfl rfl ?_
  refine r_bin (v := .int .i64 ((i : Nat) + 1)) (vx := .int .i64 (i : Nat)) (vy := .int .i64 1) rfl rfl rfl rfl (bin_add (by omega) (by omega) (by omega)) ?_
  refine r_assign (v := .int .i64 ((i : Nat) + 1)) rfl rfl rfl ?_
  refine r_doneN ?_
  refine x_round ⟨((i + 1), (q + 1), (acc ++ [(((readF l).1).getD i default).data])), ⟨ofL_step hR (by omega) (by rw [Bool.true_and]; exact decide_eq_true (by omega)), by rw [List.length_append, ha]; rfl, by dsimp only; omega, by dsimp only; omega⟩, by show n - (i + 1) < n - i; omega, ?_⟩
  refine weak_to (n := 3) rfl ?_ (by kernel_rfl) (by kernel_rfl)
  repeat (first | exact trivial | refine ⟨.inl rfl, ?_⟩ | refine ⟨.inr ⟨rfl, rfl⟩, ?_⟩ | refine ⟨.inr ⟨congrArg (Value.int .i64) (by first | omega | (dsimp only; omega)), rfl⟩, ?_⟩)
  refine r_bin (v := .bool false) (vx := .int .i64 (i : Nat)) (vy := .int .i64 (n : Nat)) rfl rfl rfl rfl (lss_f (by omega)) ?_
  refine r_doneN (x_then (c_false rfl (c_exit (x_thenE (x_leaveE (x_block rfl (x_then (c_seq (c_reg ?_)))))))))
  refine r_move (v := slv 2 0 q q) rfl rfl rfl ?_
  refine r_assign (v := slv 2 0 q q) rfl rfl rfl ?_
  refine r_assign (v := .bool true) rfl rfl rfl ?_
  refine r_doneN (x_then (c_ret (x_end ?_)))
  rw [parts_good (n := n) hR (by omega) (by omega)]
  rw [show (acc, true).1.length = q from ha]
  exact end_map [0, 2] (v := .tuple #[slv 2 0 q q, .bool true]) rfl (by kernel_rfl) rfl rfl (by decide) (by simp [keptB, rdB, txB]) ⟨⟨rfl, rfl, rfl, by first | omega | exact Nat.le_refl _ | exact Nat.zero_le _ | (dsimp only; omega), by first | omega | exact Nat.le_refl _ | exact Nat.zero_le _ | (dsimp only; omega)⟩, rfl, trivial⟩
theorem rHGet_ok (l : Bs) (c : Nat) (hc : l.length ≤ c) (hb : l.length ≤ 1099511627776) (hcc : c ≤ 9223372036854775807) : CallL Tryd.prog G 20 [slv 0 0 l.length c] [rdB l] (.tuple #[headV (getH l).1, .int .i64 (getH l).2]) [rdB l] := by
  refine walk (fn := Tryd.f20) (nt := 50) rfl rfl rfl rfl ?_
  refine c_hole 4 (H' := [rdB l, hole, hole, hole, hole]) rfl ?_
  refine c_seq (c_reg ?_)
  refine r_alloc (b := bxB 36 (headC (⟨0, 0, 0, dz, 0⟩ : Head))) (nid := 1) (H' := [rdB l, bxB 36 (headC (⟨0, 0, 0, dz, 0⟩ : Head)), hole, hole, hole]) rfl rfl (by kernel_rfl) (by kernel_rfl) ?_
  refine r_assign (v := .int .i64 0) rfl rfl rfl ?_
  refine r_doneN (x_then (c_seq (c_reg ?_)))
  refine r_move (v := slv 0 0 l.length c) rfl rfl rfl ?_
  refine r_callN (e := [some (0, 0)]) (nid := 2) (rParts_ok (G := G) l c 5 hc hb hcc (by omega)) (vals := [slv 0 0 l.length c, .int .i64 5]) (v := .tuple #[slv 2 0 ((partsR l 5).1.length) ((partsR l 5).1.length), .bool ((partsR l 5).2)]) (H' := [rdB l, bxB 36 (headC (⟨0, 0, 0, dz, 0⟩ : Head)), txB ((partsR l 5).1), hole, hole]) rfl rfl rfl rfl rfl rfl rfl ⟨⟨⟨rfl, rfl, rfl, by omega, by omega⟩, rfl, trivial⟩, ⟨(emb_rd rfl), trivial⟩, rfl, rfl, rfl⟩ (by kernel_rfl) (by kernel_rfl) ?_
  refine r_move (v := .tuple #[slv 2 0 ((partsR l 5).1.length) ((partsR l 5).1.length), .bool ((partsR l 5).2)]) rfl rfl rfl ?_
  refine r_extract (vs := #[slv 2 0 ((partsR l 5).1.length) ((partsR l 5).1.length), .bool ((partsR l 5).2)]) (v := slv 2 0 ((partsR l 5).1.length) ((partsR l 5).1.length)) rfl rfl rfl rfl ?_
  refine r_extract (vs := #[slv 2 0 ((partsR l 5).1.length) ((partsR l 5).1.length), .bool ((partsR l 5).2)]) (v := .bool ((partsR l 5).2)) rfl rfl rfl rfl ?_
  refine r_assign (v := slv 2 0 ((partsR l 5).1.length) ((partsR l 5).1.length)) rfl rfl rfl ?_
  refine r_assign (v := .bool ((partsR l 5).2)) rfl rfl rfl ?_
  refine r_doneN (x_then (c_seq (c_seq (c_reg ?_))))
  refine r_move (v := .bool ((partsR l 5).2)) rfl rfl rfl ?_
  rcases Bool.eq_false_or_eq_true ((partsR l 5).2) with h1 | h1
  refine r_un (v := .bool false) (vx := .bool ((partsR l 5).2)) rfl rfl rfl (Eq.trans un_not (congrArg (fun b => some (Value.bool !b)) h1)) ?_
  refine r_doneN (x_then (c_false rfl (c_skip (x_then (c_seq ?_)))))
  have hp5 := (parts_len (l := l) (n := 5) (by assumption)).1
  refine c_reg ?_
  refine r_move (v := slv 2 0 ((partsR l 5).1.length) ((partsR l 5).1.length)) rfl rfl rfl ?_
  refine r_idxS (b := 2) (o := 0) (j := 3) (m := ((partsR l 5).1.length)) (c := ((partsR l 5).1.length)) (sz := 1) (i := 3) (k := .i64) rfl rfl rfl rfl rfl (by omega) (by omega) (by omega) ?_
  refine r_load (p := pt 2 3) (v := .string (((partsR l 5).1).getD 3 ⟨#[]⟩)) rfl rfl rfl (load_tx rfl rfl rfl (by omega)) ?_
  refine r_callP (rDigest_ok (G := G) (((partsR l 5).1).getD 3 ⟨#[]⟩)) (vals := [.string (((partsR l 5).1).getD 3 ⟨#[]⟩)]) (res' := .tuple #[dgV ((digR (((partsR l 5).1).getD 3 ⟨#[]⟩)).1), .bool ((digR (((partsR l 5).1).getD 3 ⟨#[]⟩)).2)]) rfl rfl rfl rfl rfl (by kernel_rfl) ?_
  refine r_move (v := .tuple #[dgV ((digR (((partsR l 5).1).getD 3 ⟨#[]⟩)).1), .bool ((digR (((partsR l 5).1).getD 3 ⟨#[]⟩)).2)]) rfl rfl rfl ?_
  refine r_extract (vs := #[dgV ((digR (((partsR l 5).1).getD 3 ⟨#[]⟩)).1), .bool ((digR (((partsR l 5).1).getD 3 ⟨#[]⟩)).2)]) (v := dgV ((digR (((partsR l 5).1).getD 3 ⟨#[]⟩)).1)) rfl rfl rfl rfl ?_
  refine r_extract (vs := #[dgV ((digR (((partsR l 5).1).getD 3 ⟨#[]⟩)).1), .bool ((digR (((partsR l 5).1).getD 3 ⟨#[]⟩)).2)]) (v := .bool ((digR (((partsR l 5).1).getD 3 ⟨#[]⟩)).2)) rfl rfl rfl rfl ?_
  refine r_alloc (b := dgB dz) (nid := 3) (H' := [rdB l, bxB 36 (headC (⟨0, 0, 0, dz, 0⟩ : Head)), txB ((partsR l 5).1), dgB dz, hole]) rfl rfl (by kernel_rfl) (by kernel_rfl) ?_
  refine r_store (p := pt 3 0) (v := dgV ((digR (((partsR l 5).1).getD 3 ⟨#[]⟩)).1)) (b := 3) (blk := dgB ((digR (((partsR l 5).1).getD 3 ⟨#[]⟩)).1)) (H' := [rdB l, bxB 36 (headC (⟨0, 0, 0, dz, 0⟩ : Head)), txB ((partsR l 5).1), dgB ((digR (((partsR l 5).1).getD 3 ⟨#[]⟩)).1), hole]) rfl rfl rfl (by kernel_rfl) (by kernel_rfl) ?_
  refine r_assign (v := .bool ((digR (((partsR l 5).1).getD 3 ⟨#[]⟩)).2)) rfl rfl rfl ?_
  refine r_doneN (x_then (c_seq ?_))
  refine c_drawK (by kernel_rfl) ?_
  refine r_move (v := slv 2 0 ((partsR l 5).1.length) ((partsR l 5).1.length)) rfl rfl rfl ?_
  refine r_idxS (b := 2) (o := 0) (j := 0) (m := ((partsR l 5).1.length)) (c := ((partsR l 5).1.length)) (sz := 1) (i := 0) (k := .i64) rfl rfl rfl rfl rfl (by omega) (by omega) (by omega) ?_
  refine r_load (p := pt 2 0) (v := .string (((partsR l 5).1).getD 0 ⟨#[]⟩)) rfl rfl rfl (load_tx rfl rfl rfl (by omega)) ?_
  refine r_callP (rVal_ok (G := G) (((partsR l 5).1).getD 0 ⟨#[]⟩)) (vals := [.string (((partsR l 5).1).getD 0 ⟨#[]⟩)]) (res' := .int .i64 ((vR (((partsR l 5).1).getD 0 ⟨#[]⟩)))) rfl rfl rfl rfl rfl rfl ?_
  refine r_move (v := slv 2 0 ((partsR l 5).1.length) ((partsR l 5).1.length)) rfl rfl rfl ?_
  refine r_idxS (b := 2) (o := 0) (j := 1) (m := ((partsR l 5).1.length)) (c := ((partsR l 5).1.length)) (sz := 1) (i := 1) (k := .i64) rfl rfl rfl rfl rfl (by omega) (by omega) (by omega) ?_
  refine r_load (p := pt 2 1) (v := .string (((partsR l 5).1).getD 1 ⟨#[]⟩)) rfl rfl rfl (load_tx rfl rfl rfl (by omega)) ?_
  refine r_callP (rVal_ok (G := G) (((partsR l 5).1).getD 1 ⟨#[]⟩)) (vals := [.string (((partsR l 5).1).getD 1 ⟨#[]⟩)]) (res' := .int .i64 ((vR (((partsR l 5).1).getD 1 ⟨#[]⟩)))) rfl rfl rfl rfl rfl rfl ?_
  refine r_move (v := slv 2 0 ((partsR l 5).1.length) ((partsR l 5).1.length)) rfl rfl rfl ?_
  refine r_idxS (b := 2) (o := 0) (j := 2) (m := ((partsR l 5).1.length)) (c := ((partsR l 5).1.length)) (sz := 1) (i := 2) (k := .i64) rfl rfl rfl rfl rfl (by omega) (by omega) (by omega) ?_
  refine r_load (p := pt 2 2) (v := .string (((partsR l 5).1).getD 2 ⟨#[]⟩)) rfl rfl rfl (load_tx rfl rfl rfl (by omega)) ?_
  refine r_callP (rVal_ok (G := G) (((partsR l 5).1).getD 2 ⟨#[]⟩)) (vals := [.string (((partsR l 5).1).getD 2 ⟨#[]⟩)]) (res' := .int .i64 ((vR (((partsR l 5).1).getD 2 ⟨#[]⟩)))) rfl rfl rfl rfl rfl rfl ?_
  refine r_load (p := pt 3 0) (v := dgV ((digR (((partsR l 5).1).getD 3 ⟨#[]⟩)).1)) rfl rfl rfl (by kernel_rfl) ?_
  refine r_move (v := slv 2 0 ((partsR l 5).1.length) ((partsR l 5).1.length)) rfl rfl rfl ?_
  refine r_idxS (b := 2) (o := 0) (j := 4) (m := ((partsR l 5).1.length)) (c := ((partsR l 5).1.length)) (sz := 1) (i := 4) (k := .i64) rfl rfl rfl rfl rfl (by omega) (by omega) (by omega) ?_
  refine r_load (p := pt 2 4) (v := .string (((partsR l 5).1).getD 4 ⟨#[]⟩)) rfl rfl rfl (load_tx rfl rfl rfl (by omega)) ?_
  refine r_callP (rVal_ok (G := G) (((partsR l 5).1).getD 4 ⟨#[]⟩)) (vals := [.string (((partsR l 5).1).getD 4 ⟨#[]⟩)]) (res' := .int .i64 ((vR (((partsR l 5).1).getD 4 ⟨#[]⟩)))) rfl rfl rfl rfl rfl rfl ?_
  refine r_build (vs := [(0, .int .i64 ((vR (((partsR l 5).1).getD 0 ⟨#[]⟩)))), (1, .int .i64 ((vR (((partsR l 5).1).getD 1 ⟨#[]⟩)))), (2, .int .i64 ((vR (((partsR l 5).1).getD 2 ⟨#[]⟩)))), (3, dgV ((digR (((partsR l 5).1).getD 3 ⟨#[]⟩)).1)), (4, .int .i64 ((vR (((partsR l 5).1).getD 4 ⟨#[]⟩))))]) (v := headV (⟨((vR (((partsR l 5).1).getD 0 ⟨#[]⟩))), ((vR (((partsR l 5).1).getD 1 ⟨#[]⟩))), ((vR (((partsR l 5).1).getD 2 ⟨#[]⟩))), (digR (((partsR l 5).1).getD 3 ⟨#[]⟩)).1, ((vR (((partsR l 5).1).getD 4 ⟨#[]⟩)))⟩ : Head)) rfl rfl rfl (by kernel_rfl) ?_
  refine r_alloc (b := bxB 36 (headC (⟨0, 0, 0, dz, 0⟩ : Head))) (nid := 4) (H' := [rdB l, bxB 36 (headC (⟨0, 0, 0, dz, 0⟩ : Head)), txB ((partsR l 5).1), dgB ((digR (((partsR l 5).1).getD 3 ⟨#[]⟩)).1), bxB 36 (headC (⟨0, 0, 0, dz, 0⟩ : Head))]) rfl rfl (by kernel_rfl) (by kernel_rfl) ?_
  refine r_store (p := pt 4 0) (v := headV (⟨((vR (((partsR l 5).1).getD 0 ⟨#[]⟩))), ((vR (((partsR l 5).1).getD 1 ⟨#[]⟩))), ((vR (((partsR l 5).1).getD 2 ⟨#[]⟩))), (digR (((partsR l 5).1).getD 3 ⟨#[]⟩)).1, ((vR (((partsR l 5).1).getD 4 ⟨#[]⟩)))⟩ : Head)) (b := 4) (blk := bxB 36 (headC (⟨((vR (((partsR l 5).1).getD 0 ⟨#[]⟩))), ((vR (((partsR l 5).1).getD 1 ⟨#[]⟩))), ((vR (((partsR l 5).1).getD 2 ⟨#[]⟩))), (digR (((partsR l 5).1).getD 3 ⟨#[]⟩)).1, ((vR (((partsR l 5).1).getD 4 ⟨#[]⟩)))⟩ : Head))) (H' := [rdB l, bxB 36 (headC (⟨0, 0, 0, dz, 0⟩ : Head)), txB ((partsR l 5).1), dgB ((digR (((partsR l 5).1).getD 3 ⟨#[]⟩)).1), bxB 36 (headC (⟨((vR (((partsR l 5).1).getD 0 ⟨#[]⟩))), ((vR (((partsR l 5).1).getD 1 ⟨#[]⟩))), ((vR (((partsR l 5).1).getD 2 ⟨#[]⟩))), (digR (((partsR l 5).1).getD 3 ⟨#[]⟩)).1, ((vR (((partsR l 5).1).getD 4 ⟨#[]⟩)))⟩ : Head))]) rfl rfl rfl (by kernel_rfl) (by kernel_rfl) ?_
  refine r_doneK (drawnTK_ok [[], [0], [0, 1], [0, 1, 2], [], [4], [4, 5], [0, 1, 2, 3, 4, 5, 6], [], [8], [8, 9], [0, 1, 2, 3, 4, 5, 6, 7, 8, 9, 10], [], [], [13], [13, 14], [0, 1, 2, 3, 4, 5, 6, 7, 8, 9, 10, 11, 13, 14, 15], [0, 1, 2, 3, 4, 5, 6, 7, 8, 9, 10, 11, 12, 13, 14, 15, 16], [], [0, 1, 2, 3, 4, 5, 6, 7, 8, 9, 10, 11, 12, 13, 14, 15, 16, 17, 18]] (by kernel_rfl) (by kernel_rfl)) ?_
  refine x_then (c_seq (c_seq (c_reg ?_)))
  refine r_move (v := .bool ((digR (((partsR l 5).1).getD 3 ⟨#[]⟩)).2)) rfl rfl rfl ?_
  rcases Bool.eq_false_or_eq_true ((digR (((partsR l 5).1).getD 3 ⟨#[]⟩)).2) with h2 | h2
  refine r_un (v := .bool false) (vx := .bool ((digR (((partsR l 5).1).getD 3 ⟨#[]⟩)).2)) rfl rfl rfl (Eq.trans un_not (congrArg (fun b => some (Value.bool !b)) h2)) ?_
  refine r_move (v := .bool false) rfl rfl rfl ?_
  refine r_load (p := pt 4 0) (v := headV (⟨((vR (((partsR l 5).1).getD 0 ⟨#[]⟩))), ((vR (((partsR l 5).1).getD 1 ⟨#[]⟩))), ((vR (((partsR l 5).1).getD 2 ⟨#[]⟩))), (digR (((partsR l 5).1).getD 3 ⟨#[]⟩)).1, ((vR (((partsR l 5).1).getD 4 ⟨#[]⟩)))⟩ : Head)) rfl rfl rfl (by kernel_rfl) ?_
  refine r_callP (refRight_ok (G := G) (⟨((vR (((partsR l 5).1).getD 0 ⟨#[]⟩))), ((vR (((partsR l 5).1).getD 1 ⟨#[]⟩))), ((vR (((partsR l 5).1).getD 2 ⟨#[]⟩))), (digR (((partsR l 5).1).getD 3 ⟨#[]⟩)).1, ((vR (((partsR l 5).1).getD 4 ⟨#[]⟩)))⟩ : Head)) (vals := [headV (⟨((vR (((partsR l 5).1).getD 0 ⟨#[]⟩))), ((vR (((partsR l 5).1).getD 1 ⟨#[]⟩))), ((vR (((partsR l 5).1).getD 2 ⟨#[]⟩))), (digR (((partsR l 5).1).getD 3 ⟨#[]⟩)).1, ((vR (((partsR l 5).1).getD 4 ⟨#[]⟩)))⟩ : Head)]) (res' := .bool (decide (rightH (⟨((vR (((partsR l 5).1).getD 0 ⟨#[]⟩))), ((vR (((partsR l 5).1).getD 1 ⟨#[]⟩))), ((vR (((partsR l 5).1).getD 2 ⟨#[]⟩))), (digR (((partsR l 5).1).getD 3 ⟨#[]⟩)).1, ((vR (((partsR l 5).1).getD 4 ⟨#[]⟩)))⟩ : Head)))) rfl rfl rfl rfl rfl rfl ?_
  rcases Bool.eq_false_or_eq_true (decide (rightH (⟨((vR (((partsR l 5).1).getD 0 ⟨#[]⟩))), ((vR (((partsR l 5).1).getD 1 ⟨#[]⟩))), ((vR (((partsR l 5).1).getD 2 ⟨#[]⟩))), (digR (((partsR l 5).1).getD 3 ⟨#[]⟩)).1, ((vR (((partsR l 5).1).getD 4 ⟨#[]⟩)))⟩ : Head))) with h3 | h3
  refine r_un (v := .bool false) (vx := .bool (decide (rightH (⟨((vR (((partsR l 5).1).getD 0 ⟨#[]⟩))), ((vR (((partsR l 5).1).getD 1 ⟨#[]⟩))), ((vR (((partsR l 5).1).getD 2 ⟨#[]⟩))), (digR (((partsR l 5).1).getD 3 ⟨#[]⟩)).1, ((vR (((partsR l 5).1).getD 4 ⟨#[]⟩)))⟩ : Head)))) rfl rfl rfl (Eq.trans un_not (congrArg (fun b => some (Value.bool !b)) h3)) ?_
  refine r_pick (v := .bool false) rfl rfl rfl ?_
  refine r_doneN (x_then (c_false rfl (c_skip (x_then (c_seq (c_reg ?_))))))
  refine r_load (p := pt 4 0) (v := headV (⟨((vR (((partsR l 5).1).getD 0 ⟨#[]⟩))), ((vR (((partsR l 5).1).getD 1 ⟨#[]⟩))), ((vR (((partsR l 5).1).getD 2 ⟨#[]⟩))), (digR (((partsR l 5).1).getD 3 ⟨#[]⟩)).1, ((vR (((partsR l 5).1).getD 4 ⟨#[]⟩)))⟩ : Head)) rfl rfl rfl (by kernel_rfl) ?_
  refine r_store (p := pt 1 0) (v := headV (⟨((vR (((partsR l 5).1).getD 0 ⟨#[]⟩))), ((vR (((partsR l 5).1).getD 1 ⟨#[]⟩))), ((vR (((partsR l 5).1).getD 2 ⟨#[]⟩))), (digR (((partsR l 5).1).getD 3 ⟨#[]⟩)).1, ((vR (((partsR l 5).1).getD 4 ⟨#[]⟩)))⟩ : Head)) (b := 1) (blk := bxB 36 (headC (⟨((vR (((partsR l 5).1).getD 0 ⟨#[]⟩))), ((vR (((partsR l 5).1).getD 1 ⟨#[]⟩))), ((vR (((partsR l 5).1).getD 2 ⟨#[]⟩))), (digR (((partsR l 5).1).getD 3 ⟨#[]⟩)).1, ((vR (((partsR l 5).1).getD 4 ⟨#[]⟩)))⟩ : Head))) (H' := [rdB l, bxB 36 (headC (⟨((vR (((partsR l 5).1).getD 0 ⟨#[]⟩))), ((vR (((partsR l 5).1).getD 1 ⟨#[]⟩))), ((vR (((partsR l 5).1).getD 2 ⟨#[]⟩))), (digR (((partsR l 5).1).getD 3 ⟨#[]⟩)).1, ((vR (((partsR l 5).1).getD 4 ⟨#[]⟩)))⟩ : Head)), txB ((partsR l 5).1), dgB ((digR (((partsR l 5).1).getD 3 ⟨#[]⟩)).1), bxB 36 (headC (⟨((vR (((partsR l 5).1).getD 0 ⟨#[]⟩))), ((vR (((partsR l 5).1).getD 1 ⟨#[]⟩))), ((vR (((partsR l 5).1).getD 2 ⟨#[]⟩))), (digR (((partsR l 5).1).getD 3 ⟨#[]⟩)).1, ((vR (((partsR l 5).1).getD 4 ⟨#[]⟩)))⟩ : Head))]) rfl rfl rfl (by kernel_rfl) (by kernel_rfl) ?_
  refine r_assign (v := .int .i64 0) rfl rfl rfl ?_
  refine r_doneN (x_then (c_ret (x_end ?_)))
  rw [getH_yes (l := l) (by assumption) (by assumption) (of_decide_eq_true (by assumption))]
  exact end_same (v := .tuple #[headV (⟨((vR (((partsR l 5).1).getD 0 ⟨#[]⟩))), ((vR (((partsR l 5).1).getD 1 ⟨#[]⟩))), ((vR (((partsR l 5).1).getD 2 ⟨#[]⟩))), (digR (((partsR l 5).1).getD 3 ⟨#[]⟩)).1, ((vR (((partsR l 5).1).getD 4 ⟨#[]⟩)))⟩ : Head), .int .i64 0]) (by kernel_rfl) rfl rfl (by simp [keptB, rdB]) ⟨(argV_p (by kernel_rfl) rfl), rfl, trivial⟩
  refine r_un (v := .bool true) (vx := .bool (decide (rightH (⟨((vR (((partsR l 5).1).getD 0 ⟨#[]⟩))), ((vR (((partsR l 5).1).getD 1 ⟨#[]⟩))), ((vR (((partsR l 5).1).getD 2 ⟨#[]⟩))), (digR (((partsR l 5).1).getD 3 ⟨#[]⟩)).1, ((vR (((partsR l 5).1).getD 4 ⟨#[]⟩)))⟩ : Head)))) rfl rfl rfl (Eq.trans un_not (congrArg (fun b => some (Value.bool !b)) h3)) ?_
  refine r_pick (v := .bool true) rfl rfl rfl ?_
  refine r_doneN (x_then (c_true rfl (c_seq (c_reg ?_))))
  refine r_build (vs := []) (v := headV (⟨0, 0, 0, dz, 0⟩ : Head)) rfl rfl rfl (by kernel_rfl) ?_
  refine r_store (p := pt 1 0) (v := headV (⟨0, 0, 0, dz, 0⟩ : Head)) (b := 1) (blk := bxB 36 (headC (⟨0, 0, 0, dz, 0⟩ : Head))) (H' := [rdB l, bxB 36 (headC (⟨0, 0, 0, dz, 0⟩ : Head)), txB ((partsR l 5).1), dgB ((digR (((partsR l 5).1).getD 3 ⟨#[]⟩)).1), bxB 36 (headC (⟨((vR (((partsR l 5).1).getD 0 ⟨#[]⟩))), ((vR (((partsR l 5).1).getD 1 ⟨#[]⟩))), ((vR (((partsR l 5).1).getD 2 ⟨#[]⟩))), (digR (((partsR l 5).1).getD 3 ⟨#[]⟩)).1, ((vR (((partsR l 5).1).getD 4 ⟨#[]⟩)))⟩ : Head))]) rfl rfl rfl (by kernel_rfl) (by kernel_rfl) ?_
  refine r_assign (v := .int .i64 70) rfl rfl rfl ?_
  refine r_doneN (x_then (c_ret (x_thenR (x_end ?_))))
  rw [show getH l = (⟨0, 0, 0, dz, 0⟩, 70) from by first | exact getH_not (.inl (by assumption)) | exact getH_not (.inr (.inl (by assumption))) | exact getH_not (.inr (.inr (of_decide_eq_false (by assumption))))]
  exact end_same (v := .tuple #[headV (⟨0, 0, 0, dz, 0⟩ : Head), .int .i64 70]) (by kernel_rfl) rfl rfl (by simp [keptB, rdB]) ⟨(argV_p (by kernel_rfl) rfl), rfl, trivial⟩
  refine r_un (v := .bool true) (vx := .bool ((digR (((partsR l 5).1).getD 3 ⟨#[]⟩)).2)) rfl rfl rfl (Eq.trans un_not (congrArg (fun b => some (Value.bool !b)) h2)) ?_
  refine r_move (v := .bool true) rfl rfl rfl ?_
  refine r_skip rfl rfl (r_skip rfl rfl (r_skip rfl rfl ?_))
  refine r_pick (v := .bool true) rfl rfl rfl ?_
  refine r_doneN (x_then (c_true rfl (c_seq (c_reg ?_))))
  refine r_build (vs := []) (v := headV (⟨0, 0, 0, dz, 0⟩ : Head)) rfl rfl rfl (by kernel_rfl) ?_
  refine r_store (p := pt 1 0) (v := headV (⟨0, 0, 0, dz, 0⟩ : Head)) (b := 1) (blk := bxB 36 (headC (⟨0, 0, 0, dz, 0⟩ : Head))) (H' := [rdB l, bxB 36 (headC (⟨0, 0, 0, dz, 0⟩ : Head)), txB ((partsR l 5).1), dgB ((digR (((partsR l 5).1).getD 3 ⟨#[]⟩)).1), bxB 36 (headC (⟨((vR (((partsR l 5).1).getD 0 ⟨#[]⟩))), ((vR (((partsR l 5).1).getD 1 ⟨#[]⟩))), ((vR (((partsR l 5).1).getD 2 ⟨#[]⟩))), (digR (((partsR l 5).1).getD 3 ⟨#[]⟩)).1, ((vR (((partsR l 5).1).getD 4 ⟨#[]⟩)))⟩ : Head))]) rfl rfl rfl (by kernel_rfl) (by kernel_rfl) ?_
  refine r_assign (v := .int .i64 70) rfl rfl rfl ?_
  refine r_doneN (x_then (c_ret (x_thenR (x_end ?_))))
  rw [show getH l = (⟨0, 0, 0, dz, 0⟩, 70) from by first | exact getH_not (.inl (by assumption)) | exact getH_not (.inr (.inl (by assumption))) | exact getH_not (.inr (.inr (of_decide_eq_false (by assumption))))]
  exact end_same (v := .tuple #[headV (⟨0, 0, 0, dz, 0⟩ : Head), .int .i64 70]) (by kernel_rfl) rfl rfl (by simp [keptB, rdB]) ⟨(argV_p (by kernel_rfl) rfl), rfl, trivial⟩
  refine r_un (v := .bool true) (vx := .bool ((partsR l 5).2)) rfl rfl rfl (Eq.trans un_not (congrArg (fun b => some (Value.bool !b)) h1)) ?_
  refine r_doneN (x_then (c_true rfl (c_seq (c_reg ?_))))
  refine r_build (vs := []) (v := headV (⟨0, 0, 0, dz, 0⟩ : Head)) rfl rfl rfl (by kernel_rfl) ?_
  refine r_store (p := pt 1 0) (v := headV (⟨0, 0, 0, dz, 0⟩ : Head)) (b := 1) (blk := bxB 36 (headC (⟨0, 0, 0, dz, 0⟩ : Head))) (H' := [rdB l, bxB 36 (headC (⟨0, 0, 0, dz, 0⟩ : Head)), txB ((partsR l 5).1), hole, hole]) rfl rfl rfl (by kernel_rfl) (by kernel_rfl) ?_
  refine r_assign (v := .int .i64 70) rfl rfl rfl ?_
  refine r_doneN (x_then (c_ret (x_thenR (x_end ?_))))
  rw [show getH l = (⟨0, 0, 0, dz, 0⟩, 70) from by first | exact getH_not (.inl (by assumption)) | exact getH_not (.inr (.inl (by assumption))) | exact getH_not (.inr (.inr (of_decide_eq_false (by assumption))))]
  exact end_same (v := .tuple #[headV (⟨0, 0, 0, dz, 0⟩ : Head), .int .i64 70]) (by kernel_rfl) rfl rfl (by simp [keptB, rdB]) ⟨(argV_p (by kernel_rfl) rfl), rfl, trivial⟩
end Go.Flat
