/- Walks and plain laws: what each theorem says, within the bounds that it names. -/
import Derived.Test.YthfklplpfbmkgaaDoorH32
set_option linter.unusedVariables false
set_option linter.unusedSimpArgs false
set_option maxRecDepth 20000
namespace Go.Flat
open Go.Proofs
variable {G : Glob}
def readE (l : Bs) (last : Int) (acc : List Field) : List Field × Int := readL (l.length + 1) l last acc
theorem readL_fuel : ∀ (f g : Nat) (l : Bs) (last : Int) (acc : List Field), l.length < f → l.length < g → readL f l last acc = readL g l last acc
  | 0, _, l, _, _, h, _ => absurd h (Nat.not_lt_zero _)
  | _ + 1, 0, l, _, _, _, h => absurd h (Nat.not_lt_zero _)
  | f + 1, g + 1, l, last, acc, h1, h2 => by
    rw [readL, readL]
    by_cases h0 : l.length = 0
    · rw [if_pos h0, if_pos h0]
    · rw [if_neg h0, if_neg h0]
      by_cases he : (getF l l.length).2.2 ≠ 0
      · rw [if_pos he, if_pos he]
      · rw [if_neg he, if_neg he]
        by_cases ht : (getF l l.length).1.tag ≤ last
        · rw [if_pos ht, if_pos ht]
        · rw [if_neg ht, if_neg ht]
          have hp := getF_pos (Decidable.byContradiction fun q => he q)
          exact readL_fuel f g _ _ _ (by rw [List.length_drop]; omega) (by rw [List.length_drop]; omega)
section
variable {l : Bs} {off m : Nat} {last : Int} {acc : List Field} {R : List Field × Int}
theorem readE_len (hm : off + m = l.length) : (l.drop off).length = m := by rw [List.length_drop]; omega
theorem readE_step (hR : readE (l.drop off) last acc = R) (hm : off + m = l.length) (h0 : 0 < m) (he : (getF (l.drop off) m).2.2 = 0) (ht : last < (getF (l.drop off) m).1.tag) : readE (l.drop (off + (getF (l.drop off) m).2.1.toNat)) (getF (l.drop off) m).1.tag (acc ++ [(getF (l.drop off) m).1]) = R := by
  have hl := readE_len hm
  have hp := getF_pos he
  unfold readE at hR ⊢
  rw [readL, hl, if_neg (by omega), if_neg (fun q => q he), if_neg (by omega), List.drop_drop] at hR
  rw [← hR]
  exact readL_fuel _ _ _ _ _ (by omega) (by rw [List.length_drop]; omega)
theorem readE_err (hR : readE (l.drop off) last acc = R) (hm : off + m = l.length) (h0 : 0 < m) (he : (getF (l.drop off) m).2.2 ≠ 0) : R = ([], (getF (l.drop off) m).2.2) := by
  have hl := readE_len hm
  unfold readE at hR
  rw [readL, hl, if_neg (by omega), if_pos he] at hR
  exact hR.symm
theorem readE_tag (hR : readE (l.drop off) last acc = R) (hm : off + m = l.length) (h0 : 0 < m) (he : (getF (l.drop off) m).2.2 = 0) (ht : (getF (l.drop off) m).1.tag ≤ last) : R = ([], 11) := by
  have hl := readE_len hm
  unfold readE at hR
  rw [readL, hl, if_neg (by omega), if_neg (fun q => q he), if_pos ht] at hR
  exact hR.symm
theorem readE_end (hR : readE (l.drop off) last acc = R) (hm : off + m = l.length) (h0 : ¬ 0 < m) : R = (acc, 0) := by
  have hl := readE_len hm
  unfold readE at hR
  rw [readL, hl, if_pos (by omega)] at hR
  exact hR.symm
end
theorem ofL_snd : ∀ (fs : List Field) (i : Nat) (ok : Bool) (acc : List ByteArray), (ofL fs i ok acc).2.length = acc.length + fs.length
  | [], _, _, _ => rfl
  | f :: fs, i, ok, acc => by rw [ofL, ofL_snd fs]; simp; omega
theorem ofL_false : ∀ (fs : List Field) (i : Nat) (acc : List ByteArray), (ofL fs i false acc).1 = false
  | [], _, _ => rfl
  | f :: fs, i, acc => by rw [ofL, Bool.false_and]; exact ofL_false fs _ _
def partsR (l : Bs) (n : Nat) : List ByteArray × Bool := if (ofF l).1 = true ∧ (ofF l).2.length = n then ((ofF l).2, true) else ([], false)
theorem parts_bad {l : Bs} {n : Nat} (h : (readF l).2 ≠ 0 ∨ (readF l).1.length ≠ n) : partsR l n = ([], false) := by
  refine if_neg fun q => ?_
  unfold ofF at q
  rcases h with h | h
  · rw [decide_eq_false h, ofL_false] at q; exact absurd q.1 (by decide)
  · rw [ofL_snd] at q; exact h (by simpa using q.2)
theorem parts_tag {l : Bs} {n i : Nat} {acc : List ByteArray} (hR : ofL ((readF l).1.drop i) i true acc = ofF l) (hi : i < (readF l).1.length) (ht : ((readF l).1.getD i default).tag ≠ (i : Int) + 1) : partsR l n = ([], false) := by
  refine if_neg fun q => ?_
  rw [← hR, drop_getD hi, ofL, Bool.true_and, decide_eq_false ht, ofL_false] at q
  exact absurd q.1 (by decide)
theorem parts_good {l : Bs} {n i : Nat} {acc : List ByteArray} (hR : ofL ((readF l).1.drop i) i true acc = ofF l) (hi : (readF l).1.length ≤ i) (hn : acc.length = n) : partsR l n = (acc, true) := by
  rw [List.drop_of_length_le hi, ofL] at hR
  unfold partsR
  rw [← hR, if_pos ⟨rfl, hn⟩]
theorem rGet_k (l : Bs) (off m d : Nat) (hm : off + m = l.length) (hd : m ≤ d) (hb : l.length ≤ 1099511627776) : CallL Tryd.prog G 68 [slv 0 0 m d] [rdB ((l.drop off).take m)] (.tuple #[fdV (getF (l.drop off) m).1, .int .i64 ((getF (l.drop off) m).2.1.toNat : Nat), .int .i64 (getF (l.drop off) m).2.2]) [rdB ((l.drop off).take m)] := by
  have e : (l.drop off).take m = l.drop off := List.take_of_length_le (by rw [List.length_drop]; omega)
  rw [e]
  have h := rGet_ok (G := G) (l.drop off) m d (by rw [List.length_drop]; omega) hd (by omega)
  rw [show (((getF (l.drop off) m).2.1.toNat : Nat) : Int) = (getF (l.drop off) m).2.1 from by have := getF_nn (l.drop off) m; omega]
  exact h
theorem rRead_ok (l : Bs) (c : Nat) (hc : l.length ≤ c) (hb : l.length ≤ 1099511627776) (hcc : c ≤ 9223372036854775807) : CallL Tryd.prog G 57 [slv 0 0 l.length c] [rdB l] (.tuple #[slv 1 0 (readF l).1.length (readF l).1.length, .int .i64 (readF l).2]) [rdB l, rwB cFd (readF l).1] := by
  refine walk (fn := Tryd.f57) (nt := 35) rfl rfl rfl rfl ?_
  refine c_hole 1 (H' := [rdB l, hole]) rfl ?_
  refine c_seq (c_reg ?_)
  refine r_assign (v := .slice none 0 0) rfl rfl rfl ?_
  refine r_assign (v := .int .i64 0) rfl rfl rfl ?_
  refine r_doneN (x_then (c_seq (c_reg ?_)))
  refine r_assign (v := .slice none 0 0) rfl rfl rfl ?_
  refine r_doneN (x_then (c_seq ?_))
  refine c_weak (Weak.nilTmp (i := 4) (b := 1) true 2 rfl (by decide) rfl) ?_
  refine c_reg ?_
  refine r_assign (v := .int .i64 0) rfl rfl rfl ?_
  refine r_doneN (x_then (c_seq (c_block ?_)))
  refine c_loopN (fun x : Nat × Nat × Nat × Int × Nat × (List Field) => match x with | (off, m, d, last, q, acc) => [slv 0 off m d, dead, dead, dead, slv 1 0 q q, .int .i64 last]) (fun x : Nat × Nat × Nat × Int × Nat × (List Field) => match x with | (off, m, d, last, q, acc) => [rdB l, rwB cFd acc]) (fun x : Nat × Nat × Nat × Int × Nat × (List Field) => match x with | (off, m, d, last, q, acc) => readE (l.drop off) last acc = readF l ∧ acc.length = q ∧ off + m = l.length ∧ m ≤ d ∧ d ≤ c ∧ q ≤ off) (fun x : Nat × Nat × Nat × Int × Nat × (List Field) => match x with | (off, m, d, last, q, acc) => m) (0, l.length, c, 0, 0, []) ⟨rfl, rfl, by omega, by omega, by omega, by omega⟩ ?_ ?_
  · refine weak_to (n := 2) rfl ?_ (by kernel_rfl) (by kernel_rfl)
    repeat (first | exact trivial | refine ⟨.inl rfl, ?_⟩ | refine ⟨.inr ⟨rfl, rfl⟩, ?_⟩ | refine ⟨.inr ⟨congrArg (Value.int .i64) (by first | omega | (dsimp only; omega)), rfl⟩, ?_⟩)
  rintro ⟨off, m, d, last, q, acc⟩ ⟨hR, ha, hm, hd, hdc, hq⟩
  dsimp only at *
  refine c_hole 3 (H' := [rdB l, rwB cFd acc, hole, hole, hole]) rfl ?_
  refine c_seq (c_seq (c_reg ?_))
  refine r_move (v := slv 0 off m d) rfl rfl rfl ?_
  refine r_len (p := slv 0 off m d) (v := .int .i64 (m : Nat)) rfl rfl rfl rfl ?_
  by_cases h1 : 0 < (m : Nat)
  refine r_bin (v := .bool true) (vx := .int .i64 (m : Nat)) (vy := .int .i64 0) rfl rfl rfl rfl (gtr_t (by omega)) ?_
  refine r_doneN (x_then (c_true rfl (c_skip (x_then (c_block (c_seq (c_reg ?_)))))))
  refine r_move (v := slv 0 off m d) rfl rfl rfl ?_
  refine r_callN (e := [some (0, off)]) (nid := 0) (rGet_k (G := G) l off m d (by omega) (by omega) hb) (vals := [slv 0 off m d]) (v := .tuple #[fdV ((getF (l.drop off) m).1), .int .i64 ((((getF (l.drop off) m).2.1.toNat) : Nat) : Int), .int .i64 (((getF (l.drop off) m).2.2))]) (H' := [rdB l, rwB cFd acc, hole, hole, hole]) rfl rfl rfl rfl rfl rfl rfl ⟨⟨⟨rfl, by omega, rfl, by omega, by omega⟩, trivial⟩, ⟨(emb_rdS rfl (.inl rfl) (by omega)), trivial⟩, rfl, rfl, rfl⟩ (by kernel_rfl) (by kernel_rfl) ?_
  refine r_move (v := .tuple #[fdV ((getF (l.drop off) m).1), .int .i64 ((((getF (l.drop off) m).2.1.toNat) : Nat) : Int), .int .i64 (((getF (l.drop off) m).2.2))]) rfl rfl rfl ?_
  refine r_extract (vs := #[fdV ((getF (l.drop off) m).1), .int .i64 ((((getF (l.drop off) m).2.1.toNat) : Nat) : Int), .int .i64 (((getF (l.drop off) m).2.2))]) (v := fdV ((getF (l.drop off) m).1)) rfl rfl rfl rfl ?_
  refine r_extract (vs := #[fdV ((getF (l.drop off) m).1), .int .i64 ((((getF (l.drop off) m).2.1.toNat) : Nat) : Int), .int .i64 (((getF (l.drop off) m).2.2))]) (v := .int .i64 ((((getF (l.drop off) m).2.1.toNat) : Nat) : Int)) rfl rfl rfl rfl ?_
  refine r_extract (vs := #[fdV ((getF (l.drop off) m).1), .int .i64 ((((getF (l.drop off) m).2.1.toNat) : Nat) : Int), .int .i64 (((getF (l.drop off) m).2.2))]) (v := .int .i64 (((getF (l.drop off) m).2.2))) rfl rfl rfl rfl ?_
  refine r_alloc (b := bxB 2 (fdC (⟨0, ⟨#[]⟩⟩ : Field))) (nid := 2) (H' := [rdB l, rwB cFd acc, bxB 2 (fdC (⟨0, ⟨#[]⟩⟩ : Field)), hole, hole]) rfl rfl (by kernel_rfl) (by kernel_rfl) ?_
  refine r_store (p := pt 2 0) (v := fdV ((getF (l.drop off) m).1)) (b := 2) (blk := bxB 2 (fdC ((getF (l.drop off) m).1))) (H' := [rdB l, rwB cFd acc, bxB 2 (fdC ((getF (l.drop off) m).1)), hole, hole]) rfl rfl rfl (by kernel_rfl) (by kernel_rfl) ?_
  refine r_assign (v := .int .i64 ((((getF (l.drop off) m).2.1.toNat) : Nat) : Int)) rfl rfl rfl ?_
  refine r_assign (v := .int .i64 (((getF (l.drop off) m).2.2))) rfl rfl rfl ?_
  refine r_doneN (x_then (c_seq (c_seq (c_reg ?_))))
  refine r_move (v := .int .i64 (((getF (l.drop off) m).2.2))) rfl rfl rfl ?_
  by_cases h2 : (((getF (l.drop off) m).2.2)) ≠ 0
  refine r_bin (v := .bool true) (vx := .int .i64 (((getF (l.drop off) m).2.2))) (vy := .int .i64 0) rfl rfl rfl rfl (neq_t (by omega)) ?_
  refine r_doneN (x_then (c_true rfl (c_seq (c_reg ?_))))
  refine r_move (v := .int .i64 (((getF (l.drop off) m).2.2))) rfl rfl rfl ?_
  refine r_assign (v := .slice none 0 0) rfl rfl rfl ?_
  refine r_assign (v := .int .i64 (((getF (l.drop off) m).2.2))) rfl rfl rfl ?_
  refine r_doneN (x_then ?_)
  refine c_weak (Weak.nilTmp (i := 2) (b := 3) true 2 rfl (by decide) rfl) ?_
  refine c_ret (x_thenR (x_blockR (x_leaveR (x_blockR (x_thenR (x_end ?_))))))
  have hr := readE_err hR hm (by omega) (by omega)
  rw [hr]
  exact end_map [0, 3] (v := .tuple #[slv 3 0 0 0, .int .i64 (((getF (l.drop off) m).2.2))]) rfl (by kernel_rfl) rfl rfl (by decide) (by simp [keptB, rdB, rwB, cFd]) ⟨⟨rfl, rfl, rfl, by first | omega | exact Nat.le_refl _ | exact Nat.zero_le _ | (dsimp only; omega), by first | omega | exact Nat.le_refl _ | exact Nat.zero_le _ | (dsimp only; omega)⟩, rfl, trivial⟩
  refine r_bin (v := .bool false) (vx := .int .i64 (((getF (l.drop off) m).2.2))) (vy := .int .i64 0) rfl rfl rfl rfl (neq_f (by omega)) ?_
  refine r_doneN (x_then (c_false rfl (c_skip (x_then (c_seq (c_seq ?_))))))
  have hgp := getF_pos (l := l.drop off) (n := m) (by omega)
  refine c_reg ?_
  refine r_fieldAddr (b := 2) (o := 0) (n := 0) (o' := 0) rfl rfl rfl rfl rfl ?_
  refine r_load (p := pt 2 0) (v := .int .i64 ((((getF (l.drop off) m).1).tag))) rfl rfl rfl (by kernel_rfl) ?_
  refine r_move (v := .int .i64 last) rfl rfl rfl ?_
  by_cases h3 : ((((getF (l.drop off) m).1).tag)) ≤ last
  refine r_bin (v := .bool true) (vx := .int .i64 ((((getF (l.drop off) m).1).tag))) (vy := .int .i64 last) rfl rfl rfl rfl (leq_t (by omega)) ?_
  refine r_doneN (x_then (c_true rfl (c_seq (c_reg ?_))))
  refine r_assign (v := .slice none 0 0) rfl rfl rfl ?_
  refine r_assign (v := .int .i64 11) rfl rfl rfl ?_
  refine r_doneN (x_then ?_)
  refine c_weak (Weak.nilTmp (i := 2) (b := 3) true 2 rfl (by decide) rfl) ?_
  refine c_ret (x_thenR (x_blockR (x_leaveR (x_blockR (x_thenR (x_end ?_))))))
  have hr := readE_tag hR hm (by omega) (by omega) (by omega)
  rw [hr]
  exact end_map [0, 3] (v := .tuple #[slv 3 0 0 0, .int .i64 11]) rfl (by kernel_rfl) rfl rfl (by decide) (by simp [keptB, rdB, rwB, cFd]) ⟨⟨rfl, rfl, rfl, by first | omega | exact Nat.le_refl _ | exact Nat.zero_le _ | (dsimp only; omega), by first | omega | exact Nat.le_refl _ | exact Nat.zero_le _ | (dsimp only; omega)⟩, rfl, trivial⟩
  refine r_bin (v := .bool false) (vx := .int .i64 ((((getF (l.drop off) m).1).tag))) (vy := .int .i64 last) rfl rfl rfl rfl (leq_f (by omega)) ?_
  refine r_doneN (x_then (c_false rfl (c_skip (x_then (c_seq (c_reg ?_))))))
  refine r_move (v := slv 1 0 q q) rfl rfl rfl ?_
  refine r_load (p := pt 2 0) (v := fdV ((getF (l.drop off) m).1)) rfl rfl rfl (by kernel_rfl) ?_
  refine r_lit (vs := [(0, fdV ((getF (l.drop off) m).1))]) (v := slv 3 0 1 1) (blk := rwB cFd [(getF (l.drop off) m).1]) (nid := 3) (H' := [rdB l, rwB cFd acc, bxB 2 (fdC ((getF (l.drop off) m).1)), rwB cFd [(getF (l.drop off) m).1], hole]) rfl rfl rfl (by kernel_rfl) (by kernel_rfl) ?_
  have hl2 : (acc ++ [(getF (l.drop off) m).1]).length = q + 1 := by have := ha; have := (rfl : _ = 1); first | (rw [List.length_append]; omega) | (simp; omega) | simp
  refine r_append (p := slv 1 0 q q) (q := slv 3 0 1 1) (v := slv 1 0 (q + 1) (q + 1)) (b := 1) (blk := rwB cFd (acc ++ [(getF (l.drop off) m).1])) (H' := [rdB l, rwB cFd (acc ++ [(getF (l.drop off) m).1]), bxB 2 (fdC ((getF (l.drop off) m).1)), rwB cFd [(getF (l.drop off) m).1], hole]) rfl rfl rfl (.inl ⟨_, rfl⟩) rfl rfl (appD_rw cFd (by_ := 24) (k := 1) (n' := q + 1) (ms := [(getF (l.drop off) m).1]) (fun _ => rfl) rfl rfl (by kernel_rfl) rfl rfl (by have := ha; omega) (by omega) (by decide) (by omega)) rfl (by kernel_rfl) ?_
  refine r_assign (v := slv 1 0 (q + 1) (q + 1)) rfl rfl rfl ?_
  refine r_doneN (x_then (c_seq (c_reg ?_)))
  refine r_fieldAddr (b := 2) (o := 0) (n := 0) (o' := 0) rfl rfl rfl rfl rfl ?_
  refine r_load (p := pt 2 0) (v := .int .i64 ((((getF (l.drop off) m).1).tag))) rfl rfl rfl (by kernel_rfl) ?_
  refine r_assign (v := .int .i64 ((((getF (l.drop off) m).1).tag))) rfl rfl rfl ?_
  refine r_doneN (x_then (c_reg ?_))
  refine r_move (v := slv 0 off m d) rfl rfl rfl ?_
  refine r_move (v := .int .i64 ((((getF (l.drop off) m).2.1.toNat) : Nat) : Int)) rfl rfl rfl ?_
  refine r_slice (p := slv 0 off m d) (vl := some (.int .i64 ((((getF (l.drop off) m).2.1.toNat) : Nat) : Int))) (vh := none) (v := slv 0 (off + ((getF (l.drop off) m).2.1.toNat)) (m - ((getF (l.drop off) m).2.1.toNat)) (d - ((getF (l.drop off) m).2.1.toNat))) rfl rfl rfl rfl rfl (slice_lo (sz := 1) (l := ((getF (l.drop off) m).2.1.toNat)) rfl rfl rfl (by omega) (by omega) (by omega) rfl (by omega) (by omega) (by omega)) ?_
  refine r_assign (v := slv 0 (off + ((getF (l.drop off) m).2.1.toNat)) (m - ((getF (l.drop off) m).2.1.toNat)) (d - ((getF (l.drop off) m).2.1.toNat))) rfl rfl rfl ?_
  refine r_doneN (x_blockN ?_)
  refine x_round ⟨((off + ((getF (l.drop off) m).2.1.toNat)), (m - ((getF (l.drop off) m).2.1.toNat)), (d - ((getF (l.drop off) m).2.1.toNat)), ((((getF (l.drop off) m).1).tag)), (q + 1), (acc ++ [(getF (l.drop off) m).1])), ⟨readE_step hR hm (by omega) (by omega) (by omega), by rw [List.length_append, ha]; rfl, by dsimp only; omega, by dsimp only; omega, by dsimp only; omega, by dsimp only; omega⟩, by dsimp only; omega, ?_⟩
  refine weak_to (n := 2) rfl ?_ (by kernel_rfl) (by kernel_rfl)
  repeat (first | exact trivial | refine ⟨.inl rfl, ?_⟩ | refine ⟨.inr ⟨rfl, rfl⟩, ?_⟩ | refine ⟨.inr ⟨congrArg (Value.int .i64) (by first | omega | (dsimp only; omega)), rfl⟩, ?_⟩)
  refine r_bin (v := .bool false) (vx := .int .i64 (m : Nat)) (vy := .int .i64 0) rfl rfl rfl rfl (gtr_f (by omega)) ?_
  refine r_doneN (x_then (c_false rfl (c_exit (x_thenE (x_leaveE (x_block rfl (x_then (c_seq (c_reg ?_)))))))))
  refine r_move (v := slv 1 0 q q) rfl rfl rfl ?_
  refine r_assign (v := slv 1 0 q q) rfl rfl rfl ?_
  refine r_assign (v := .int .i64 0) rfl rfl rfl ?_
  refine r_doneN (x_then (c_ret (x_end ?_)))
  have hr := readE_end hR hm (by omega)
  rw [hr]
  rw [show (acc, (0 : Int)).1.length = q from ha]
  exact end_map [0, 1] (v := .tuple #[slv 1 0 q q, .int .i64 0]) rfl (by kernel_rfl) rfl rfl (by decide) (by simp [keptB, rdB, rwB, cFd]) ⟨⟨rfl, rfl, rfl, by first | omega | exact Nat.le_refl _ | exact Nat.zero_le _ | (dsimp only; omega), by first | omega | exact Nat.le_refl _ | exact Nat.zero_le _ | (dsimp only; omega)⟩, rfl, trivial⟩
end Go.Flat
