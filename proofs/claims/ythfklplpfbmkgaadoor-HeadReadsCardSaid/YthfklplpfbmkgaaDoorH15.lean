/- Walks and plain laws: what each theorem says, within the bounds that it names. -/
import Derived.Test.YthfklplpfbmkgaaDoorH14
set_option linter.unusedVariables false
set_option linter.unusedSimpArgs false
set_option maxRecDepth 20000
namespace Go.Flat
open Go.Proofs
variable {G : Glob}
theorem cntF_le (l : Bs) : ∀ f k, cntF l f k ≤ k + f
  | 0, k => Nat.le_refl _
  | f + 1, k => by
    rw [cntF]
    split
    · omega
    · split
      · omega
      · have := cntF_le l f (k + 1); omega
theorem cnt_bound {l : Bs} {k : Nat} (hk : k < cntN l) (hb : l.length ≤ 1099511627776) : k ≤ 1099511627776 := by
  have := cntF_le l (l.length + 1) 0
  unfold cntN at hk
  omega
theorem fields_ok (l : Bs) (n c : Nat) (hn : l.length = n) (hc : n ≤ c) : CallL Tryd.prog G 67 [slv 0 0 n c] [rdB l] (.func (.func 72) #[] #[pt 1 0]) [rdB l, rfB (slv 0 0 n c)] := by
  refine walk (fn := Tryd.f67) (nt := 4) rfl rfl rfl rfl ?_
  refine c_hole 1 (H' := [rdB l, hole]) rfl ?_
  refine c_seq (c_reg ?_)
  refine r_box (v := slv 0 0 n c) (b := rfB (slv 0 0 n c)) (nid := 1) (H' := [rdB l, rfB (slv 0 0 n c)]) rfl rfl rfl (by kernel_rfl) (by kernel_rfl) ?_
  refine r_assign (v := .nilFunc) rfl rfl rfl ?_
  refine r_doneN (x_then (c_seq (c_reg ?_)))
  refine r_closure (vs := []) (ws := [pt 1 0]) rfl rfl rfl rfl rfl ?_
  refine r_assign (v := .func (.func 72) #[] #[pt 1 0]) rfl rfl rfl ?_
  refine r_doneN (x_then (c_ret (x_end ?_)))
  exact end_map [0, 1] (v := .func (.func 72) #[] #[pt 1 0]) rfl (by kernel_rfl) rfl rfl (by decide) (by simp [keptB, rdB, rfB, okId, okId0]) ⟨by simp [renC, renC0, mapE, idE], by kernel_rfl⟩
theorem Read_ok (l : Bs) (c : Nat) (hc : l.length ≤ c) (hb : l.length ≤ 1099511627776) : CallL Tryd.prog G 55 [slv 0 0 l.length c] [rdB l] (.tuple #[slv 1 0 (readF l).1.length (readF l).1.length, .int .i64 (readF l).2]) [rdB l, rwB cFd (readF l).1] := by
  refine CallL.introM (fn := Tryd.f55) rfl rfl (nt := 30) rfl rfl ?_
  refine cm_seq (cm_run ?_)
  refine cr_hole 6 (H' := [rdB l, hole, hole, hole, hole, hole, hole]) rfl ?_
  refine cr_reg (by kernel_rfl) ?_
  refine r_alloc (b := rfB (.slice none 0 0)) (nid := 1) (H' := [rdB l, rfB (.slice none 0 0), hole, hole, hole, hole, hole]) rfl rfl (by kernel_rfl) (by kernel_rfl) ?_
  refine r_alloc (b := bxB 1 ([.int .i64 0])) (nid := 2) (H' := [rdB l, rfB (.slice none 0 0), bxB 1 ([.int .i64 0]), hole, hole, hole, hole]) rfl rfl (by kernel_rfl) (by kernel_rfl) ?_
  refine r_doneN (x_round (cm_seq (cm_run ?_)))
  refine cr_reg (by kernel_rfl) ?_
  refine r_alloc (b := rfB (.slice none 0 0)) (nid := 3) (H' := [rdB l, rfB (.slice none 0 0), bxB 1 ([.int .i64 0]), rfB (.slice none 0 0), hole, hole, hole]) rfl rfl (by kernel_rfl) (by kernel_rfl) ?_
  refine r_doneN (x_round (cm_seq (cm_run ?_)))
  refine cr_weak (Weak.nilCell (k := 3) (j := 0) (b := 4) true 2 rfl (by decide) rfl (by show 0 < 1; decide) rfl rfl) ?_
  refine cr_reg (by kernel_rfl) ?_
  refine r_alloc (b := bxB 1 ([.int .i64 0])) (nid := 5) (H' := [rdB l, rfB (.slice none 0 0), bxB 1 ([.int .i64 0]), rfB (slv 4 0 0 0), rwB cFd [], bxB 1 ([.int .i64 0]), hole]) rfl rfl (by kernel_rfl) (by kernel_rfl) ?_
  refine r_store (p := pt 5 0) (v := .int .i64 0) (b := 5) (blk := bxB 1 ([.int .i64 0])) (H' := [rdB l, rfB (.slice none 0 0), bxB 1 ([.int .i64 0]), rfB (slv 4 0 0 0), rwB cFd [], bxB 1 ([.int .i64 0]), hole]) rfl rfl rfl (by kernel_rfl) (by kernel_rfl) ?_
  refine r_doneN (x_round (cm_seq (cm_seq (cm_run ?_))))
  refine cr_reg (by kernel_rfl) ?_
  refine r_move (v := slv 0 0 l.length c) rfl rfl rfl ?_
  refine r_callN (e := [some (0, 0)]) (nid := 6) (fields_ok (G := G) l l.length c rfl hc) (vals := [slv 0 0 l.length c]) (v := .func (.func 72) #[] #[pt 6 0]) (H' := [rdB l, rfB (.slice none 0 0), bxB 1 ([.int .i64 0]), rfB (slv 4 0 0 0), rwB cFd [], bxB 1 ([.int .i64 0]), rfB (slv 0 0 l.length c)]) rfl rfl rfl rfl rfl rfl rfl ⟨⟨⟨rfl, rfl, rfl, by omega, by omega⟩, trivial⟩, ⟨(emb_rd rfl), trivial⟩, rfl, rfl, rfl⟩ (by kernel_rfl) (by kernel_rfl) ?_
  refine r_doneN (x_round ?_)
  refine cm_range (lbs := #[pt 6 0]) (iter := fields_iter (G := G) l c hc hb) rfl rfl rfl (fun _ _ => rfl) (by kernel_rfl) ?_ ?_
  · intro lp k hk hks
    have hkb : k ≤ 1099511627776 := cnt_bound hk hb
    refine cr_hole 3 (H' := [rdB l, rfB (.slice none 0 0), bxB 1 ([.int .i64 0]), rfB (slv 4 0 k k), rwB cFd (accK l k), bxB 1 ([.int .i64 ((lastK l k))]), rfB (slv 0 (offK l k) (lenK l k) (capK l c k)), bxB 2 (fdC (fldK l k)), hole, hole, hole]) rfl ?_
    refine cr_seq ?_
    refine cr_reg (by kernel_rfl) ?_
    refine r_alloc (b := bxB 2 (fdC (⟨0, ⟨#[]⟩⟩ : Field))) (nid := 8) (H' := [rdB l, rfB (.slice none 0 0), bxB 1 ([.int .i64 0]), rfB (slv 4 0 k k), rwB cFd (accK l k), bxB 1 ([.int .i64 ((lastK l k))]), rfB (slv 0 (offK l k) (lenK l k) (capK l c k)), bxB 2 (fdC (fldK l k)), bxB 2 (fdC (⟨0, ⟨#[]⟩⟩ : Field)), hole, hole]) rfl rfl (by kernel_rfl) (by kernel_rfl) ?_
    refine r_store (p := pt 8 0) (v := fdV (fldK l k)) (b := 8) (blk := bxB 2 (fdC (fldK l k))) (H' := [rdB l, rfB (.slice none 0 0), bxB 1 ([.int .i64 0]), rfB (slv 4 0 k k), rwB cFd (accK l k), bxB 1 ([.int .i64 ((lastK l k))]), rfB (slv 0 (offK l k) (lenK l k) (capK l c k)), bxB 2 (fdC (fldK l k)), bxB 2 (fdC (fldK l k)), hole, hole]) rfl rfl rfl (by kernel_rfl) (by kernel_rfl) ?_
    refine r_doneN (x_round ?_)
    refine cr_reg (by kernel_rfl) ?_
    refine r_assign (v := .int .i64 ((errK l k))) rfl rfl rfl ?_
    refine r_doneN (x_round (cr_block (cr_seq (cr_seq ?_))))
    refine cr_reg (by kernel_rfl) ?_
    refine r_move (v := .int .i64 ((errK l k))) rfl rfl rfl ?_
    by_cases h1 : ((errK l k)) = 0
    refine r_bin (v := .bool true) (vx := .int .i64 ((errK l k))) (vy := .int .i64 0) rfl rfl rfl rfl (eql_t (by omega)) ?_
    refine r_move (v := .bool true) rfl rfl rfl ?_
    refine r_fieldAddr (b := 8) (o := 0) (n := 0) (o' := 0) rfl rfl rfl rfl rfl ?_
    refine r_load (p := pt 8 0) (v := .int .i64 (((fldK l k).tag))) rfl rfl rfl (by kernel_rfl) ?_
    refine r_load (p := pt 5 0) (v := .int .i64 ((lastK l k))) rfl rfl rfl (by kernel_rfl) ?_
    by_cases h2 : (((fldK l k).tag)) ≤ ((lastK l k))
    refine r_bin (v := .bool true) (vx := .int .i64 (((fldK l k).tag))) (vy := .int .i64 ((lastK l k))) rfl rfl rfl rfl (leq_t (by omega)) ?_
    refine r_pick (v := .bool true) rfl rfl rfl ?_
    refine r_doneN (x_round (cr_true rfl ?_))
    refine cr_reg (by kernel_rfl) ?_
    refine r_assign (v := .int .i64 11) rfl rfl rfl ?_
    refine r_doneN (x_round (cr_seq (cr_seq ?_)))
    refine cr_reg (by kernel_rfl) ?_
    refine r_move (v := .int .i64 11) rfl rfl rfl ?_
    refine r_bin (v := .bool true) (vx := .int .i64 11) (vy := .int .i64 0) rfl rfl rfl rfl (neq_t (by omega)) ?_
    refine r_doneN (x_round (cr_true rfl (cr_seq ?_)))
    refine cr_reg (by kernel_rfl) ?_
    refine r_move (v := .int .i64 11) rfl rfl rfl ?_
    refine r_store (p := pt 1 0) (v := .slice none 0 0) (b := 1) (blk := rfB (.slice none 0 0)) (H' := [rdB l, rfB (.slice none 0 0), bxB 1 ([.int .i64 0]), rfB (slv 4 0 k k), rwB cFd (accK l k), bxB 1 ([.int .i64 ((lastK l k))]), rfB (slv 0 (offK l k) (lenK l k) (capK l c k)), bxB 2 (fdC (fldK l k)), bxB 2 (fdC (fldK l k)), hole, hole]) rfl rfl rfl (by kernel_rfl) (by kernel_rfl) ?_
    refine r_store (p := pt 2 0) (v := .int .i64 11) (b := 2) (blk := bxB 1 ([.int .i64 11])) (H' := [rdB l, rfB (.slice none 0 0), bxB 1 ([.int .i64 11]), rfB (slv 4 0 k k), rwB cFd (accK l k), bxB 1 ([.int .i64 ((lastK l k))]), rfB (slv 0 (offK l k) (lenK l k) (capK l c k)), bxB 2 (fdC (fldK l k)), bxB 2 (fdC (fldK l k)), hole, hole]) rfl rfl rfl (by kernel_rfl) (by kernel_rfl) ?_
    refine r_doneN (x_round ?_)
    refine cr_weak (Weak.nilCell (k := 1) (j := 0) (b := 9) true 2 rfl (by decide) rfl (by show 0 < 1; decide) rfl rfl) ?_
    refine cr_ret (x_leaveR (x_blockR ?_))
    refine ⟨?_⟩
    show ∃ v e, EndOK _ _ _ _ _ _ _ v e
    rw [show readF l = ([], 11) from (read_err hks hk).2 (by omega) (by omega)]
    exact end_map [0, 9] (v := .tuple #[slv 9 0 0 0, .int .i64 11]) (by kernel_rfl) (by kernel_rfl) rfl rfl (by decide) (by simp [keptB, rdB, rwB, cFd]) ⟨⟨rfl, rfl, rfl, by first | omega | exact Nat.le_refl _ | exact Nat.zero_le _ | (dsimp only; omega), by first | omega | exact Nat.le_refl _ | exact Nat.zero_le _ | (dsimp only; omega)⟩, rfl, trivial⟩
    refine r_bin (v := .bool false) (vx := .int .i64 (((fldK l k).tag))) (vy := .int .i64 ((lastK l k))) rfl rfl rfl rfl (leq_f (by omega)) ?_
    refine r_pick (v := .bool false) rfl rfl rfl ?_
    refine r_doneN (x_round (cr_false rfl (cr_skip (x_round (cr_seq (cr_seq ?_))))))
    refine cr_reg (by kernel_rfl) ?_
    refine r_move (v := .int .i64 ((errK l k))) rfl rfl rfl ?_
    refine r_bin (v := .bool false) (vx := .int .i64 ((errK l k))) (vy := .int .i64 0) rfl rfl rfl rfl (neq_f (by omega)) ?_
    refine r_doneN (x_round (cr_false rfl (cr_skip (x_round (cr_seq ?_)))))
    refine cr_reg (by kernel_rfl) ?_
    refine r_load (p := pt 3 0) (v := slv 4 0 k k) rfl rfl rfl rfl ?_
    refine r_load (p := pt 8 0) (v := fdV (fldK l k)) rfl rfl rfl (by kernel_rfl) ?_
    refine r_lit (vs := [(0, fdV (fldK l k))]) (v := slv 9 0 1 1) (blk := rwB cFd [(fldK l k)]) (nid := 9) (H' := [rdB l, rfB (.slice none 0 0), bxB 1 ([.int .i64 0]), rfB (slv 4 0 k k), rwB cFd (accK l k), bxB 1 ([.int .i64 ((lastK l k))]), rfB (slv 0 (offK l k) (lenK l k) (capK l c k)), bxB 2 (fdC (fldK l k)), bxB 2 (fdC (fldK l k)), rwB cFd [(fldK l k)], hole]) rfl rfl rfl (by kernel_rfl) (by kernel_rfl) ?_
    have hl1 : ((accK l k) ++ [(fldK l k)]).length = k + 1 := by have := (accK_len l k); have := (rfl : _ = 1); first | (rw [List.length_append]; omega) | (simp; omega) | simp
    refine r_append (p := slv 4 0 k k) (q := slv 9 0 1 1) (v := slv 4 0 (k + 1) (k + 1)) (b := 4) (blk := rwB cFd ((accK l k) ++ [(fldK l k)])) (H' := [rdB l, rfB (.slice none 0 0), bxB 1 ([.int .i64 0]), rfB (dead), rwB cFd ((accK l k) ++ [(fldK l k)]), bxB 1 ([.int .i64 ((lastK l k))]), rfB (slv 0 (offK l k) (lenK l k) (capK l c k)), bxB 2 (fdC (fldK l k)), bxB 2 (fdC (fldK l k)), rwB cFd [(fldK l k)], hole]) rfl rfl rfl (.inl ⟨_, rfl⟩) rfl rfl (appD_rw cFd (by_ := 24) (k := 1) (n' := k + 1) (ms := [(fldK l k)]) (fun _ => rfl) rfl rfl (by kernel_rfl) rfl rfl (by have := (accK_len l k); omega) (by omega) (by decide) (by omega)) rfl (by kernel_rfl) ?_
    refine r_store (p := pt 3 0) (v := slv 4 0 (k + 1) (k + 1)) (b := 3) (blk := rfB (slv 4 0 (k + 1) (k + 1))) (H' := [rdB l, rfB (.slice none 0 0), bxB 1 ([.int .i64 0]), rfB (slv 4 0 (k + 1) (k + 1)), rwB cFd ((accK l k) ++ [(fldK l k)]), bxB 1 ([.int .i64 ((lastK l k))]), rfB (slv 0 (offK l k) (lenK l k) (capK l c k)), bxB 2 (fdC (fldK l k)), bxB 2 (fdC (fldK l k)), rwB cFd [(fldK l k)], hole]) rfl rfl rfl (by kernel_rfl) (by kernel_rfl) ?_
    refine r_doneN (x_round ?_)
    refine cr_reg (by kernel_rfl) ?_
    refine r_fieldAddr (b := 8) (o := 0) (n := 0) (o' := 0) rfl rfl rfl rfl rfl ?_
    refine r_load (p := pt 8 0) (v := .int .i64 (((fldK l k).tag))) rfl rfl rfl (by kernel_rfl) ?_
    refine r_store (p := pt 5 0) (v := .int .i64 (((fldK l k).tag))) (b := 5) (blk := bxB 1 ([.int .i64 (((fldK l k).tag))])) (H' := [rdB l, rfB (.slice none 0 0), bxB 1 ([.int .i64 0]), rfB (slv 4 0 (k + 1) (k + 1)), rwB cFd ((accK l k) ++ [(fldK l k)]), bxB 1 ([.int .i64 (((fldK l k).tag))]), rfB (slv 0 (offK l k) (lenK l k) (capK l c k)), bxB 2 (fdC (fldK l k)), bxB 2 (fdC (fldK l k)), rwB cFd [(fldK l k)], hole]) rfl rfl rfl (by kernel_rfl) (by kernel_rfl) ?_
    refine r_doneN (x_blockN ?_)
    exact ⟨⟨⟨by omega, by omega⟩, _, weak_to (l := []) (n := 8) rfl trivial (by kernel_rfl) (by kernel_rfl)⟩⟩
    refine r_bin (v := .bool false) (vx := .int .i64 ((errK l k))) (vy := .int .i64 0) rfl rfl rfl rfl (eql_f (by omega)) ?_
    refine r_move (v := .bool false) rfl rfl rfl ?_
    refine r_skip rfl rfl (r_skip rfl rfl (r_skip rfl rfl (r_skip rfl rfl ?_)))
    refine r_pick (v := .bool false) rfl rfl rfl ?_
    refine r_doneN (x_round (cr_false rfl (cr_skip (x_round (cr_seq (cr_seq ?_))))))
    refine cr_reg (by kernel_rfl) ?_
    refine r_move (v := .int .i64 ((errK l k))) rfl rfl rfl ?_
    refine r_bin (v := .bool true) (vx := .int .i64 ((errK l k))) (vy := .int .i64 0) rfl rfl rfl rfl (neq_t (by omega)) ?_
    refine r_doneN (x_round (cr_true rfl (cr_seq ?_)))
    refine cr_reg (by kernel_rfl) ?_
    refine r_move (v := .int .i64 ((errK l k))) rfl rfl rfl ?_
    refine r_store (p := pt 1 0) (v := .slice none 0 0) (b := 1) (blk := rfB (.slice none 0 0)) (H' := [rdB l, rfB (.slice none 0 0), bxB 1 ([.int .i64 0]), rfB (slv 4 0 k k), rwB cFd (accK l k), bxB 1 ([.int .i64 ((lastK l k))]), rfB (slv 0 (offK l k) (lenK l k) (capK l c k)), bxB 2 (fdC (fldK l k)), bxB 2 (fdC (fldK l k)), hole, hole]) rfl rfl rfl (by kernel_rfl) (by kernel_rfl) ?_
    refine r_store (p := pt 2 0) (v := .int .i64 ((errK l k))) (b := 2) (blk := bxB 1 ([.int .i64 ((errK l k))])) (H' := [rdB l, rfB (.slice none 0 0), bxB 1 ([.int .i64 ((errK l k))]), rfB (slv 4 0 k k), rwB cFd (accK l k), bxB 1 ([.int .i64 ((lastK l k))]), rfB (slv 0 (offK l k) (lenK l k) (capK l c k)), bxB 2 (fdC (fldK l k)), bxB 2 (fdC (fldK l k)), hole, hole]) rfl rfl rfl (by kernel_rfl) (by kernel_rfl) ?_
    refine r_doneN (x_round ?_)
    refine cr_weak (Weak.nilCell (k := 1) (j := 0) (b := 9) true 2 rfl (by decide) rfl (by show 0 < 1; decide) rfl rfl) ?_
    refine cr_ret (x_leaveR (x_blockR ?_))
    refine ⟨?_⟩
    show ∃ v e, EndOK _ _ _ _ _ _ _ v e
    rw [show readF l = ([], ((errK l k))) from (read_err hks hk).1 (by omega)]
    exact end_map [0, 9] (v := .tuple #[slv 9 0 0 0, .int .i64 ((errK l k))]) (by kernel_rfl) (by kernel_rfl) rfl rfl (by decide) (by simp [keptB, rdB, rwB, cFd]) ⟨⟨rfl, rfl, rfl, by first | omega | exact Nat.le_refl _ | exact Nat.zero_le _ | (dsimp only; omega), by first | omega | exact Nat.le_refl _ | exact Nat.zero_le _ | (dsimp only; omega)⟩, rfl, trivial⟩
  intro hall
  show CW none _ _ _ _ _ _ _
  refine cr_seq ?_
  refine cr_reg (by kernel_rfl) ?_
  refine r_load (p := pt 3 0) (v := slv 4 0 (cntN l) (cntN l)) rfl rfl rfl rfl ?_
  refine r_store (p := pt 1 0) (v := slv 4 0 (cntN l) (cntN l)) (b := 1) (blk := rfB (slv 4 0 (cntN l) (cntN l))) (H' := [rdB l, rfB (slv 4 0 (cntN l) (cntN l)), bxB 1 ([.int .i64 0]), rfB (slv 4 0 (cntN l) (cntN l)), rwB cFd (accK l (cntN l)), bxB 1 ([.int .i64 ((lastK l (cntN l)))]), rfB (slv 0 (offK l (cntN l)) (lenK l (cntN l)) (capK l c (cntN l)))]) rfl rfl rfl (by kernel_rfl) (by kernel_rfl) ?_
  refine r_store (p := pt 2 0) (v := .int .i64 0) (b := 2) (blk := bxB 1 ([.int .i64 0])) (H' := [rdB l, rfB (slv 4 0 (cntN l) (cntN l)), bxB 1 ([.int .i64 0]), rfB (slv 4 0 (cntN l) (cntN l)), rwB cFd (accK l (cntN l)), bxB 1 ([.int .i64 ((lastK l (cntN l)))]), rfB (slv 0 (offK l (cntN l)) (lenK l (cntN l)) (capK l c (cntN l)))]) rfl rfl rfl (by kernel_rfl) (by kernel_rfl) ?_
  refine r_doneN (x_round (cr_ret (x_leaveR (x_end ?_))))
  rw [show readF l = (accK l (cntN l), 0) from read_end hall]
  rw [show (accK l (cntN l), (0 : Int)).1.length = cntN l from accK_len _ _]
  exact end_map [0, 4] (v := .tuple #[slv 4 0 (cntN l) (cntN l), .int .i64 0]) rfl (by kernel_rfl) rfl rfl (by decide) (by simp [keptB, rdB, rwB, cFd]) ⟨⟨rfl, rfl, rfl, by first | omega | exact Nat.le_refl _ | exact Nat.zero_le _ | (dsimp only; omega), by first | omega | exact Nat.le_refl _ | exact Nat.zero_le _ | (dsimp only; omega)⟩, rfl, trivial⟩
end Go.Flat
