/- Walks and plain laws: what each theorem says, within the bounds that it names. -/
import Derived.Test.YtnifcpffloojcaaDoorR2
set_option linter.unusedVariables false
set_option linter.unusedSimpArgs false
set_option maxRecDepth 20000
namespace Go.Flat
open Go.Proofs
variable {G : Glob}
theorem HistoryFirst_ok (kk : Nat → BitVec 32) (hG : G 3 = some (rowE w32 64 kk)) (hG1 : G 1 = some (rowE u8N 64 dbF)) (l : List Item) (c : Nat) (hl : l.length ≤ c) (hcc : c ≤ 9223372036854775807) (m n i : Int) : CallL Tryd.prog G 6 [slv 0 0 l.length c, .int .i64 m, .int .i64 n, .int .i64 i] [rwR cItem l] (.bool true) [rwR cItem l] := by
  refine walk (fn := Tryd.f6) (nt := 119) rfl rfl rfl rfl ?_
  refine c_hole 6 (H' := [rwR cItem l, hole, hole, hole, hole, hole, hole]) rfl ?_
  refine c_seq (c_reg ?_)
  refine r_assign (v := .bool false) rfl rfl rfl ?_
  refine r_doneN (x_then (c_seq (c_seq (c_reg ?_))))
  refine r_move (v := slv 0 0 l.length c) rfl rfl rfl ?_
  refine r_callN (e := [some (0, 0)]) (nid := 0) (refBig_ok (G := G) l l.length c rfl (by omega) (by omega)) (vals := [slv 0 0 l.length c]) (v := .bool (bigB l)) (H' := [rwR cItem l, hole, hole, hole, hole, hole, hole]) rfl rfl rfl rfl rfl rfl rfl ⟨⟨⟨rfl, rfl, rfl, by first | omega | exact Nat.le_refl _, by first | omega | exact Nat.le_refl _⟩, trivial⟩, ⟨(emb_rwR rfl), trivial⟩, rfl, rfl, rfl⟩ rfl (by kernel_rfl) ?_
  refine r_move (v := .bool (bigB l)) rfl rfl rfl ?_
  rcases Bool.eq_false_or_eq_true (bigB l) with h1 | h1
  refine r_skip (by exact congrArg (fun b => some (b == false)) h1) rfl ?_
  refine r_skip (by exact congrArg (fun b => some (b == false)) h1) rfl ?_
  refine r_pick (v := .bool true) rfl rfl (by show some (if _ then _ else _) = _; rw [h1] <;> rfl) ?_
  refine r_move (v := .bool true) rfl rfl rfl ?_
  refine r_skip rfl rfl ?_
  refine r_skip rfl rfl ?_
  refine r_skip rfl rfl ?_
  refine r_skip rfl rfl ?_
  refine r_pick (v := .bool true) rfl rfl rfl ?_
  refine r_move (v := .bool true) rfl rfl rfl ?_
  refine r_skip rfl rfl ?_
  refine r_skip rfl rfl ?_
  refine r_skip rfl rfl ?_
  refine r_pick (v := .bool true) rfl rfl rfl ?_
  refine r_doneN (x_then ?_)
  refine c_true rfl ?_
  refine c_seq (c_reg ?_)
  refine r_callP (finds_ok (G := G)) (vals := []) (res' := .bool true) rfl rfl rfl rfl rfl rfl ?_
  refine r_assign (v := .bool true) rfl rfl rfl ?_
  refine r_doneN (x_then (c_ret (x_thenR (x_end ?_))))
  exact end_map [0] (v := .bool true) rfl (by kernel_rfl) rfl rfl (by decide) (by simp [keptB, rwR, cItem]) rfl
  refine r_move (v := .int .i64 n) (by exact congrArg (fun b => some (b == false)) h1) rfl rfl ?_
  by_cases h2 : n < 0
  refine r_bin (v := .bool true) (vx := .int .i64 n) (vy := .int .i64 0) (by exact congrArg (fun b => some (b == false)) h1) rfl rfl rfl (lss_t (by omega)) ?_
  refine r_pick (v := .bool true) rfl rfl (by show some (if _ then _ else _) = _; rw [h1] <;> rfl) ?_
  refine r_move (v := .bool true) rfl rfl rfl ?_
  refine r_skip rfl rfl ?_
  refine r_skip rfl rfl ?_
  refine r_skip rfl rfl ?_
  refine r_skip rfl rfl ?_
  refine r_pick (v := .bool true) rfl rfl rfl ?_
  refine r_move (v := .bool true) rfl rfl rfl ?_
  refine r_skip rfl rfl ?_
  refine r_skip rfl rfl ?_
  refine r_skip rfl rfl ?_
  refine r_pick (v := .bool true) rfl rfl rfl ?_
  refine r_doneN (x_then ?_)
  refine c_true rfl ?_
  refine c_seq (c_reg ?_)
  refine r_callP (finds_ok (G := G)) (vals := []) (res' := .bool true) rfl rfl rfl rfl rfl rfl ?_
  refine r_assign (v := .bool true) rfl rfl rfl ?_
  refine r_doneN (x_then (c_ret (x_thenR (x_end ?_))))
  exact end_map [0] (v := .bool true) rfl (by kernel_rfl) rfl rfl (by decide) (by simp [keptB, rwR, cItem]) rfl
  refine r_bin (v := .bool false) (vx := .int .i64 n) (vy := .int .i64 0) (by exact congrArg (fun b => some (b == false)) h1) rfl rfl rfl (lss_f (by omega)) ?_
  refine r_pick (v := .bool false) rfl rfl (by show some (if _ then _ else _) = _; rw [h1] <;> rfl) ?_
  refine r_move (v := .bool false) rfl rfl rfl ?_
  refine r_move (v := .int .i64 n) rfl rfl rfl ?_
  refine r_move (v := slv 0 0 l.length c) rfl rfl rfl ?_
  refine r_len (p := slv 0 0 l.length c) (v := .int .i64 (l.length : Nat)) rfl rfl rfl rfl ?_
  by_cases h3 : (l.length : Nat) < n
  refine r_bin (v := .bool true) (vx := .int .i64 n) (vy := .int .i64 (l.length : Nat)) rfl rfl rfl rfl (gtr_t (by omega)) ?_
  refine r_pick (v := .bool true) rfl rfl rfl ?_
  refine r_move (v := .bool true) rfl rfl rfl ?_
  refine r_skip rfl rfl ?_
  refine r_skip rfl rfl ?_
  refine r_skip rfl rfl ?_
  refine r_pick (v := .bool true) rfl rfl rfl ?_
  refine r_doneN (x_then ?_)
  refine c_true rfl ?_
  refine c_seq (c_reg ?_)
  refine r_callP (finds_ok (G := G)) (vals := []) (res' := .bool true) rfl rfl rfl rfl rfl rfl ?_
  refine r_assign (v := .bool true) rfl rfl rfl ?_
  refine r_doneN (x_then (c_ret (x_thenR (x_end ?_))))
  exact end_map [0] (v := .bool true) rfl (by kernel_rfl) rfl rfl (by decide) (by simp [keptB, rwR, cItem]) rfl
  refine r_bin (v := .bool false) (vx := .int .i64 n) (vy := .int .i64 (l.length : Nat)) rfl rfl rfl rfl (gtr_f (by omega)) ?_
  refine r_pick (v := .bool false) rfl rfl rfl ?_
  refine r_move (v := .bool false) rfl rfl rfl ?_
  refine r_move (v := slv 0 0 l.length c) rfl rfl rfl ?_
  have hn60' : l.length ≤ 60 := bigB_len (by assumption)
  refine r_callN (e := [some (0, 0)]) (nid := 0) (LCheck_ok (G := G) l l.length c rfl (by omega) (by omega)) (vals := [slv 0 0 l.length c]) (v := .int .i64 ((chkL l))) (H' := [rwR cItem l, hole, hole, hole, hole, hole, hole]) rfl rfl rfl rfl rfl rfl rfl ⟨⟨⟨rfl, rfl, rfl, by first | omega | exact Nat.le_refl _, by first | omega | exact Nat.le_refl _⟩, trivial⟩, ⟨(emb_rwR rfl), trivial⟩, rfl, rfl, rfl⟩ rfl (by kernel_rfl) ?_
  by_cases h4 : ((chkL l)) ≠ 0
  refine r_bin (v := .bool true) (vx := .int .i64 ((chkL l))) (vy := .int .i64 0) rfl rfl rfl rfl (neq_t (by omega)) ?_
  refine r_pick (v := .bool true) rfl rfl rfl ?_
  refine r_doneN (x_then ?_)
  refine c_true rfl ?_
  refine c_seq (c_reg ?_)
  refine r_callP (finds_ok (G := G)) (vals := []) (res' := .bool true) rfl rfl rfl rfl rfl rfl ?_
  refine r_assign (v := .bool true) rfl rfl rfl ?_
  refine r_doneN (x_then (c_ret (x_thenR (x_end ?_))))
  exact end_map [0] (v := .bool true) rfl (by kernel_rfl) rfl rfl (by decide) (by simp [keptB, rwR, cItem]) rfl
  refine r_bin (v := .bool false) (vx := .int .i64 ((chkL l))) (vy := .int .i64 0) rfl rfl rfl rfl (neq_f (by omega)) ?_
  refine r_pick (v := .bool false) rfl rfl rfl ?_
  refine r_doneN (x_then ?_)
  refine c_false rfl ?_
  refine c_skip (x_then (c_seq ?_))
  have hn60 : l.length ≤ 60 := bigB_len (by assumption)
  have hck : rightL l := chkL_pos (by omega)
  obtain ⟨q, rfl⟩ : ∃ x0 : Nat, n = (x0 : Int) := ⟨n.toNat, by omega⟩
  refine c_reg ?_
  refine r_move (v := slv 0 0 l.length c) rfl rfl rfl ?_
  refine r_move (v := .int .i64 (q : Nat)) rfl rfl rfl ?_
  refine r_callN (e := [some (0, 0)]) (nid := 0) (hroot_c (G := G) kk hG hG1 l l.length c rfl (by omega) (by omega) (q : Nat) (rt_full hck (by omega))) (vals := [slv 0 0 l.length c, .int .i64 (q : Nat)]) (v := .tuple #[dgV ((rootH kk l (q : Nat)).1), .int .i64 0]) (H' := [rwR cItem l, hole, hole, hole, hole, hole, hole]) rfl rfl rfl rfl rfl rfl rfl ⟨⟨⟨rfl, rfl, rfl, by first | omega | exact Nat.le_refl _, by first | omega | exact Nat.le_refl _⟩, rfl, trivial⟩, ⟨(emb_rwR rfl), trivial⟩, rfl, rfl, rfl⟩ (by kernel_rfl) (by kernel_rfl) ?_
  refine r_move (v := .tuple #[dgV ((rootH kk l (q : Nat)).1), .int .i64 0]) rfl rfl rfl ?_
  refine r_extract (vs := #[dgV ((rootH kk l (q : Nat)).1), .int .i64 0]) (v := dgV ((rootH kk l (q : Nat)).1)) rfl rfl rfl rfl ?_
  refine r_extract (vs := #[dgV ((rootH kk l (q : Nat)).1), .int .i64 0]) (v := .int .i64 0) rfl rfl rfl rfl ?_
  refine r_alloc (b := dgB dz) (nid := 1) (H' := [rwR cItem l, dgB dz, hole, hole, hole, hole, hole]) rfl rfl (by kernel_rfl) (by kernel_rfl) ?_
  refine r_store (p := pt 1 0) (v := dgV ((rootH kk l (q : Nat)).1)) (b := 1) (blk := dgB ((rootH kk l (q : Nat)).1)) (H' := [rwR cItem l, dgB ((rootH kk l (q : Nat)).1), hole, hole, hole, hole, hole]) rfl rfl rfl (by kernel_rfl) (by kernel_rfl) ?_
  refine r_assign (v := .int .i64 0) rfl rfl rfl ?_
  refine r_doneN (x_then (c_seq (c_reg ?_)))
  refine r_move (v := slv 0 0 l.length c) rfl rfl rfl ?_
  refine r_move (v := .int .i64 (q : Nat)) rfl rfl rfl ?_
  refine r_slice (p := slv 0 0 l.length c) (vl := none) (vh := some (.int .i64 (q : Nat))) (v := slv 0 0 q c) rfl rfl rfl rfl rfl (slice_hi (h := q) rfl rfl (by omega) (by omega) rfl) ?_
  refine r_move (v := .int .i64 (q : Nat)) rfl rfl rfl ?_
  refine r_callN (e := [some (0, 0)]) (nid := 0) (hroot_c (G := G) kk hG hG1 (l.take q) q c (by rw [List.length_take]; omega) (by omega) (by omega) (q : Nat) (rt_take hck (by omega))) (vals := [slv 0 0 q c, .int .i64 (q : Nat)]) (v := .tuple #[dgV ((rootH kk l (q : Nat)).1), .int .i64 0]) (H' := [rwR cItem l, dgB ((rootH kk l (q : Nat)).1), hole, hole, hole, hole, hole]) rfl rfl rfl rfl rfl rfl rfl ⟨⟨⟨rfl, by omega, rfl, by omega, by omega⟩, rfl, trivial⟩, ⟨(emb_rwT rfl (.inl rfl) (by omega)), trivial⟩, rfl, rfl, rfl⟩ (by kernel_rfl) (by kernel_rfl) ?_
  refine r_move (v := .tuple #[dgV ((rootH kk l (q : Nat)).1), .int .i64 0]) rfl rfl rfl ?_
  refine r_extract (vs := #[dgV ((rootH kk l (q : Nat)).1), .int .i64 0]) (v := dgV ((rootH kk l (q : Nat)).1)) rfl rfl rfl rfl ?_
  refine r_extract (vs := #[dgV ((rootH kk l (q : Nat)).1), .int .i64 0]) (v := .int .i64 0) rfl rfl rfl rfl ?_
  refine r_alloc (b := dgB dz) (nid := 2) (H' := [rwR cItem l, dgB ((rootH kk l (q : Nat)).1), dgB dz, hole, hole, hole, hole]) rfl rfl (by kernel_rfl) (by kernel_rfl) ?_
  refine r_store (p := pt 2 0) (v := dgV ((rootH kk l (q : Nat)).1)) (b := 2) (blk := dgB ((rootH kk l (q : Nat)).1)) (H' := [rwR cItem l, dgB ((rootH kk l (q : Nat)).1), dgB ((rootH kk l (q : Nat)).1), hole, hole, hole, hole]) rfl rfl rfl (by kernel_rfl) (by kernel_rfl) ?_
  refine r_assign (v := .int .i64 0) rfl rfl rfl ?_
  refine r_doneN (x_then (c_seq (c_reg ?_)))
  refine r_move (v := slv 0 0 l.length c) rfl rfl rfl ?_
  refine r_move (v := .int .i64 (q : Nat)) rfl rfl rfl ?_
  refine r_move (v := .int .i64 i) rfl rfl rfl ?_
  have hpl15 := incH_len kk l (q : Nat) i
  refine r_callN (e := [some (0, 0)]) (nid := 3) (hinc_c (G := G) kk hG hG1 l l.length c rfl (by omega) (by omega) (q : Nat) i (show incH kk l (q : Nat) i = ((incH kk l (q : Nat) i).1, (incH kk l (q : Nat) i).2) from rfl)) (vals := [slv 0 0 l.length c, .int .i64 (q : Nat), .int .i64 i]) (v := .tuple #[slv 3 0 ((incH kk l (q : Nat) i).1.length) ((incH kk l (q : Nat) i).1.length), .int .i64 (((incH kk l (q : Nat) i).2))]) (H' := [rwR cItem l, dgB ((rootH kk l (q : Nat)).1), dgB ((rootH kk l (q : Nat)).1), dsB ((incH kk l (q : Nat) i).1), hole, hole, hole]) rfl rfl rfl rfl rfl rfl rfl ⟨⟨⟨rfl, rfl, rfl, by first | omega | exact Nat.le_refl _, by first | omega | exact Nat.le_refl _⟩, rfl, rfl, trivial⟩, ⟨(emb_rwR rfl), trivial⟩, rfl, rfl, rfl⟩ (by kernel_rfl) (by kernel_rfl) ?_
  refine r_move (v := .tuple #[slv 3 0 ((incH kk l (q : Nat) i).1.length) ((incH kk l (q : Nat) i).1.length), .int .i64 (((incH kk l (q : Nat) i).2))]) rfl rfl rfl ?_
  refine r_extract (vs := #[slv 3 0 ((incH kk l (q : Nat) i).1.length) ((incH kk l (q : Nat) i).1.length), .int .i64 (((incH kk l (q : Nat) i).2))]) (v := slv 3 0 ((incH kk l (q : Nat) i).1.length) ((incH kk l (q : Nat) i).1.length)) rfl rfl rfl rfl ?_
  refine r_extract (vs := #[slv 3 0 ((incH kk l (q : Nat) i).1.length) ((incH kk l (q : Nat) i).1.length), .int .i64 (((incH kk l (q : Nat) i).2))]) (v := .int .i64 (((incH kk l (q : Nat) i).2))) rfl rfl rfl rfl ?_
  refine r_assign (v := slv 3 0 ((incH kk l (q : Nat) i).1.length) ((incH kk l (q : Nat) i).1.length)) rfl rfl rfl ?_
  refine r_assign (v := .int .i64 (((incH kk l (q : Nat) i).2))) rfl rfl rfl ?_
  refine r_doneN (x_then (c_seq (c_reg ?_)))
  refine r_move (v := slv 0 0 l.length c) rfl rfl rfl ?_
  refine r_move (v := .int .i64 (q : Nat)) rfl rfl rfl ?_
  refine r_slice (p := slv 0 0 l.length c) (vl := none) (vh := some (.int .i64 (q : Nat))) (v := slv 0 0 q c) rfl rfl rfl rfl rfl (slice_hi (h := q) rfl rfl (by omega) (by omega) rfl) ?_
  refine r_move (v := .int .i64 (q : Nat)) rfl rfl rfl ?_
  refine r_move (v := .int .i64 i) rfl rfl rfl ?_
  have hpl16 := incH_len kk l (q : Nat) i
  refine r_callN (e := [some (0, 0)]) (nid := 4) (hinc_c (G := G) kk hG hG1 (l.take q) q c (by rw [List.length_take]; omega) (by omega) (by omega) (q : Nat) i (in_take hck (by omega))) (vals := [slv 0 0 q c, .int .i64 (q : Nat), .int .i64 i]) (v := .tuple #[slv 4 0 ((incH kk l (q : Nat) i).1.length) ((incH kk l (q : Nat) i).1.length), .int .i64 (((incH kk l (q : Nat) i).2))]) (H' := [rwR cItem l, dgB ((rootH kk l (q : Nat)).1), dgB ((rootH kk l (q : Nat)).1), dsB ((incH kk l (q : Nat) i).1), dsB ((incH kk l (q : Nat) i).1), hole, hole]) rfl rfl rfl rfl rfl rfl rfl ⟨⟨⟨rfl, by omega, rfl, by omega, by omega⟩, rfl, rfl, trivial⟩, ⟨(emb_rwT rfl (.inl rfl) (by omega)), trivial⟩, rfl, rfl, rfl⟩ (by kernel_rfl) (by kernel_rfl) ?_
  refine r_move (v := .tuple #[slv 4 0 ((incH kk l (q : Nat) i).1.length) ((incH kk l (q : Nat) i).1.length), .int .i64 (((incH kk l (q : Nat) i).2))]) rfl rfl rfl ?_
  refine r_extract (vs := #[slv 4 0 ((incH kk l (q : Nat) i).1.length) ((incH kk l (q : Nat) i).1.length), .int .i64 (((incH kk l (q : Nat) i).2))]) (v := slv 4 0 ((incH kk l (q : Nat) i).1.length) ((incH kk l (q : Nat) i).1.length)) rfl rfl rfl rfl ?_
  refine r_extract (vs := #[slv 4 0 ((incH kk l (q : Nat) i).1.length) ((incH kk l (q : Nat) i).1.length), .int .i64 (((incH kk l (q : Nat) i).2))]) (v := .int .i64 (((incH kk l (q : Nat) i).2))) rfl rfl rfl rfl ?_
  refine r_assign (v := slv 4 0 ((incH kk l (q : Nat) i).1.length) ((incH kk l (q : Nat) i).1.length)) rfl rfl rfl ?_
  refine r_assign (v := .int .i64 (((incH kk l (q : Nat) i).2))) rfl rfl rfl ?_
  refine r_doneN (x_then (c_seq (c_reg ?_)))
  refine r_move (v := slv 0 0 l.length c) rfl rfl rfl ?_
  refine r_move (v := .int .i64 m) rfl rfl rfl ?_
  refine r_move (v := .int .i64 (q : Nat)) rfl rfl rfl ?_
  have hpl17 := conH_len kk l m (q : Nat)
  refine r_callN (e := [some (0, 0)]) (nid := 5) (hcon_c (G := G) kk hG hG1 l l.length c rfl (by omega) (by omega) m (q : Nat) (show conH kk l m (q : Nat) = ((conH kk l m (q : Nat)).1, (conH kk l m (q : Nat)).2) from rfl)) (vals := [slv 0 0 l.length c, .int .i64 m, .int .i64 (q : Nat)]) (v := .tuple #[slv 5 0 ((conH kk l m (q : Nat)).1.length) ((conH kk l m (q : Nat)).1.length), .int .i64 (((conH kk l m (q : Nat)).2))]) (H' := [rwR cItem l, dgB ((rootH kk l (q : Nat)).1), dgB ((rootH kk l (q : Nat)).1), dsB ((incH kk l (q : Nat) i).1), dsB ((incH kk l (q : Nat) i).1), dsB ((conH kk l m (q : Nat)).1), hole]) rfl rfl rfl rfl rfl rfl rfl ⟨⟨⟨rfl, rfl, rfl, by first | omega | exact Nat.le_refl _, by first | omega | exact Nat.le_refl _⟩, rfl, rfl, trivial⟩, ⟨(emb_rwR rfl), trivial⟩, rfl, rfl, rfl⟩ (by kernel_rfl) (by kernel_rfl) ?_
  refine r_move (v := .tuple #[slv 5 0 ((conH kk l m (q : Nat)).1.length) ((conH kk l m (q : Nat)).1.length), .int .i64 (((conH kk l m (q : Nat)).2))]) rfl rfl rfl ?_
  refine r_extract (vs := #[slv 5 0 ((conH kk l m (q : Nat)).1.length) ((conH kk l m (q : Nat)).1.length), .int .i64 (((conH kk l m (q : Nat)).2))]) (v := slv 5 0 ((conH kk l m (q : Nat)).1.length) ((conH kk l m (q : Nat)).1.length)) rfl rfl rfl rfl ?_
  refine r_extract (vs := #[slv 5 0 ((conH kk l m (q : Nat)).1.length) ((conH kk l m (q : Nat)).1.length), .int .i64 (((conH kk l m (q : Nat)).2))]) (v := .int .i64 (((conH kk l m (q : Nat)).2))) rfl rfl rfl rfl ?_
  refine r_assign (v := slv 5 0 ((conH kk l m (q : Nat)).1.length) ((conH kk l m (q : Nat)).1.length)) rfl rfl rfl ?_
  refine r_assign (v := .int .i64 (((conH kk l m (q : Nat)).2))) rfl rfl rfl ?_
  refine r_doneN (x_then (c_seq (c_reg ?_)))
  refine r_move (v := slv 0 0 l.length c) rfl rfl rfl ?_
  refine r_move (v := .int .i64 (q : Nat)) rfl rfl rfl ?_
  refine r_slice (p := slv 0 0 l.length c) (vl := none) (vh := some (.int .i64 (q : Nat))) (v := slv 0 0 q c) rfl rfl rfl rfl rfl (slice_hi (h := q) rfl rfl (by omega) (by omega) rfl) ?_
  refine r_move (v := .int .i64 m) rfl rfl rfl ?_
  refine r_move (v := .int .i64 (q : Nat)) rfl rfl rfl ?_
  have hpl18 := conH_len kk l m (q : Nat)
  refine r_callN (e := [some (0, 0)]) (nid := 6) (hcon_c (G := G) kk hG hG1 (l.take q) q c (by rw [List.length_take]; omega) (by omega) (by omega) m (q : Nat) (co_take hck (by omega))) (vals := [slv 0 0 q c, .int .i64 m, .int .i64 (q : Nat)]) (v := .tuple #[slv 6 0 ((conH kk l m (q : Nat)).1.length) ((conH kk l m (q : Nat)).1.length), .int .i64 (((conH kk l m (q : Nat)).2))]) (H' := [rwR cItem l, dgB ((rootH kk l (q : Nat)).1), dgB ((rootH kk l (q : Nat)).1), dsB ((incH kk l (q : Nat) i).1), dsB ((incH kk l (q : Nat) i).1), dsB ((conH kk l m (q : Nat)).1), dsB ((conH kk l m (q : Nat)).1)]) rfl rfl rfl rfl rfl rfl rfl ⟨⟨⟨rfl, by omega, rfl, by omega, by omega⟩, rfl, rfl, trivial⟩, ⟨(emb_rwT rfl (.inl rfl) (by omega)), trivial⟩, rfl, rfl, rfl⟩ (by kernel_rfl) (by kernel_rfl) ?_
  refine r_move (v := .tuple #[slv 6 0 ((conH kk l m (q : Nat)).1.length) ((conH kk l m (q : Nat)).1.length), .int .i64 (((conH kk l m (q : Nat)).2))]) rfl rfl rfl ?_
  refine r_extract (vs := #[slv 6 0 ((conH kk l m (q : Nat)).1.length) ((conH kk l m (q : Nat)).1.length), .int .i64 (((conH kk l m (q : Nat)).2))]) (v := slv 6 0 ((conH kk l m (q : Nat)).1.length) ((conH kk l m (q : Nat)).1.length)) rfl rfl rfl rfl ?_
  refine r_extract (vs := #[slv 6 0 ((conH kk l m (q : Nat)).1.length) ((conH kk l m (q : Nat)).1.length), .int .i64 (((conH kk l m (q : Nat)).2))]) (v := .int .i64 (((conH kk l m (q : Nat)).2))) rfl rfl rfl rfl ?_
  refine r_assign (v := slv 6 0 ((conH kk l m (q : Nat)).1.length) ((conH kk l m (q : Nat)).1.length)) rfl rfl rfl ?_
  refine r_assign (v := .int .i64 (((conH kk l m (q : Nat)).2))) rfl rfl rfl ?_
  refine r_doneN (x_then (c_seq (c_reg ?_)))
  refine r_callP (finds_ok (G := G)) (vals := []) (res' := .bool true) rfl rfl rfl rfl rfl rfl ?_
  refine r_move (v := .bool true) rfl rfl rfl ?_
  refine r_move (v := .int .i64 0) rfl rfl rfl ?_
  refine r_bin (v := .bool true) (vx := .int .i64 0) (vy := .int .i64 0) rfl rfl rfl rfl (eql_t (by omega)) ?_
  refine r_pick (v := .bool true) rfl rfl rfl ?_
  refine r_move (v := .bool true) rfl rfl rfl ?_
  refine r_move (v := .int .i64 0) rfl rfl rfl ?_
  refine r_bin (v := .bool true) (vx := .int .i64 0) (vy := .int .i64 0) rfl rfl rfl rfl (eql_t (by omega)) ?_
  refine r_pick (v := .bool true) rfl rfl rfl ?_
  refine r_move (v := .bool true) rfl rfl rfl ?_
  refine r_load (p := pt 2 0) (v := dgV ((rootH kk l (q : Nat)).1)) rfl rfl rfl (by kernel_rfl) ?_
  refine r_load (p := pt 1 0) (v := dgV ((rootH kk l (q : Nat)).1)) rfl rfl rfl (by kernel_rfl) ?_
  refine r_bin (v := .bool true) (vx := dgV ((rootH kk l (q : Nat)).1)) (vy := dgV ((rootH kk l (q : Nat)).1)) rfl rfl rfl rfl (Eq.trans (eql_dg (n := 32) (a := (rootH kk l (q : Nat)).1) (b := (rootH kk l (q : Nat)).1) (by kernel_rfl) rfl rfl rfl) (by rw [(sameBd_refl _ _)] <;> rfl)) ?_
  refine r_pick (v := .bool true) rfl rfl rfl ?_
  refine r_move (v := .bool true) rfl rfl rfl ?_
  refine r_move (v := .int .i64 (((incH kk l (q : Nat) i).2))) rfl rfl rfl ?_
  refine r_move (v := .int .i64 (((incH kk l (q : Nat) i).2))) rfl rfl rfl ?_
  refine r_bin (v := .bool true) (vx := .int .i64 (((incH kk l (q : Nat) i).2))) (vy := .int .i64 (((incH kk l (q : Nat) i).2))) rfl rfl rfl rfl (eql_t (by omega)) ?_
  refine r_pick (v := .bool true) rfl rfl rfl ?_
  refine r_move (v := .bool true) rfl rfl rfl ?_
  refine r_move (v := slv 3 0 ((incH kk l (q : Nat) i).1.length) ((incH kk l (q : Nat) i).1.length)) rfl rfl rfl ?_
  refine r_move (v := slv 4 0 ((incH kk l (q : Nat) i).1.length) ((incH kk l (q : Nat) i).1.length)) rfl rfl rfl ?_
  refine r_callN (e := [some (3, 0), some (4, 0)]) (nid := 0) (Digests_eq (G := G) ((incH kk l (q : Nat) i).1) ((incH kk l (q : Nat) i).1.length) ((incH kk l (q : Nat) i).1.length) ((incH kk l (q : Nat) i).1.length) (rfl : _ = _) (by omega)) (vals := [slv 3 0 ((incH kk l (q : Nat) i).1.length) ((incH kk l (q : Nat) i).1.length), slv 4 0 ((incH kk l (q : Nat) i).1.length) ((incH kk l (q : Nat) i).1.length)]) (v := .bool true) (H' := [rwR cItem l, dgB ((rootH kk l (q : Nat)).1), dgB ((rootH kk l (q : Nat)).1), dsB ((incH kk l (q : Nat) i).1), dsB ((incH kk l (q : Nat) i).1), dsB ((conH kk l m (q : Nat)).1), dsB ((conH kk l m (q : Nat)).1)]) rfl rfl rfl rfl rfl rfl rfl ⟨⟨⟨rfl, rfl, rfl, by first | omega | exact Nat.le_refl _, by first | omega | exact Nat.le_refl _⟩, ⟨rfl, rfl, rfl, by first | omega | exact Nat.le_refl _, by first | omega | exact Nat.le_refl _⟩, trivial⟩, ⟨(emb_dsB rfl), (emb_dsB rfl), trivial⟩, rfl, rfl, rfl⟩ rfl (by kernel_rfl) ?_
  refine r_pick (v := .bool true) rfl rfl rfl ?_
  refine r_move (v := .bool true) rfl rfl rfl ?_
  refine r_move (v := .int .i64 (((conH kk l m (q : Nat)).2))) rfl rfl rfl ?_
  refine r_move (v := .int .i64 (((conH kk l m (q : Nat)).2))) rfl rfl rfl ?_
  refine r_bin (v := .bool true) (vx := .int .i64 (((conH kk l m (q : Nat)).2))) (vy := .int .i64 (((conH kk l m (q : Nat)).2))) rfl rfl rfl rfl (eql_t (by omega)) ?_
  refine r_pick (v := .bool true) rfl rfl rfl ?_
  refine r_move (v := .bool true) rfl rfl rfl ?_
  refine r_move (v := slv 5 0 ((conH kk l m (q : Nat)).1.length) ((conH kk l m (q : Nat)).1.length)) rfl rfl rfl ?_
  refine r_move (v := slv 6 0 ((conH kk l m (q : Nat)).1.length) ((conH kk l m (q : Nat)).1.length)) rfl rfl rfl ?_
  refine r_callN (e := [some (5, 0), some (6, 0)]) (nid := 0) (Digests_eq (G := G) ((conH kk l m (q : Nat)).1) ((conH kk l m (q : Nat)).1.length) ((conH kk l m (q : Nat)).1.length) ((conH kk l m (q : Nat)).1.length) (rfl : _ = _) (by omega)) (vals := [slv 5 0 ((conH kk l m (q : Nat)).1.length) ((conH kk l m (q : Nat)).1.length), slv 6 0 ((conH kk l m (q : Nat)).1.length) ((conH kk l m (q : Nat)).1.length)]) (v := .bool true) (H' := [rwR cItem l, dgB ((rootH kk l (q : Nat)).1), dgB ((rootH kk l (q : Nat)).1), dsB ((incH kk l (q : Nat) i).1), dsB ((incH kk l (q : Nat) i).1), dsB ((conH kk l m (q : Nat)).1), dsB ((conH kk l m (q : Nat)).1)]) rfl rfl rfl rfl rfl rfl rfl ⟨⟨⟨rfl, rfl, rfl, by first | omega | exact Nat.le_refl _, by first | omega | exact Nat.le_refl _⟩, ⟨rfl, rfl, rfl, by first | omega | exact Nat.le_refl _, by first | omega | exact Nat.le_refl _⟩, trivial⟩, ⟨(emb_dsB rfl), (emb_dsB rfl), trivial⟩, rfl, rfl, rfl⟩ rfl (by kernel_rfl) ?_
  refine r_pick (v := .bool true) rfl rfl rfl ?_
  refine r_assign (v := .bool true) rfl rfl rfl ?_
  refine r_doneN (x_then (c_ret (x_end ?_)))
  exact end_map [0] (v := .bool true) rfl (by kernel_rfl) rfl rfl (by decide) (by simp [keptB, rwR, cItem]) rfl
end Go.Flat
