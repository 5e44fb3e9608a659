/- Walks and plain laws: what each theorem says, within the bounds that it names. -/
import Derived.Test.YtnifcpffloojcaaDoorS2
set_option linter.unusedVariables false
set_option linter.unusedSimpArgs false
set_option maxRecDepth 20000
namespace Go.Flat
open Go.Proofs
variable {G : Glob}
theorem firL_ok {kk : Nat → BitVec 32} {l : List Item} {n : Int} (h : (firL kk l n).2 = 0) : rightL l ∧ 0 ≤ n ∧ n ≤ l.length ∧ firL kk l n = (acL kk l n.toNat, 0) := by
  unfold firL at h ⊢
  split at h
  · rename_i h1
    split at h
    · rename_i h2
      exact ⟨h1, h2.1, h2.2, by rw [if_pos h1, if_pos h2]⟩
    · exact absurd h (by decide)
  · exact absurd h (by decide)
theorem refHIncl_ok (kk : Nat → BitVec 32) (hG2 : G 2 = some (rowE w32 64 kk)) (l : List Item) (n c : Nat) (hn : l.length = n) (hc : n ≤ c) (hb : n ≤ 1048576) (k i : Int) : CallL Tryd.prog G 18 [slv 0 0 n c, .int .i64 k, .int .i64 i] [rwR cItem l] (.tuple #[slv 1 0 (incH kk l k i).1.length (incH kk l k i).1.length, .int .i64 (incH kk l k i).2]) [rwR cItem l, dsB (incH kk l k i).1] := by
  refine walk (fn := Tryd.f18) (nt := 28) rfl rfl rfl rfl ?_
  refine c_hole 2 (H' := [rwR cItem l, hole, hole]) rfl ?_
  refine c_seq (c_reg ?_)
  refine r_assign (v := .slice none 0 0) rfl rfl rfl ?_
  refine r_assign (v := .int .i64 0) rfl rfl rfl ?_
  refine r_doneN (x_then (c_seq (c_reg ?_)))
  refine r_move (v := slv 0 0 n c) rfl rfl rfl ?_
  refine r_move (v := .int .i64 k) rfl rfl rfl ?_
  refine r_callN (e := [some (0, 0)]) (nid := 0) (refSize_ok (G := G) l n c hn (by omega) (by omega) k) (vals := [slv 0 0 n c, .int .i64 k]) (v := .int .i64 ((sizH l k))) (H' := [rwR cItem l, hole, hole]) rfl rfl rfl rfl rfl rfl rfl ⟨⟨⟨rfl, rfl, rfl, by first | omega | exact Nat.le_refl _, by first | omega | exact Nat.le_refl _⟩, rfl, trivial⟩, ⟨(emb_rwR rfl), trivial⟩, rfl, rfl, rfl⟩ rfl (by kernel_rfl) ?_
  refine r_assign (v := .int .i64 ((sizH l k))) rfl rfl rfl ?_
  refine r_doneN (x_then (c_seq (c_seq (c_reg ?_))))
  refine r_move (v := .int .i64 ((sizH l k))) rfl rfl rfl ?_
  by_cases h1 : ((sizH l k)) ≠ 0
  refine r_bin (v := .bool true) (vx := .int .i64 ((sizH l k))) (vy := .int .i64 0) rfl rfl rfl rfl (neq_t (by omega)) ?_
  refine r_doneN (x_then (c_true rfl (c_seq (c_reg ?_))))
  refine r_move (v := .int .i64 ((sizH l k))) rfl rfl rfl ?_
  refine r_assign (v := .slice none 0 0) rfl rfl rfl ?_
  refine r_assign (v := .int .i64 ((sizH l k))) rfl rfl rfl ?_
  refine r_doneN (x_then ?_)
  refine c_weak (Weak.nilTmp (i := 6) (b := 1) true 32 rfl (by decide) rfl) ?_
  refine c_ret (x_thenR (x_end ?_))
  rw [show incH kk l k i = ([], sizH l k) from by unfold incH; rw [if_neg (fun q => by rw [firL_siz] at q; omega), firL_siz]]
  exact end_map [0, 1] (v := .tuple #[slv 1 0 0 0, .int .i64 ((sizH l k))]) rfl (by kernel_rfl) rfl rfl (by decide) (by simp [keptB, rwR, dsB, cItem]) ⟨⟨rfl, rfl, rfl, by first | omega | exact Nat.le_refl _ | exact Nat.zero_le _ | (dsimp only; omega), by first | omega | exact Nat.le_refl _ | exact Nat.zero_le _ | (dsimp only; omega)⟩, rfl, trivial⟩
  refine r_bin (v := .bool false) (vx := .int .i64 ((sizH l k))) (vy := .int .i64 0) rfl rfl rfl rfl (neq_f (by omega)) ?_
  refine r_doneN (x_then (c_false rfl (c_skip (x_then (c_seq (c_seq (c_reg ?_)))))))
  refine r_move (v := .int .i64 i) rfl rfl rfl ?_
  by_cases h2 : i < 0
  refine r_bin (v := .bool true) (vx := .int .i64 i) (vy := .int .i64 0) rfl rfl rfl rfl (lss_t (by omega)) ?_
  refine r_move (v := .bool true) rfl rfl rfl ?_
  refine r_skip rfl rfl (r_skip rfl rfl (r_skip rfl rfl ?_))
  refine r_pick (v := .bool true) rfl rfl rfl ?_
  refine r_doneN (x_then (c_true rfl (c_seq (c_reg ?_))))
  refine r_assign (v := .slice none 0 0) rfl rfl rfl ?_
  refine r_assign (v := .int .i64 20) rfl rfl rfl ?_
  refine r_doneN (x_then ?_)
  refine c_weak (Weak.nilTmp (i := 6) (b := 1) true 32 rfl (by decide) rfl) ?_
  refine c_ret (x_thenR (x_end ?_))
  have hsz := sizH_0 (l := l) (k := k) (by omega)
  have h3 : (firL kk l k).1.length = k.toNat := by rw [(firL_ok (firL_siz.trans (by omega) : (firL kk l k).2 = 0)).2.2.2]; exact acL_len _ _ _
  have h4 := hsz.2.1
  rw [show incH kk l k i = ([], 20) from by unfold incH; rw [if_pos (firL_siz.trans (by omega)), if_neg (by omega)]]
  exact end_map [0, 1] (v := .tuple #[slv 1 0 0 0, .int .i64 20]) rfl (by kernel_rfl) rfl rfl (by decide) (by simp [keptB, rwR, dsB, cItem]) ⟨⟨rfl, rfl, rfl, by first | omega | exact Nat.le_refl _ | exact Nat.zero_le _ | (dsimp only; omega), by first | omega | exact Nat.le_refl _ | exact Nat.zero_le _ | (dsimp only; omega)⟩, rfl, trivial⟩
  refine r_bin (v := .bool false) (vx := .int .i64 i) (vy := .int .i64 0) rfl rfl rfl rfl (lss_f (by omega)) ?_
  refine r_move (v := .bool false) rfl rfl rfl ?_
  refine r_move (v := .int .i64 i) rfl rfl rfl ?_
  refine r_move (v := .int .i64 k) rfl rfl rfl ?_
  by_cases h3 : k ≤ i
  refine r_bin (v := .bool true) (vx := .int .i64 i) (vy := .int .i64 k) rfl rfl rfl rfl (geq_t (by omega)) ?_
  refine r_pick (v := .bool true) rfl rfl rfl ?_
  refine r_doneN (x_then (c_true rfl (c_seq (c_reg ?_))))
  refine r_assign (v := .slice none 0 0) rfl rfl rfl ?_
  refine r_assign (v := .int .i64 20) rfl rfl rfl ?_
  refine r_doneN (x_then ?_)
  refine c_weak (Weak.nilTmp (i := 6) (b := 1) true 32 rfl (by decide) rfl) ?_
  refine c_ret (x_thenR (x_end ?_))
  have hsz := sizH_0 (l := l) (k := k) (by omega)
  have h3 : (firL kk l k).1.length = k.toNat := by rw [(firL_ok (firL_siz.trans (by omega) : (firL kk l k).2 = 0)).2.2.2]; exact acL_len _ _ _
  have h4 := hsz.2.1
  rw [show incH kk l k i = ([], 20) from by unfold incH; rw [if_pos (firL_siz.trans (by omega)), if_neg (by omega)]]
  exact end_map [0, 1] (v := .tuple #[slv 1 0 0 0, .int .i64 20]) rfl (by kernel_rfl) rfl rfl (by decide) (by simp [keptB, rwR, dsB, cItem]) ⟨⟨rfl, rfl, rfl, by first | omega | exact Nat.le_refl _ | exact Nat.zero_le _ | (dsimp only; omega), by first | omega | exact Nat.le_refl _ | exact Nat.zero_le _ | (dsimp only; omega)⟩, rfl, trivial⟩
  refine r_bin (v := .bool false) (vx := .int .i64 i) (vy := .int .i64 k) rfl rfl rfl rfl (geq_f (by omega)) ?_
  refine r_pick (v := .bool false) rfl rfl rfl ?_
  refine r_doneN (x_then (c_false rfl (c_skip (x_then (c_seq ?_)))))
  have hsz := sizH_0 (l := l) (k := k) (by omega)
  have hsz2 := hsz.2
  have h2000 := hsz.1.1
  have hkn : k ≤ (n : Int) := by omega
  obtain ⟨q, rfl⟩ : ∃ x0 : Nat, k = (x0 : Int) := ⟨k.toNat, by omega⟩
  have hql : (acL kk l q).length = q := acL_len kk l q
  refine c_reg ?_
  refine r_move (v := slv 0 0 n c) rfl rfl rfl ?_
  refine r_move (v := .int .i64 (q : Nat)) rfl rfl rfl ?_
  refine r_slice (p := slv 0 0 n c) (vl := none) (vh := some (.int .i64 (q : Nat))) (v := slv 0 0 q c) rfl rfl rfl rfl rfl (slice_hi (h := q) rfl rfl (by omega) (by omega) rfl) ?_
  refine r_callN (e := [some (0, 0)]) (nid := 1) (refLeaves_ok (G := G) kk hG2 l q c (by have := hn; omega) (by omega) (by omega) (fun j hj => goodF_atI l 0 j hsz.1.2 (by omega))) (vals := [slv 0 0 q c]) (v := slv 1 0 q q) (H' := [rwR cItem l, dsB (acL kk l q), hole]) rfl rfl rfl rfl rfl rfl rfl ⟨⟨⟨rfl, rfl, rfl, by omega, by omega⟩, trivial⟩, ⟨(emb_rwR rfl), trivial⟩, rfl, rfl, rfl⟩ (by kernel_rfl) (by kernel_rfl) ?_
  refine r_move (v := .int .i64 i) rfl rfl rfl ?_
  refine r_callN (e := [some (1, 0)]) (nid := 2) (refIncl_ok (G := G) kk hG2 q (acL kk l q) q i.toNat (acL_len kk l q) (by omega) (by omega) (by omega)) (vals := [slv 1 0 q q, .int .i64 i]) (v := slv 2 0 ((inclP kk (acL kk l q) i.toNat).length) ((inclP kk (acL kk l q) i.toNat).length)) (H' := [rwR cItem l, dsB (acL kk l q), dsB (inclP kk (acL kk l q) i.toNat)]) rfl rfl rfl rfl rfl rfl rfl ⟨⟨⟨rfl, rfl, rfl, by first | omega | exact Nat.le_refl _, by first | omega | exact Nat.le_refl _⟩, (congrArg (Value.int .i64) (by omega)), trivial⟩, ⟨(emb_dsB rfl), trivial⟩, rfl, rfl, rfl⟩ (by kernel_rfl) (by kernel_rfl) ?_
  refine r_assign (v := slv 2 0 ((inclP kk (acL kk l q) i.toNat).length) ((inclP kk (acL kk l q) i.toNat).length)) rfl rfl rfl ?_
  refine r_assign (v := .int .i64 0) rfl rfl rfl ?_
  refine r_doneN (x_then (c_ret (x_end ?_)))
  rw [show incH kk l ((q : Nat) : Int) i = (inclP kk (acL kk l q) i.toNat, 0) from by unfold incH; rw [fi_full hsz.1 (by omega), if_pos rfl, if_pos ⟨by omega, by show i < ((acL kk l q).length : Int); omega⟩]]
  exact end_map [0, 2] (v := .tuple #[slv 2 0 ((inclP kk (acL kk l q) i.toNat).length) ((inclP kk (acL kk l q) i.toNat).length), .int .i64 0]) rfl (by kernel_rfl) rfl rfl (by decide) (by simp [keptB, rwR, dsB, cItem]) ⟨⟨rfl, rfl, rfl, by first | omega | exact Nat.le_refl _ | exact Nat.zero_le _ | (dsimp only; omega), by first | omega | exact Nat.le_refl _ | exact Nat.zero_le _ | (dsimp only; omega)⟩, rfl, trivial⟩
theorem refHCons_ok (kk : Nat → BitVec 32) (hG2 : G 2 = some (rowE w32 64 kk)) (l : List Item) (n c : Nat) (hn : l.length = n) (hc : n ≤ c) (hb : n ≤ 1048576) (i k : Int) : CallL Tryd.prog G 20 [slv 0 0 n c, .int .i64 i, .int .i64 k] [rwR cItem l] (.tuple #[slv 1 0 (conH kk l i k).1.length (conH kk l i k).1.length, .int .i64 (conH kk l i k).2]) [rwR cItem l, dsB (conH kk l i k).1] := by
  refine walk (fn := Tryd.f20) (nt := 28) rfl rfl rfl rfl ?_
  refine c_hole 2 (H' := [rwR cItem l, hole, hole]) rfl ?_
  refine c_seq (c_reg ?_)
  refine r_assign (v := .slice none 0 0) rfl rfl rfl ?_
  refine r_assign (v := .int .i64 0) rfl rfl rfl ?_
  refine r_doneN (x_then (c_seq (c_reg ?_)))
  refine r_move (v := slv 0 0 n c) rfl rfl rfl ?_
  refine r_move (v := .int .i64 k) rfl rfl rfl ?_
  refine r_callN (e := [some (0, 0)]) (nid := 0) (refSize_ok (G := G) l n c hn (by omega) (by omega) k) (vals := [slv 0 0 n c, .int .i64 k]) (v := .int .i64 ((sizH l k))) (H' := [rwR cItem l, hole, hole]) rfl rfl rfl rfl rfl rfl rfl ⟨⟨⟨rfl, rfl, rfl, by first | omega | exact Nat.le_refl _, by first | omega | exact Nat.le_refl _⟩, rfl, trivial⟩, ⟨(emb_rwR rfl), trivial⟩, rfl, rfl, rfl⟩ rfl (by kernel_rfl) ?_
  refine r_assign (v := .int .i64 ((sizH l k))) rfl rfl rfl ?_
  refine r_doneN (x_then (c_seq (c_seq (c_reg ?_))))
  refine r_move (v := .int .i64 ((sizH l k))) rfl rfl rfl ?_
  by_cases h1 : ((sizH l k)) ≠ 0
  refine r_bin (v := .bool true) (vx := .int .i64 ((sizH l k))) (vy := .int .i64 0) rfl rfl rfl rfl (neq_t (by omega)) ?_
  refine r_doneN (x_then (c_true rfl (c_seq (c_reg ?_))))
  refine r_move (v := .int .i64 ((sizH l k))) rfl rfl rfl ?_
  refine r_assign (v := .slice none 0 0) rfl rfl rfl ?_
  refine r_assign (v := .int .i64 ((sizH l k))) rfl rfl rfl ?_
  refine r_doneN (x_then ?_)
  refine c_weak (Weak.nilTmp (i := 6) (b := 1) true 32 rfl (by decide) rfl) ?_
  refine c_ret (x_thenR (x_end ?_))
  rw [show conH kk l i k = ([], sizH l k) from by unfold conH; rw [if_neg (fun q => by rw [firL_siz] at q; omega), firL_siz]]
  exact end_map [0, 1] (v := .tuple #[slv 1 0 0 0, .int .i64 ((sizH l k))]) rfl (by kernel_rfl) rfl rfl (by decide) (by simp [keptB, rwR, dsB, cItem]) ⟨⟨rfl, rfl, rfl, by first | omega | exact Nat.le_refl _ | exact Nat.zero_le _ | (dsimp only; omega), by first | omega | exact Nat.le_refl _ | exact Nat.zero_le _ | (dsimp only; omega)⟩, rfl, trivial⟩
  refine r_bin (v := .bool false) (vx := .int .i64 ((sizH l k))) (vy := .int .i64 0) rfl rfl rfl rfl (neq_f (by omega)) ?_
  refine r_doneN (x_then (c_false rfl (c_skip (x_then (c_seq (c_seq (c_reg ?_)))))))
  refine r_move (v := .int .i64 i) rfl rfl rfl ?_
  by_cases h2 : i < 0
  refine r_bin (v := .bool true) (vx := .int .i64 i) (vy := .int .i64 0) rfl rfl rfl rfl (lss_t (by omega)) ?_
  refine r_move (v := .bool true) rfl rfl rfl ?_
  refine r_skip rfl rfl (r_skip rfl rfl (r_skip rfl rfl ?_))
  refine r_pick (v := .bool true) rfl rfl rfl ?_
  refine r_doneN (x_then (c_true rfl (c_seq (c_reg ?_))))
  refine r_assign (v := .slice none 0 0) rfl rfl rfl ?_
  refine r_assign (v := .int .i64 21) rfl rfl rfl ?_
  refine r_doneN (x_then ?_)
  refine c_weak (Weak.nilTmp (i := 6) (b := 1) true 32 rfl (by decide) rfl) ?_
  refine c_ret (x_thenR (x_end ?_))
  have hsz := sizH_0 (l := l) (k := k) (by omega)
  have h3 : (firL kk l k).1.length = k.toNat := by rw [(firL_ok (firL_siz.trans (by omega) : (firL kk l k).2 = 0)).2.2.2]; exact acL_len _ _ _
  have h4 := hsz.2.1
  rw [show conH kk l i k = ([], 21) from by unfold conH; rw [if_pos (firL_siz.trans (by omega)), if_neg (by omega)]]
  exact end_map [0, 1] (v := .tuple #[slv 1 0 0 0, .int .i64 21]) rfl (by kernel_rfl) rfl rfl (by decide) (by simp [keptB, rwR, dsB, cItem]) ⟨⟨rfl, rfl, rfl, by first | omega | exact Nat.le_refl _ | exact Nat.zero_le _ | (dsimp only; omega), by first | omega | exact Nat.le_refl _ | exact Nat.zero_le _ | (dsimp only; omega)⟩, rfl, trivial⟩
  refine r_bin (v := .bool false) (vx := .int .i64 i) (vy := .int .i64 0) rfl rfl rfl rfl (lss_f (by omega)) ?_
  refine r_move (v := .bool false) rfl rfl rfl ?_
  refine r_move (v := .int .i64 i) rfl rfl rfl ?_
  refine r_move (v := .int .i64 k) rfl rfl rfl ?_
  by_cases h3 : k < i
  refine r_bin (v := .bool true) (vx := .int .i64 i) (vy := .int .i64 k) rfl rfl rfl rfl (gtr_t (by omega)) ?_
  refine r_pick (v := .bool true) rfl rfl rfl ?_
  refine r_doneN (x_then (c_true rfl (c_seq (c_reg ?_))))
  refine r_assign (v := .slice none 0 0) rfl rfl rfl ?_
  refine r_assign (v := .int .i64 21) rfl rfl rfl ?_
  refine r_doneN (x_then ?_)
  refine c_weak (Weak.nilTmp (i := 6) (b := 1) true 32 rfl (by decide) rfl) ?_
  refine c_ret (x_thenR (x_end ?_))
  have hsz := sizH_0 (l := l) (k := k) (by omega)
  have h3 : (firL kk l k).1.length = k.toNat := by rw [(firL_ok (firL_siz.trans (by omega) : (firL kk l k).2 = 0)).2.2.2]; exact acL_len _ _ _
  have h4 := hsz.2.1
  rw [show conH kk l i k = ([], 21) from by unfold conH; rw [if_pos (firL_siz.trans (by omega)), if_neg (by omega)]]
  exact end_map [0, 1] (v := .tuple #[slv 1 0 0 0, .int .i64 21]) rfl (by kernel_rfl) rfl rfl (by decide) (by simp [keptB, rwR, dsB, cItem]) ⟨⟨rfl, rfl, rfl, by first | omega | exact Nat.le_refl _ | exact Nat.zero_le _ | (dsimp only; omega), by first | omega | exact Nat.le_refl _ | exact Nat.zero_le _ | (dsimp only; omega)⟩, rfl, trivial⟩
  refine r_bin (v := .bool false) (vx := .int .i64 i) (vy := .int .i64 k) rfl rfl rfl rfl (gtr_f (by omega)) ?_
  refine r_pick (v := .bool false) rfl rfl rfl ?_
  refine r_doneN (x_then (c_false rfl (c_skip (x_then (c_seq ?_)))))
  have hsz := sizH_0 (l := l) (k := k) (by omega)
  have hsz2 := hsz.2
  have h2000 := hsz.1.1
  have hkn : k ≤ (n : Int) := by omega
  obtain ⟨q, rfl⟩ : ∃ x0 : Nat, k = (x0 : Int) := ⟨k.toNat, by omega⟩
  have hql : (acL kk l q).length = q := acL_len kk l q
  refine c_reg ?_
  refine r_move (v := slv 0 0 n c) rfl rfl rfl ?_
  refine r_move (v := .int .i64 (q : Nat)) rfl rfl rfl ?_
  refine r_slice (p := slv 0 0 n c) (vl := none) (vh := some (.int .i64 (q : Nat))) (v := slv 0 0 q c) rfl rfl rfl rfl rfl (slice_hi (h := q) rfl rfl (by omega) (by omega) rfl) ?_
  refine r_callN (e := [some (0, 0)]) (nid := 1) (refLeaves_ok (G := G) kk hG2 l q c (by have := hn; omega) (by omega) (by omega) (fun j hj => goodF_atI l 0 j hsz.1.2 (by omega))) (vals := [slv 0 0 q c]) (v := slv 1 0 q q) (H' := [rwR cItem l, dsB (acL kk l q), hole]) rfl rfl rfl rfl rfl rfl rfl ⟨⟨⟨rfl, rfl, rfl, by omega, by omega⟩, trivial⟩, ⟨(emb_rwR rfl), trivial⟩, rfl, rfl, rfl⟩ (by kernel_rfl) (by kernel_rfl) ?_
  refine r_move (v := .int .i64 i) rfl rfl rfl ?_
  by_cases h4 : i = 0
  refine r_callN (e := [some (1, 0)]) (nid := 0) (refCons_zero (G := G) kk q (acL kk l q) q (acL_len kk l q)) (vals := [slv 1 0 q q, .int .i64 i]) (v := .slice none 0 0) (H' := [rwR cItem l, dsB (acL kk l q), hole]) rfl rfl rfl rfl rfl rfl rfl ⟨⟨⟨rfl, rfl, rfl, by first | omega | exact Nat.le_refl _, by first | omega | exact Nat.le_refl _⟩, (congrArg (Value.int .i64) (by omega)), trivial⟩, ⟨(emb_dsB rfl), trivial⟩, rfl, rfl, rfl⟩ (by kernel_rfl) (by kernel_rfl) ?_
  refine r_assign (v := .slice none 0 0) rfl rfl rfl ?_
  refine r_assign (v := .int .i64 0) rfl rfl rfl ?_
  refine r_doneN (x_then ?_)
  refine c_weak (Weak.nilTmp (i := 6) (b := 2) true 32 rfl (by decide) rfl) ?_
  refine c_ret (x_end ?_)
  rw [show conH kk l i ((q : Nat) : Int) = ([], 0) from by unfold conH; rw [fi_full hsz.1 (by omega), if_pos rfl, if_pos ⟨by omega, by show i ≤ ((acL kk l q).length : Int); omega⟩, if_pos (by omega)]]
  exact end_map [0, 2] (v := .tuple #[slv 2 0 0 0, .int .i64 0]) rfl (by kernel_rfl) rfl rfl (by decide) (by simp [keptB, rwR, dsB, cItem]) ⟨⟨rfl, rfl, rfl, by first | omega | exact Nat.le_refl _ | exact Nat.zero_le _ | (dsimp only; omega), by first | omega | exact Nat.le_refl _ | exact Nat.zero_le _ | (dsimp only; omega)⟩, rfl, trivial⟩
  refine r_callN (e := [some (1, 0)]) (nid := 2) (refCons_ok (G := G) kk hG2 q (acL kk l q) q i.toNat (acL_len kk l q) (by omega) (by omega) (by omega) (by omega)) (vals := [slv 1 0 q q, .int .i64 i]) (v := slv 2 0 ((consP kk (acL kk l q) i.toNat).length) ((consP kk (acL kk l q) i.toNat).length)) (H' := [rwR cItem l, dsB (acL kk l q), dsB (consP kk (acL kk l q) i.toNat)]) rfl rfl rfl rfl rfl rfl rfl ⟨⟨⟨rfl, rfl, rfl, by first | omega | exact Nat.le_refl _, by first | omega | exact Nat.le_refl _⟩, (congrArg (Value.int .i64) (by omega)), trivial⟩, ⟨(emb_dsB rfl), trivial⟩, rfl, rfl, rfl⟩ (by kernel_rfl) (by kernel_rfl) ?_
  refine r_assign (v := slv 2 0 ((consP kk (acL kk l q) i.toNat).length) ((consP kk (acL kk l q) i.toNat).length)) rfl rfl rfl ?_
  refine r_assign (v := .int .i64 0) rfl rfl rfl ?_
  refine r_doneN (x_then (c_ret (x_end ?_)))
  rw [show conH kk l i ((q : Nat) : Int) = (consP kk (acL kk l q) i.toNat, 0) from by unfold conH; rw [fi_full hsz.1 (by omega), if_pos rfl, if_pos ⟨by omega, by show i ≤ ((acL kk l q).length : Int); omega⟩, if_neg (by omega)]]
  exact end_map [0, 2] (v := .tuple #[slv 2 0 ((consP kk (acL kk l q) i.toNat).length) ((consP kk (acL kk l q) i.toNat).length), .int .i64 0]) rfl (by kernel_rfl) rfl rfl (by decide) (by simp [keptB, rwR, dsB, cItem]) ⟨⟨rfl, rfl, rfl, by first | omega | exact Nat.le_refl _ | exact Nat.zero_le _ | (dsimp only; omega), by first | omega | exact Nat.le_refl _ | exact Nat.zero_le _ | (dsimp only; omega)⟩, rfl, trivial⟩
theorem HistoryProofs_ok (kk : Nat → BitVec 32) (hG : G 3 = some (rowE w32 64 kk)) (hG1 : G 1 = some (rowE u8N 64 dbF)) (hG2 : G 2 = some (rowE w32 64 kk)) (l : List Item) (c : Nat) (hl : l.length ≤ c) (hcc : c ≤ 9223372036854775807) (m n i : Int) : CallL Tryd.prog G 4 [slv 0 0 l.length c, .int .i64 m, .int .i64 n, .int .i64 i] [rwR cItem l] (.bool true) [rwR cItem l] := by
  refine walk (fn := Tryd.f4) (nt := 68) rfl rfl rfl rfl ?_
  refine c_hole 4 (H' := [rwR cItem l, hole, hole, hole, hole]) rfl ?_
  refine c_seq (c_reg ?_)
  refine r_assign (v := .bool false) rfl rfl rfl ?_
  refine r_doneN (x_then (c_seq (c_seq (c_reg ?_))))
  refine r_move (v := slv 0 0 l.length c) rfl rfl rfl ?_
  refine r_callN (e := [some (0, 0)]) (nid := 0) (refBig_ok (G := G) l l.length c rfl (by omega) (by omega)) (vals := [slv 0 0 l.length c]) (v := .bool (bigB l)) (H' := [rwR cItem l, hole, hole, hole, hole]) rfl rfl rfl rfl rfl rfl rfl ⟨⟨⟨rfl, rfl, rfl, by first | omega | exact Nat.le_refl _, by first | omega | exact Nat.le_refl _⟩, trivial⟩, ⟨(emb_rwR rfl), trivial⟩, rfl, rfl, rfl⟩ rfl (by kernel_rfl) ?_
  refine r_doneN (x_then ?_)
  rcases Bool.eq_false_or_eq_true (bigB l) with h1 | h1
  refine c_true (congrArg Value.bool h1) ?_
  refine c_seq (c_reg ?_)
  refine r_assign (v := .bool true) rfl rfl rfl ?_
  refine r_doneN (x_then (c_ret (x_thenR (x_end ?_))))
  exact end_map [0] (v := .bool true) rfl (by kernel_rfl) rfl rfl (by decide) (by simp [keptB, rwR, cItem]) rfl
  refine c_false (congrArg Value.bool h1) ?_
  refine c_skip (x_then (c_seq ?_))
  have hn60 : l.length ≤ 60 := bigB_len (by assumption)
  refine c_reg ?_
  refine r_move (v := slv 0 0 l.length c) rfl rfl rfl ?_
  refine r_move (v := .int .i64 n) rfl rfl rfl ?_
  refine r_move (v := .int .i64 i) rfl rfl rfl ?_
  have hpl15 := incH_len kk l n i
  refine r_callN (e := [some (0, 0)]) (nid := 1) (HIncl_ok (G := G) kk hG hG1 l l.length c rfl (by omega) (by omega) n i) (vals := [slv 0 0 l.length c, .int .i64 n, .int .i64 i]) (v := .tuple #[slv 1 0 ((incH kk l n i).1.length) ((incH kk l n i).1.length), .int .i64 (((incH kk l n i).2))]) (H' := [rwR cItem l, dsB ((incH kk l n i).1), hole, hole, hole]) rfl rfl rfl rfl rfl rfl rfl ⟨⟨⟨rfl, rfl, rfl, by first | omega | exact Nat.le_refl _, by first | omega | exact Nat.le_refl _⟩, rfl, rfl, trivial⟩, ⟨(emb_rwR rfl), trivial⟩, rfl, rfl, rfl⟩ (by kernel_rfl) (by kernel_rfl) ?_
  refine r_move (v := .tuple #[slv 1 0 ((incH kk l n i).1.length) ((incH kk l n i).1.length), .int .i64 (((incH kk l n i).2))]) rfl rfl rfl ?_
  refine r_extract (vs := #[slv 1 0 ((incH kk l n i).1.length) ((incH kk l n i).1.length), .int .i64 (((incH kk l n i).2))]) (v := slv 1 0 ((incH kk l n i).1.length) ((incH kk l n i).1.length)) rfl rfl rfl rfl ?_
  refine r_extract (vs := #[slv 1 0 ((incH kk l n i).1.length) ((incH kk l n i).1.length), .int .i64 (((incH kk l n i).2))]) (v := .int .i64 (((incH kk l n i).2))) rfl rfl rfl rfl ?_
  refine r_assign (v := slv 1 0 ((incH kk l n i).1.length) ((incH kk l n i).1.length)) rfl rfl rfl ?_
  refine r_assign (v := .int .i64 (((incH kk l n i).2))) rfl rfl rfl ?_
  refine r_doneN (x_then (c_seq (c_reg ?_)))
  refine r_move (v := slv 0 0 l.length c) rfl rfl rfl ?_
  refine r_move (v := .int .i64 n) rfl rfl rfl ?_
  refine r_move (v := .int .i64 i) rfl rfl rfl ?_
  have hpl16 := incH_len kk l n i
  refine r_callN (e := [some (0, 0)]) (nid := 2) (refHIncl_ok (G := G) kk hG2 l l.length c rfl (by omega) (by omega) n i) (vals := [slv 0 0 l.length c, .int .i64 n, .int .i64 i]) (v := .tuple #[slv 2 0 ((incH kk l n i).1.length) ((incH kk l n i).1.length), .int .i64 (((incH kk l n i).2))]) (H' := [rwR cItem l, dsB ((incH kk l n i).1), dsB ((incH kk l n i).1), hole, hole]) rfl rfl rfl rfl rfl rfl rfl ⟨⟨⟨rfl, rfl, rfl, by first | omega | exact Nat.le_refl _, by first | omega | exact Nat.le_refl _⟩, rfl, rfl, trivial⟩, ⟨(emb_rwR rfl), trivial⟩, rfl, rfl, rfl⟩ (by kernel_rfl) (by kernel_rfl) ?_
  refine r_move (v := .tuple #[slv 2 0 ((incH kk l n i).1.length) ((incH kk l n i).1.length), .int .i64 (((incH kk l n i).2))]) rfl rfl rfl ?_
  refine r_extract (vs := #[slv 2 0 ((incH kk l n i).1.length) ((incH kk l n i).1.length), .int .i64 (((incH kk l n i).2))]) (v := slv 2 0 ((incH kk l n i).1.length) ((incH kk l n i).1.length)) rfl rfl rfl rfl ?_
  refine r_extract (vs := #[slv 2 0 ((incH kk l n i).1.length) ((incH kk l n i).1.length), .int .i64 (((incH kk l n i).2))]) (v := .int .i64 (((incH kk l n i).2))) rfl rfl rfl rfl ?_
  refine r_assign (v := slv 2 0 ((incH kk l n i).1.length) ((incH kk l n i).1.length)) rfl rfl rfl ?_
  refine r_assign (v := .int .i64 (((incH kk l n i).2))) rfl rfl rfl ?_
  refine r_doneN (x_then (c_seq (c_reg ?_)))
  refine r_move (v := slv 0 0 l.length c) rfl rfl rfl ?_
  refine r_move (v := .int .i64 m) rfl rfl rfl ?_
  refine r_move (v := .int .i64 n) rfl rfl rfl ?_
  have hpl17 := conH_len kk l m n
  refine r_callN (e := [some (0, 0)]) (nid := 3) (HCons_ok (G := G) kk hG hG1 l l.length c rfl (by omega) (by omega) m n) (vals := [slv 0 0 l.length c, .int .i64 m, .int .i64 n]) (v := .tuple #[slv 3 0 ((conH kk l m n).1.length) ((conH kk l m n).1.length), .int .i64 (((conH kk l m n).2))]) (H' := [rwR cItem l, dsB ((incH kk l n i).1), dsB ((incH kk l n i).1), dsB ((conH kk l m n).1), hole]) rfl rfl rfl rfl rfl rfl rfl ⟨⟨⟨rfl, rfl, rfl, by first | omega | exact Nat.le_refl _, by first | omega | exact Nat.le_refl _⟩, rfl, rfl, trivial⟩, ⟨(emb_rwR rfl), trivial⟩, rfl, rfl, rfl⟩ (by kernel_rfl) (by kernel_rfl) ?_
  refine r_move (v := .tuple #[slv 3 0 ((conH kk l m n).1.length) ((conH kk l m n).1.length), .int .i64 (((conH kk l m n).2))]) rfl rfl rfl ?_
  refine r_extract (vs := #[slv 3 0 ((conH kk l m n).1.length) ((conH kk l m n).1.length), .int .i64 (((conH kk l m n).2))]) (v := slv 3 0 ((conH kk l m n).1.length) ((conH kk l m n).1.length)) rfl rfl rfl rfl ?_
  refine r_extract (vs := #[slv 3 0 ((conH kk l m n).1.length) ((conH kk l m n).1.length), .int .i64 (((conH kk l m n).2))]) (v := .int .i64 (((conH kk l m n).2))) rfl rfl rfl rfl ?_
  refine r_assign (v := slv 3 0 ((conH kk l m n).1.length) ((conH kk l m n).1.length)) rfl rfl rfl ?_
  refine r_assign (v := .int .i64 (((conH kk l m n).2))) rfl rfl rfl ?_
  refine r_doneN (x_then (c_seq (c_reg ?_)))
  refine r_move (v := slv 0 0 l.length c) rfl rfl rfl ?_
  refine r_move (v := .int .i64 m) rfl rfl rfl ?_
  refine r_move (v := .int .i64 n) rfl rfl rfl ?_
  have hpl18 := conH_len kk l m n
  refine r_callN (e := [some (0, 0)]) (nid := 4) (refHCons_ok (G := G) kk hG2 l l.length c rfl (by omega) (by omega) m n) (vals := [slv 0 0 l.length c, .int .i64 m, .int .i64 n]) (v := .tuple #[slv 4 0 ((conH kk l m n).1.length) ((conH kk l m n).1.length), .int .i64 (((conH kk l m n).2))]) (H' := [rwR cItem l, dsB ((incH kk l n i).1), dsB ((incH kk l n i).1), dsB ((conH kk l m n).1), dsB ((conH kk l m n).1)]) rfl rfl rfl rfl rfl rfl rfl ⟨⟨⟨rfl, rfl, rfl, by first | omega | exact Nat.le_refl _, by first | omega | exact Nat.le_refl _⟩, rfl, rfl, trivial⟩, ⟨(emb_rwR rfl), trivial⟩, rfl, rfl, rfl⟩ (by kernel_rfl) (by kernel_rfl) ?_
  refine r_move (v := .tuple #[slv 4 0 ((conH kk l m n).1.length) ((conH kk l m n).1.length), .int .i64 (((conH kk l m n).2))]) rfl rfl rfl ?_
  refine r_extract (vs := #[slv 4 0 ((conH kk l m n).1.length) ((conH kk l m n).1.length), .int .i64 (((conH kk l m n).2))]) (v := slv 4 0 ((conH kk l m n).1.length) ((conH kk l m n).1.length)) rfl rfl rfl rfl ?_
  refine r_extract (vs := #[slv 4 0 ((conH kk l m n).1.length) ((conH kk l m n).1.length), .int .i64 (((conH kk l m n).2))]) (v := .int .i64 (((conH kk l m n).2))) rfl rfl rfl rfl ?_
  refine r_assign (v := slv 4 0 ((conH kk l m n).1.length) ((conH kk l m n).1.length)) rfl rfl rfl ?_
  refine r_assign (v := .int .i64 (((conH kk l m n).2))) rfl rfl rfl ?_
  refine r_doneN (x_then (c_seq (c_reg ?_)))
  refine r_callP (roots_ok (G := G) kk hG hG1) (vals := []) (res' := .bool true) rfl rfl rfl rfl rfl rfl ?_
  refine r_move (v := .bool true) rfl rfl rfl ?_
  refine r_move (v := slv 1 0 ((incH kk l n i).1.length) ((incH kk l n i).1.length)) rfl rfl rfl ?_
  refine r_move (v := slv 2 0 ((incH kk l n i).1.length) ((incH kk l n i).1.length)) rfl rfl rfl ?_
  refine r_callN (e := [some (1, 0), some (2, 0)]) (nid := 0) (Digests_eq (G := G) ((incH kk l n i).1) ((incH kk l n i).1.length) ((incH kk l n i).1.length) ((incH kk l n i).1.length) (rfl : _ = _) (by omega)) (vals := [slv 1 0 ((incH kk l n i).1.length) ((incH kk l n i).1.length), slv 2 0 ((incH kk l n i).1.length) ((incH kk l n i).1.length)]) (v := .bool true) (H' := [rwR cItem l, dsB ((incH kk l n i).1), dsB ((incH kk l n i).1), dsB ((conH kk l m n).1), dsB ((conH kk l m n).1)]) rfl rfl rfl rfl rfl rfl rfl ⟨⟨⟨rfl, rfl, rfl, by first | omega | exact Nat.le_refl _, by first | omega | exact Nat.le_refl _⟩, ⟨rfl, rfl, rfl, by first | omega | exact Nat.le_refl _, by first | omega | exact Nat.le_refl _⟩, trivial⟩, ⟨(emb_dsB rfl), (emb_dsB rfl), trivial⟩, rfl, rfl, rfl⟩ rfl (by kernel_rfl) ?_
  refine r_pick (v := .bool true) rfl rfl rfl ?_
  refine r_move (v := .bool true) rfl rfl rfl ?_
  refine r_move (v := .int .i64 (((incH kk l n i).2))) rfl rfl rfl ?_
  refine r_move (v := .int .i64 (((incH kk l n i).2))) rfl rfl rfl ?_
  refine r_bin (v := .bool true) (vx := .int .i64 (((incH kk l n i).2))) (vy := .int .i64 (((incH kk l n i).2))) rfl rfl rfl rfl (eql_t (by omega)) ?_
  refine r_pick (v := .bool true) rfl rfl rfl ?_
  refine r_move (v := .bool true) rfl rfl rfl ?_
  refine r_move (v := slv 3 0 ((conH kk l m n).1.length) ((conH kk l m n).1.length)) rfl rfl rfl ?_
  refine r_move (v := slv 4 0 ((conH kk l m n).1.length) ((conH kk l m n).1.length)) rfl rfl rfl ?_
  refine r_callN (e := [some (3, 0), some (4, 0)]) (nid := 0) (Digests_eq (G := G) ((conH kk l m n).1) ((conH kk l m n).1.length) ((conH kk l m n).1.length) ((conH kk l m n).1.length) (rfl : _ = _) (by omega)) (vals := [slv 3 0 ((conH kk l m n).1.length) ((conH kk l m n).1.length), slv 4 0 ((conH kk l m n).1.length) ((conH kk l m n).1.length)]) (v := .bool true) (H' := [rwR cItem l, dsB ((incH kk l n i).1), dsB ((incH kk l n i).1), dsB ((conH kk l m n).1), dsB ((conH kk l m n).1)]) rfl rfl rfl rfl rfl rfl rfl ⟨⟨⟨rfl, rfl, rfl, by first | omega | exact Nat.le_refl _, by first | omega | exact Nat.le_refl _⟩, ⟨rfl, rfl, rfl, by first | omega | exact Nat.le_refl _, by first | omega | exact Nat.le_refl _⟩, trivial⟩, ⟨(emb_dsB rfl), (emb_dsB rfl), trivial⟩, rfl, rfl, rfl⟩ rfl (by kernel_rfl) ?_
  refine r_pick (v := .bool true) rfl rfl rfl ?_
  refine r_move (v := .bool true) rfl rfl rfl ?_
  refine r_move (v := .int .i64 (((conH kk l m n).2))) rfl rfl rfl ?_
  refine r_move (v := .int .i64 (((conH kk l m n).2))) rfl rfl rfl ?_
  refine r_bin (v := .bool true) (vx := .int .i64 (((conH kk l m n).2))) (vy := .int .i64 (((conH kk l m n).2))) rfl rfl rfl rfl (eql_t (by omega)) ?_
  refine r_pick (v := .bool true) rfl rfl rfl ?_
  refine r_assign (v := .bool true) rfl rfl rfl ?_
  refine r_doneN (x_then (c_ret (x_end ?_)))
  exact end_map [0] (v := .bool true) rfl (by kernel_rfl) rfl rfl (by decide) (by simp [keptB, rwR, cItem]) rfl
end Go.Flat
