/- Walks and plain laws: what each theorem says, within the bounds that it names. -/
import Derived.Test.YtajjalickpkkkaaDoorX19
set_option linter.unusedVariables false
set_option linter.unusedSimpArgs false
namespace Go.Flat
open Go.Proofs
variable {G : Glob}
theorem CheckBinds_yes (kk : Nat → BitVec 32) (hG : G 1 = some (rowE w32 64 kk)) (hG1 : G 3 = some (rowE u8N 64 dbF)) (hne : sameB 32 (knotF kk (knotF kk (dg1 2) (dg1 2)) (dg1 3)) (knotF kk (knotF kk (dg1 1) (dg1 2)) (dg1 3)) = false) (root : D) (size index : Int) (a : D) (p : List D) (b : D) (q : List D) (m n c c' : Nat) (hm : p.length = m) (hn : q.length = n) (hc : m ≤ c) (hc' : n ≤ c') (size1 : -9223372036854775808 ≤ size) (size2 : size ≤ 9223372036854775807) (index1 : -9223372036854775808 ≤ index) (index2 : index ≤ 9223372036854775807) (hab : sameB 32 a b = false) (hz1 : inclE kk root a size index p = 0) (hz2 : inclE kk root b size index q = 0) (s t : ByteArray) (hcl : clashE kk root size index a p b q = some (s, t)) (hst : sameT s t = false) (hs : s.size = 65) (ht : t.size = 65) (hsh : sameB 32 (shaOf kk (bl s)) (shaOf kk (bl t)) = true) : CallL Tryd.prog G 6 [dgV root, .int .i64 size, .int .i64 index, dgV a, slv 0 0 m c, dgV b, slv 1 0 n c'] [dsR p, dsR q] (.bool true) [dsR p, dsR q] := by
  refine walk (fn := Tryd.f6) (nt := 93) rfl rfl rfl rfl ?_
  refine c_hole 5 (H' := [dsR p, dsR q, hole, hole, hole, hole, hole]) rfl ?_
  refine c_seq ?_
  refine c_reg ?_
  refine r_box (v := dgV root) (b := dgB root) (nid := 2) (H' := [dsR p, dsR q, dgB root, hole, hole, hole, hole]) rfl rfl rfl (by kernel_rfl) (by kernel_rfl) ?_
  refine r_box (v := dgV a) (b := dgB a) (nid := 3) (H' := [dsR p, dsR q, dgB root, dgB a, hole, hole, hole]) rfl rfl rfl (by kernel_rfl) (by kernel_rfl) ?_
  refine r_box (v := dgV b) (b := dgB b) (nid := 4) (H' := [dsR p, dsR q, dgB root, dgB a, dgB b, hole, hole]) rfl rfl rfl (by kernel_rfl) (by kernel_rfl) ?_
  refine r_assign (v := .bool false) rfl rfl rfl ?_
  refine r_doneN ?_
  refine x_then ?_
  refine c_seq ?_
  refine c_seq ?_
  refine c_reg ?_
  refine r_move (v := slv 0 0 m c) rfl rfl rfl ?_
  refine r_len (p := slv 0 0 m c) (v := .int .i64 (m : Nat)) rfl rfl rfl rfl ?_
  by_cases h1 : 200 < (m : Nat)
  · skip
    refine r_bin (v := .bool true) (vx := .int .i64 (m : Nat)) (vy := .int .i64 200) rfl rfl rfl rfl (gtr_t (by omega)) ?_
    refine r_move (v := .bool true) rfl rfl rfl ?_
    refine r_skip rfl rfl ?_
    refine r_skip rfl rfl ?_
    refine r_skip rfl rfl ?_
    refine r_pick (v := .bool true) rfl rfl rfl ?_
    refine r_doneN ?_
    refine x_then ?_
    refine c_true rfl ?_
    refine c_seq ?_
    refine c_reg ?_
    refine r_assign (v := .bool true) rfl rfl rfl ?_
    refine r_doneN ?_
    refine x_then ?_
    refine c_ret ?_
    refine x_thenR ?_
    refine x_end ?_
    exact end_same (v := .bool true) rfl rfl rfl (by simp [keptB, dsR]) rfl
  refine r_bin (v := .bool false) (vx := .int .i64 (m : Nat)) (vy := .int .i64 200) rfl rfl rfl rfl (gtr_f (by omega)) ?_
  refine r_move (v := .bool false) rfl rfl rfl ?_
  refine r_move (v := slv 1 0 n c') rfl rfl rfl ?_
  refine r_len (p := slv 1 0 n c') (v := .int .i64 (n : Nat)) rfl rfl rfl rfl ?_
  by_cases h2 : 200 < (n : Nat)
  · skip
    refine r_bin (v := .bool true) (vx := .int .i64 (n : Nat)) (vy := .int .i64 200) rfl rfl rfl rfl (gtr_t (by omega)) ?_
    refine r_pick (v := .bool true) rfl rfl rfl ?_
    refine r_doneN ?_
    refine x_then ?_
    refine c_true rfl ?_
    refine c_seq ?_
    refine c_reg ?_
    refine r_assign (v := .bool true) rfl rfl rfl ?_
    refine r_doneN ?_
    refine x_then ?_
    refine c_ret ?_
    refine x_thenR ?_
    refine x_end ?_
    exact end_same (v := .bool true) rfl rfl rfl (by simp [keptB, dsR]) rfl
  refine r_bin (v := .bool false) (vx := .int .i64 (n : Nat)) (vy := .int .i64 200) rfl rfl rfl rfl (gtr_f (by omega)) ?_
  refine r_pick (v := .bool false) rfl rfl rfl ?_
  refine r_doneN ?_
  refine x_then ?_
  refine c_false rfl ?_
  refine c_skip ?_
  refine x_then ?_
  refine c_seq ?_
  refine c_reg ?_
  refine r_load (p := pt 2 0) (v := dgV root) rfl rfl rfl (by kernel_rfl) ?_
  refine r_move (v := .int .i64 size) rfl rfl rfl ?_
  refine r_move (v := .int .i64 index) rfl rfl rfl ?_
  refine r_load (p := pt 3 0) (v := dgV a) rfl rfl rfl (by kernel_rfl) ?_
  refine r_move (v := slv 0 0 m c) rfl rfl rfl ?_
  refine r_load (p := pt 4 0) (v := dgV b) rfl rfl rfl (by kernel_rfl) ?_
  refine r_move (v := slv 1 0 n c') rfl rfl rfl ?_
  refine r_callN (e := [some (0, 0), some (1, 0)]) (nid := 0) ((Clash_ok (G := G) kk hG root size index a p b q m n c c' hm hn (by omega) (by omega) (by omega) (by omega) (by omega) (by omega) (by omega) (by omega)).res (congrArg clashV hcl)) (vals := [dgV root, .int .i64 size, .int .i64 index, dgV a, slv 0 0 m c, dgV b, slv 1 0 n c']) (v := .tuple #[.string s, .string t, .bool true]) (H' := [dsR p, dsR q, dgB root, dgB a, dgB b, hole, hole]) rfl rfl rfl rfl rfl rfl rfl ⟨⟨rfl, rfl, rfl, rfl, ⟨rfl, rfl, rfl, by omega, by omega⟩, rfl, ⟨rfl, rfl, rfl, by omega, by omega⟩, trivial⟩, ⟨(emb_dsR rfl), (emb_dsR rfl), trivial⟩, rfl, rfl, rfl⟩ (by kernel_rfl) (by kernel_rfl) ?_
  refine r_move (v := .tuple #[.string s, .string t, .bool true]) rfl rfl rfl ?_
  refine r_extract (vs := #[.string s, .string t, .bool true]) (v := .string s) rfl rfl rfl rfl ?_
  refine r_extract (vs := #[.string s, .string t, .bool true]) (v := .string t) rfl rfl rfl rfl ?_
  refine r_extract (vs := #[.string s, .string t, .bool true]) (v := .bool true) rfl rfl rfl rfl ?_
  refine r_assign (v := .string s) rfl rfl rfl ?_
  refine r_assign (v := .string t) rfl rfl rfl ?_
  refine r_assign (v := .bool true) rfl rfl rfl ?_
  refine r_doneN ?_
  refine x_then ?_
  refine c_seq ?_
  refine c_reg ?_
  refine r_load (p := pt 2 0) (v := dgV root) rfl rfl rfl (by kernel_rfl) ?_
  refine r_move (v := .int .i64 size) rfl rfl rfl ?_
  refine r_move (v := .int .i64 index) rfl rfl rfl ?_
  refine r_load (p := pt 3 0) (v := dgV a) rfl rfl rfl (by kernel_rfl) ?_
  refine r_move (v := slv 0 0 m c) rfl rfl rfl ?_
  refine r_callN (e := [some (0, 0)]) (nid := 0) ((Included_ok (G := G) kk hG root a size index p m c hm (by omega) (by omega) (by omega) (by omega) (by omega) (by omega)).res (congrArg (Value.int .i64) hz1)) (vals := [dgV root, .int .i64 size, .int .i64 index, dgV a, slv 0 0 m c]) (v := .int .i64 0) (H' := [dsR p, dsR q, dgB root, dgB a, dgB b, hole, hole]) rfl rfl rfl rfl rfl rfl rfl ⟨⟨rfl, rfl, rfl, rfl, ⟨rfl, rfl, rfl, by omega, by omega⟩, trivial⟩, ⟨(emb_dsR rfl), trivial⟩, rfl, rfl, rfl⟩ rfl (by kernel_rfl) ?_
  refine r_bin (v := .bool true) (vx := .int .i64 0) (vy := .int .i64 0) rfl rfl rfl rfl (eql_t (by omega)) ?_
  refine r_move (v := .bool true) rfl rfl rfl ?_
  refine r_load (p := pt 2 0) (v := dgV root) rfl rfl rfl (by kernel_rfl) ?_
  refine r_move (v := .int .i64 size) rfl rfl rfl ?_
  refine r_move (v := .int .i64 index) rfl rfl rfl ?_
  refine r_load (p := pt 4 0) (v := dgV b) rfl rfl rfl (by kernel_rfl) ?_
  refine r_move (v := slv 1 0 n c') rfl rfl rfl ?_
  refine r_callN (e := [some (1, 0)]) (nid := 0) ((Included_ok (G := G) kk hG root b size index q n c' hn (by omega) (by omega) (by omega) (by omega) (by omega) (by omega)).res (congrArg (Value.int .i64) hz2)) (vals := [dgV root, .int .i64 size, .int .i64 index, dgV b, slv 1 0 n c']) (v := .int .i64 0) (H' := [dsR p, dsR q, dgB root, dgB a, dgB b, hole, hole]) rfl rfl rfl rfl rfl rfl rfl ⟨⟨rfl, rfl, rfl, rfl, ⟨rfl, rfl, rfl, by omega, by omega⟩, trivial⟩, ⟨(emb_dsR rfl), trivial⟩, rfl, rfl, rfl⟩ rfl (by kernel_rfl) ?_
  refine r_bin (v := .bool true) (vx := .int .i64 0) (vy := .int .i64 0) rfl rfl rfl rfl (eql_t (by omega)) ?_
  refine r_pick (v := .bool true) rfl rfl rfl ?_
  refine r_move (v := .bool true) rfl rfl rfl ?_
  refine r_load (p := pt 3 0) (v := dgV a) rfl rfl rfl (by kernel_rfl) ?_
  refine r_load (p := pt 4 0) (v := dgV b) rfl rfl rfl (by kernel_rfl) ?_
  refine r_bin (v := .bool true) (vx := dgV a) (vy := dgV b) rfl rfl rfl rfl (Eq.trans (neq_dg (n := 32) (a := a) (b := b) (by kernel_rfl) rfl rfl rfl) (by rw [hab] <;> rfl)) ?_
  refine r_pick (v := .bool true) rfl rfl rfl ?_
  refine r_assign (v := .bool true) rfl rfl rfl ?_
  refine r_doneN ?_
  refine x_then ?_
  refine c_seq ?_
  refine c_seq ?_
  refine c_reg ?_
  refine r_move (v := .bool true) rfl rfl rfl ?_
  refine r_un (v := .bool false) (vx := .bool true) rfl rfl rfl un_not ?_
  refine r_doneN ?_
  refine x_then ?_
  refine c_false rfl ?_
  refine c_skip ?_
  refine x_then ?_
  refine c_seq ?_
  refine c_reg ?_
  refine r_callP (three05_ok (G := G) kk hG hG1 hne) (vals := []) (res' := .bool true) rfl rfl rfl rfl rfl rfl ?_
  refine r_move (v := .bool true) rfl rfl rfl ?_
  refine r_move (v := .bool true) rfl rfl rfl ?_
  refine r_pick (v := .bool true) rfl rfl rfl ?_
  refine r_move (v := .bool true) rfl rfl rfl ?_
  refine r_move (v := .string s) rfl rfl rfl ?_
  refine r_move (v := .string t) rfl rfl rfl ?_
  refine r_bin (v := .bool true) (vx := .string s) (vy := .string t) rfl rfl rfl rfl (Eq.trans (neq_str _ _) (by rw [hst] <;> rfl)) ?_
  refine r_pick (v := .bool true) rfl rfl rfl ?_
  refine r_move (v := .bool true) rfl rfl rfl ?_
  refine r_move (v := .string s) rfl rfl rfl ?_
  refine r_lit (vs := [(0, .string s)]) (v := slv 5 0 1 1) (blk := txB [s]) (nid := 5) (H' := [dsR p, dsR q, dgB root, dgB a, dgB b, txB [s], hole]) rfl rfl rfl (by kernel_rfl) (by kernel_rfl) ?_
  refine r_callN (e := [some (5, 0)]) (nid := 0) (Of1_ok (G := G) kk hG s (by omega)) (vals := [slv 5 0 1 1]) (v := dgV (shaOf kk (bl s))) (H' := [dsR p, dsR q, dgB root, dgB a, dgB b, txB [s], hole]) rfl rfl rfl rfl rfl rfl rfl ⟨⟨⟨rfl, rfl, rfl, by omega, by omega⟩, trivial⟩, ⟨(emb_tx rfl), trivial⟩, rfl, rfl, rfl⟩ (by kernel_rfl) (by kernel_rfl) ?_
  refine r_move (v := .string t) rfl rfl rfl ?_
  refine r_lit (vs := [(0, .string t)]) (v := slv 6 0 1 1) (blk := txB [t]) (nid := 6) (H' := [dsR p, dsR q, dgB root, dgB a, dgB b, txB [s], txB [t]]) rfl rfl rfl (by kernel_rfl) (by kernel_rfl) ?_
  refine r_callN (e := [some (6, 0)]) (nid := 0) (Of1_ok (G := G) kk hG t (by omega)) (vals := [slv 6 0 1 1]) (v := dgV (shaOf kk (bl t))) (H' := [dsR p, dsR q, dgB root, dgB a, dgB b, txB [s], txB [t]]) rfl rfl rfl rfl rfl rfl rfl ⟨⟨⟨rfl, rfl, rfl, by omega, by omega⟩, trivial⟩, ⟨(emb_tx rfl), trivial⟩, rfl, rfl, rfl⟩ (by kernel_rfl) (by kernel_rfl) ?_
  refine r_bin (v := .bool true) (vx := dgV (shaOf kk (bl s))) (vy := dgV (shaOf kk (bl t))) rfl rfl rfl rfl (Eq.trans (eql_dg (n := 32) (a := (shaOf kk (bl s))) (b := (shaOf kk (bl t))) (by kernel_rfl) rfl rfl rfl) (by rw [hsh] <;> rfl)) ?_
  refine r_pick (v := .bool true) rfl rfl rfl ?_
  refine r_assign (v := .bool true) rfl rfl rfl ?_
  refine r_doneN ?_
  refine x_then ?_
  refine c_ret ?_
  refine x_end ?_
  exact end_same (v := .bool true) rfl rfl rfl (by simp [keptB, dsR]) rfl
theorem CheckBinds_no (kk : Nat → BitVec 32) (hG : G 1 = some (rowE w32 64 kk)) (hG1 : G 3 = some (rowE u8N 64 dbF)) (hne : sameB 32 (knotF kk (knotF kk (dg1 2) (dg1 2)) (dg1 3)) (knotF kk (knotF kk (dg1 1) (dg1 2)) (dg1 3)) = false) (root : D) (size index : Int) (a : D) (p : List D) (b : D) (q : List D) (m n c c' : Nat) (hm : p.length = m) (hn : q.length = n) (hc : m ≤ c) (hc' : n ≤ c') (size1 : -9223372036854775808 ≤ size) (size2 : size ≤ 9223372036854775807) (index1 : -9223372036854775808 ≤ index) (index2 : index ≤ 9223372036854775807) (hcl : clashE kk root size index a p b q = none) (hno : sameB 32 a b = true ∨ inclE kk root a size index p ≠ 0 ∨ inclE kk root b size index q ≠ 0) : CallL Tryd.prog G 6 [dgV root, .int .i64 size, .int .i64 index, dgV a, slv 0 0 m c, dgV b, slv 1 0 n c'] [dsR p, dsR q] (.bool true) [dsR p, dsR q] := by
  refine walk (fn := Tryd.f6) (nt := 93) rfl rfl rfl rfl ?_
  refine c_hole 3 (H' := [dsR p, dsR q, hole, hole, hole]) rfl ?_
  refine c_seq ?_
  refine c_reg ?_
  refine r_box (v := dgV root) (b := dgB root) (nid := 2) (H' := [dsR p, dsR q, dgB root, hole, hole]) rfl rfl rfl (by kernel_rfl) (by kernel_rfl) ?_
  refine r_box (v := dgV a) (b := dgB a) (nid := 3) (H' := [dsR p, dsR q, dgB root, dgB a, hole]) rfl rfl rfl (by kernel_rfl) (by kernel_rfl) ?_
  refine r_box (v := dgV b) (b := dgB b) (nid := 4) (H' := [dsR p, dsR q, dgB root, dgB a, dgB b]) rfl rfl rfl (by kernel_rfl) (by kernel_rfl) ?_
  refine r_assign (v := .bool false) rfl rfl rfl ?_
  refine r_doneN ?_
  refine x_then ?_
  refine c_seq ?_
  refine c_seq ?_
  refine c_reg ?_
  refine r_move (v := slv 0 0 m c) rfl rfl rfl ?_
  refine r_len (p := slv 0 0 m c) (v := .int .i64 (m : Nat)) rfl rfl rfl rfl ?_
  by_cases h1 : 200 < (m : Nat)
  · skip
    refine r_bin (v := .bool true) (vx := .int .i64 (m : Nat)) (vy := .int .i64 200) rfl rfl rfl rfl (gtr_t (by omega)) ?_
    refine r_move (v := .bool true) rfl rfl rfl ?_
    refine r_skip rfl rfl ?_
    refine r_skip rfl rfl ?_
    refine r_skip rfl rfl ?_
    refine r_pick (v := .bool true) rfl rfl rfl ?_
    refine r_doneN ?_
    refine x_then ?_
    refine c_true rfl ?_
    refine c_seq ?_
    refine c_reg ?_
    refine r_assign (v := .bool true) rfl rfl rfl ?_
    refine r_doneN ?_
    refine x_then ?_
    refine c_ret ?_
    refine x_thenR ?_
    refine x_end ?_
    exact end_same (v := .bool true) rfl rfl rfl (by simp [keptB, dsR]) rfl
  refine r_bin (v := .bool false) (vx := .int .i64 (m : Nat)) (vy := .int .i64 200) rfl rfl rfl rfl (gtr_f (by omega)) ?_
  refine r_move (v := .bool false) rfl rfl rfl ?_
  refine r_move (v := slv 1 0 n c') rfl rfl rfl ?_
  refine r_len (p := slv 1 0 n c') (v := .int .i64 (n : Nat)) rfl rfl rfl rfl ?_
  by_cases h2 : 200 < (n : Nat)
  · skip
    refine r_bin (v := .bool true) (vx := .int .i64 (n : Nat)) (vy := .int .i64 200) rfl rfl rfl rfl (gtr_t (by omega)) ?_
    refine r_pick (v := .bool true) rfl rfl rfl ?_
    refine r_doneN ?_
    refine x_then ?_
    refine c_true rfl ?_
    refine c_seq ?_
    refine c_reg ?_
    refine r_assign (v := .bool true) rfl rfl rfl ?_
    refine r_doneN ?_
    refine x_then ?_
    refine c_ret ?_
    refine x_thenR ?_
    refine x_end ?_
    exact end_same (v := .bool true) rfl rfl rfl (by simp [keptB, dsR]) rfl
  refine r_bin (v := .bool false) (vx := .int .i64 (n : Nat)) (vy := .int .i64 200) rfl rfl rfl rfl (gtr_f (by omega)) ?_
  refine r_pick (v := .bool false) rfl rfl rfl ?_
  refine r_doneN ?_
  refine x_then ?_
  refine c_false rfl ?_
  refine c_skip ?_
  refine x_then ?_
  refine c_seq ?_
  refine c_reg ?_
  refine r_load (p := pt 2 0) (v := dgV root) rfl rfl rfl (by kernel_rfl) ?_
  refine r_move (v := .int .i64 size) rfl rfl rfl ?_
  refine r_move (v := .int .i64 index) rfl rfl rfl ?_
  refine r_load (p := pt 3 0) (v := dgV a) rfl rfl rfl (by kernel_rfl) ?_
  refine r_move (v := slv 0 0 m c) rfl rfl rfl ?_
  refine r_load (p := pt 4 0) (v := dgV b) rfl rfl rfl (by kernel_rfl) ?_
  refine r_move (v := slv 1 0 n c') rfl rfl rfl ?_
  refine r_callN (e := [some (0, 0), some (1, 0)]) (nid := 0) ((Clash_ok (G := G) kk hG root size index a p b q m n c c' hm hn (by omega) (by omega) (by omega) (by omega) (by omega) (by omega) (by omega) (by omega)).res (congrArg clashV hcl)) (vals := [dgV root, .int .i64 size, .int .i64 index, dgV a, slv 0 0 m c, dgV b, slv 1 0 n c']) (v := .tuple #[.string ⟨#[]⟩, .string ⟨#[]⟩, .bool false]) (H' := [dsR p, dsR q, dgB root, dgB a, dgB b]) rfl rfl rfl rfl rfl rfl rfl ⟨⟨rfl, rfl, rfl, rfl, ⟨rfl, rfl, rfl, by omega, by omega⟩, rfl, ⟨rfl, rfl, rfl, by omega, by omega⟩, trivial⟩, ⟨(emb_dsR rfl), (emb_dsR rfl), trivial⟩, rfl, rfl, rfl⟩ (by kernel_rfl) (by kernel_rfl) ?_
  refine r_move (v := .tuple #[.string ⟨#[]⟩, .string ⟨#[]⟩, .bool false]) rfl rfl rfl ?_
  refine r_extract (vs := #[.string ⟨#[]⟩, .string ⟨#[]⟩, .bool false]) (v := .string ⟨#[]⟩) rfl rfl rfl rfl ?_
  refine r_extract (vs := #[.string ⟨#[]⟩, .string ⟨#[]⟩, .bool false]) (v := .string ⟨#[]⟩) rfl rfl rfl rfl ?_
  refine r_extract (vs := #[.string ⟨#[]⟩, .string ⟨#[]⟩, .bool false]) (v := .bool false) rfl rfl rfl rfl ?_
  refine r_assign (v := .string ⟨#[]⟩) rfl rfl rfl ?_
  refine r_assign (v := .string ⟨#[]⟩) rfl rfl rfl ?_
  refine r_assign (v := .bool false) rfl rfl rfl ?_
  refine r_doneN ?_
  refine x_then ?_
  refine c_seq ?_
  refine c_reg ?_
  refine r_load (p := pt 2 0) (v := dgV root) rfl rfl rfl (by kernel_rfl) ?_
  refine r_move (v := .int .i64 size) rfl rfl rfl ?_
  refine r_move (v := .int .i64 index) rfl rfl rfl ?_
  refine r_load (p := pt 3 0) (v := dgV a) rfl rfl rfl (by kernel_rfl) ?_
  refine r_move (v := slv 0 0 m c) rfl rfl rfl ?_
  refine r_callN (e := [some (0, 0)]) (nid := 0) (Included_ok (G := G) kk hG root a size index p m c hm (by omega) (by omega) (by omega) (by omega) (by omega) (by omega)) (vals := [dgV root, .int .i64 size, .int .i64 index, dgV a, slv 0 0 m c]) (v := .int .i64 ((inclE kk root a size index p))) (H' := [dsR p, dsR q, dgB root, dgB a, dgB b]) rfl rfl rfl rfl rfl rfl rfl ⟨⟨rfl, rfl, rfl, rfl, ⟨rfl, rfl, rfl, by omega, by omega⟩, trivial⟩, ⟨(emb_dsR rfl), trivial⟩, rfl, rfl, rfl⟩ rfl (by kernel_rfl) ?_
  by_cases h3 : ((inclE kk root a size index p)) = 0
  · skip
    refine r_bin (v := .bool true) (vx := .int .i64 ((inclE kk root a size index p))) (vy := .int .i64 0) rfl rfl rfl rfl (eql_t (by omega)) ?_
    refine r_move (v := .bool true) rfl rfl rfl ?_
    refine r_load (p := pt 2 0) (v := dgV root) rfl rfl rfl (by kernel_rfl) ?_
    refine r_move (v := .int .i64 size) rfl rfl rfl ?_
    refine r_move (v := .int .i64 index) rfl rfl rfl ?_
    refine r_load (p := pt 4 0) (v := dgV b) rfl rfl rfl (by kernel_rfl) ?_
    refine r_move (v := slv 1 0 n c') rfl rfl rfl ?_
    refine r_callN (e := [some (1, 0)]) (nid := 0) (Included_ok (G := G) kk hG root b size index q n c' hn (by omega) (by omega) (by omega) (by omega) (by omega) (by omega)) (vals := [dgV root, .int .i64 size, .int .i64 index, dgV b, slv 1 0 n c']) (v := .int .i64 ((inclE kk root b size index q))) (H' := [dsR p, dsR q, dgB root, dgB a, dgB b]) rfl rfl rfl rfl rfl rfl rfl ⟨⟨rfl, rfl, rfl, rfl, ⟨rfl, rfl, rfl, by omega, by omega⟩, trivial⟩, ⟨(emb_dsR rfl), trivial⟩, rfl, rfl, rfl⟩ rfl (by kernel_rfl) ?_
    by_cases h4 : ((inclE kk root b size index q)) = 0
    · skip
      refine r_bin (v := .bool true) (vx := .int .i64 ((inclE kk root b size index q))) (vy := .int .i64 0) rfl rfl rfl rfl (eql_t (by omega)) ?_
      refine r_pick (v := .bool true) rfl rfl rfl ?_
      refine r_move (v := .bool true) rfl rfl rfl ?_
      refine r_load (p := pt 3 0) (v := dgV a) rfl rfl rfl (by kernel_rfl) ?_
      refine r_load (p := pt 4 0) (v := dgV b) rfl rfl rfl (by kernel_rfl) ?_
      rcases Bool.eq_false_or_eq_true (sameB 32 a b) with h5 | h5
      · skip
        refine r_bin (v := .bool false) (vx := dgV a) (vy := dgV b) rfl rfl rfl rfl (Eq.trans (neq_dg (n := 32) (a := a) (b := b) (by kernel_rfl) rfl rfl rfl) (by rw [h5] <;> rfl)) ?_
        refine r_pick (v := .bool false) rfl rfl rfl ?_
        refine r_assign (v := .bool false) rfl rfl rfl ?_
        refine r_doneN ?_
        refine x_then ?_
        refine c_seq ?_
        refine c_seq ?_
        refine c_reg ?_
        refine r_move (v := .bool false) rfl rfl rfl ?_
        refine r_un (v := .bool true) (vx := .bool false) rfl rfl rfl un_not ?_
        refine r_doneN ?_
        refine x_then ?_
        refine c_true rfl ?_
        refine c_seq ?_
        refine c_reg ?_
        refine r_callP (three05_ok (G := G) kk hG hG1 hne) (vals := []) (res' := .bool true) rfl rfl rfl rfl rfl rfl ?_
        refine r_move (v := .bool true) rfl rfl rfl ?_
        refine r_move (v := .bool false) rfl rfl rfl ?_
        refine r_un (v := .bool true) (vx := .bool false) rfl rfl rfl un_not ?_
        refine r_pick (v := .bool true) rfl rfl rfl ?_
        refine r_move (v := .bool true) rfl rfl rfl ?_
        refine r_move (v := .string ⟨#[]⟩) rfl rfl rfl ?_
        refine r_bin (v := .bool true) (vx := .string ⟨#[]⟩) (vy := .string ⟨#[]⟩) rfl rfl rfl rfl (Eq.trans (eql_str _ _) (by rw [(sameT_refl _)] <;> rfl)) ?_
        refine r_pick (v := .bool true) rfl rfl rfl ?_
        refine r_move (v := .bool true) rfl rfl rfl ?_
        refine r_move (v := .string ⟨#[]⟩) rfl rfl rfl ?_
        refine r_bin (v := .bool true) (vx := .string ⟨#[]⟩) (vy := .string ⟨#[]⟩) rfl rfl rfl rfl (Eq.trans (eql_str _ _) (by rw [(sameT_refl _)] <;> rfl)) ?_
        refine r_pick (v := .bool true) rfl rfl rfl ?_
        refine r_assign (v := .bool true) rfl rfl rfl ?_
        refine r_doneN ?_
        refine x_then ?_
        refine c_ret ?_
        refine x_thenR ?_
        refine x_end ?_
        exact end_same (v := .bool true) rfl rfl rfl (by simp [keptB, dsR]) rfl
      refine r_bin (v := .bool true) (vx := dgV a) (vy := dgV b) rfl rfl rfl rfl (Eq.trans (neq_dg (n := 32) (a := a) (b := b) (by kernel_rfl) rfl rfl rfl) (by rw [h5] <;> rfl)) ?_
      refine r_pick (v := .bool true) rfl rfl rfl ?_
      refine r_assign (v := .bool true) rfl rfl rfl ?_
      refine r_doneN ?_
      refine x_then ?_
      refine c_seq ?_
      refine c_seq ?_
      refine c_reg ?_
      refine r_move (v := .bool true) rfl rfl rfl ?_
      refine r_un (v := .bool false) (vx := .bool true) rfl rfl rfl un_not ?_
      refine r_doneN ?_
      refine x_then ?_
      refine c_false rfl ?_
      refine c_skip ?_
      refine x_then ?_
      refine c_seq ?_
      refine c_reg ?_
      refine r_callP (three05_ok (G := G) kk hG hG1 hne) (vals := []) (res' := .bool true) rfl rfl rfl rfl rfl rfl ?_
      refine r_move (v := .bool true) rfl rfl rfl ?_
      refine r_move (v := .bool false) rfl rfl rfl ?_
      refine r_pick (v := .bool false) rfl rfl rfl ?_
      refine r_move (v := .bool false) rfl rfl rfl ?_
      refine r_skip rfl rfl ?_
      refine r_skip rfl rfl ?_
      refine r_skip rfl rfl ?_
      refine r_pick (v := .bool false) rfl rfl rfl ?_
      refine r_move (v := .bool false) rfl rfl rfl ?_
      refine r_skip rfl rfl ?_
      refine r_skip rfl rfl ?_
      refine r_skip rfl rfl ?_
      refine r_skip rfl rfl ?_
      refine r_skip rfl rfl ?_
      refine r_skip rfl rfl ?_
      refine r_skip rfl rfl ?_
      refine r_pick (v := .bool false) rfl rfl rfl ?_
      refine r_assign (v := .bool false) rfl rfl rfl ?_
      refine r_doneN ?_
      refine x_then ?_
      refine c_ret ?_
      refine x_end ?_
      exact absurd hno (by simp_all)
    refine r_bin (v := .bool false) (vx := .int .i64 ((inclE kk root b size index q))) (vy := .int .i64 0) rfl rfl rfl rfl (eql_f (by omega)) ?_
    refine r_pick (v := .bool false) rfl rfl rfl ?_
    refine r_move (v := .bool false) rfl rfl rfl ?_
    refine r_skip rfl rfl ?_
    refine r_skip rfl rfl ?_
    refine r_skip rfl rfl ?_
    refine r_pick (v := .bool false) rfl rfl rfl ?_
    refine r_assign (v := .bool false) rfl rfl rfl ?_
    refine r_doneN ?_
    refine x_then ?_
    refine c_seq ?_
    refine c_seq ?_
    refine c_reg ?_
    refine r_move (v := .bool false) rfl rfl rfl ?_
    refine r_un (v := .bool true) (vx := .bool false) rfl rfl rfl un_not ?_
    refine r_doneN ?_
    refine x_then ?_
    refine c_true rfl ?_
    refine c_seq ?_
    refine c_reg ?_
    refine r_callP (three05_ok (G := G) kk hG hG1 hne) (vals := []) (res' := .bool true) rfl rfl rfl rfl rfl rfl ?_
    refine r_move (v := .bool true) rfl rfl rfl ?_
    refine r_move (v := .bool false) rfl rfl rfl ?_
    refine r_un (v := .bool true) (vx := .bool false) rfl rfl rfl un_not ?_
    refine r_pick (v := .bool true) rfl rfl rfl ?_
    refine r_move (v := .bool true) rfl rfl rfl ?_
    refine r_move (v := .string ⟨#[]⟩) rfl rfl rfl ?_
    refine r_bin (v := .bool true) (vx := .string ⟨#[]⟩) (vy := .string ⟨#[]⟩) rfl rfl rfl rfl (Eq.trans (eql_str _ _) (by rw [(sameT_refl _)] <;> rfl)) ?_
    refine r_pick (v := .bool true) rfl rfl rfl ?_
    refine r_move (v := .bool true) rfl rfl rfl ?_
    refine r_move (v := .string ⟨#[]⟩) rfl rfl rfl ?_
    refine r_bin (v := .bool true) (vx := .string ⟨#[]⟩) (vy := .string ⟨#[]⟩) rfl rfl rfl rfl (Eq.trans (eql_str _ _) (by rw [(sameT_refl _)] <;> rfl)) ?_
    refine r_pick (v := .bool true) rfl rfl rfl ?_
    refine r_assign (v := .bool true) rfl rfl rfl ?_
    refine r_doneN ?_
    refine x_then ?_
    refine c_ret ?_
    refine x_thenR ?_
    refine x_end ?_
    exact end_same (v := .bool true) rfl rfl rfl (by simp [keptB, dsR]) rfl
  refine r_bin (v := .bool false) (vx := .int .i64 ((inclE kk root a size index p))) (vy := .int .i64 0) rfl rfl rfl rfl (eql_f (by omega)) ?_
  refine r_move (v := .bool false) rfl rfl rfl ?_
  refine r_skip rfl rfl ?_
  refine r_skip rfl rfl ?_
  refine r_skip rfl rfl ?_
  refine r_skip rfl rfl ?_
  refine r_skip rfl rfl ?_
  refine r_skip rfl rfl ?_
  refine r_skip rfl rfl ?_
  refine r_pick (v := .bool false) rfl rfl rfl ?_
  refine r_move (v := .bool false) rfl rfl rfl ?_
  refine r_skip rfl rfl ?_
  refine r_skip rfl rfl ?_
  refine r_skip rfl rfl ?_
  refine r_pick (v := .bool false) rfl rfl rfl ?_
  refine r_assign (v := .bool false) rfl rfl rfl ?_
  refine r_doneN ?_
  refine x_then ?_
  refine c_seq ?_
  refine c_seq ?_
  refine c_reg ?_
  refine r_move (v := .bool false) rfl rfl rfl ?_
  refine r_un (v := .bool true) (vx := .bool false) rfl rfl rfl un_not ?_
  refine r_doneN ?_
  refine x_then ?_
  refine c_true rfl ?_
  refine c_seq ?_
  refine c_reg ?_
  refine r_callP (three05_ok (G := G) kk hG hG1 hne) (vals := []) (res' := .bool true) rfl rfl rfl rfl rfl rfl ?_
  refine r_move (v := .bool true) rfl rfl rfl ?_
  refine r_move (v := .bool false) rfl rfl rfl ?_
  refine r_un (v := .bool true) (vx := .bool false) rfl rfl rfl un_not ?_
  refine r_pick (v := .bool true) rfl rfl rfl ?_
  refine r_move (v := .bool true) rfl rfl rfl ?_
  refine r_move (v := .string ⟨#[]⟩) rfl rfl rfl ?_
  refine r_bin (v := .bool true) (vx := .string ⟨#[]⟩) (vy := .string ⟨#[]⟩) rfl rfl rfl rfl (Eq.trans (eql_str _ _) (by rw [(sameT_refl _)] <;> rfl)) ?_
  refine r_pick (v := .bool true) rfl rfl rfl ?_
  refine r_move (v := .bool true) rfl rfl rfl ?_
  refine r_move (v := .string ⟨#[]⟩) rfl rfl rfl ?_
  refine r_bin (v := .bool true) (vx := .string ⟨#[]⟩) (vy := .string ⟨#[]⟩) rfl rfl rfl rfl (Eq.trans (eql_str _ _) (by rw [(sameT_refl _)] <;> rfl)) ?_
  refine r_pick (v := .bool true) rfl rfl rfl ?_
  refine r_assign (v := .bool true) rfl rfl rfl ?_
  refine r_doneN ?_
  refine x_then ?_
  refine c_ret ?_
  refine x_thenR ?_
  refine x_end ?_
  exact end_same (v := .bool true) rfl rfl rfl (by simp [keptB, dsR]) rfl
theorem CheckBinds_ok (kk : Nat → BitVec 32) (hG : G 1 = some (rowE w32 64 kk)) (hG1 : G 3 = some (rowE u8N 64 dbF)) (hne : sameB 32 (knotF kk (knotF kk (dg1 2) (dg1 2)) (dg1 3)) (knotF kk (knotF kk (dg1 1) (dg1 2)) (dg1 3)) = false) (root : D) (size index : Int) (a : D) (p : List D) (b : D) (q : List D) (m n c c' : Nat) (hm : p.length = m) (hn : q.length = n) (hc : m ≤ c) (hc' : n ≤ c') (size1 : -9223372036854775808 ≤ size) (size2 : size ≤ 9223372036854775807) (index1 : -9223372036854775808 ≤ index) (index2 : index ≤ 9223372036854775807) : CallL Tryd.prog G 6 [dgV root, .int .i64 size, .int .i64 index, dgV a, slv 0 0 m c, dgV b, slv 1 0 n c'] [dsR p, dsR q] (.bool true) [dsR p, dsR q] := by
  by_cases hy : sameB 32 a b = false ∧ inclE kk root a size index p = 0 ∧ inclE kk root b size index q = 0
  · obtain ⟨hab, hz1, hz2⟩ := hy
    obtain ⟨s, t, g1, g2, g3, g4, g5⟩ := binds_ok kk hab hz1 hz2
    exact CheckBinds_yes (G := G) kk hG hG1 hne root size index a p b q m n c c' hm hn hc hc' size1 size2 index1 index2 hab hz1 hz2 s t g1 g2 g3 g4 g5
  · have hno : sameB 32 a b = true ∨ inclE kk root a size index p ≠ 0 ∨ inclE kk root b size index q ≠ 0 := by
      cases h : sameB 32 a b with
      | true => exact .inl rfl
      | false =>
        refine .inr ?_
        by_cases z1 : inclE kk root a size index p = 0
        · exact .inr fun z2 => hy ⟨h, z1, z2⟩
        · exact .inl z1
    exact CheckBinds_no (G := G) kk hG hG1 hne root size index a p b q m n c c' hm hn hc hc' size1 size2 index1 index2 (binds_no kk hno) hno
end Go.Flat
