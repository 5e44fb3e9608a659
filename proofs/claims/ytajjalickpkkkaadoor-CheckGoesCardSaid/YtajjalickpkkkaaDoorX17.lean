/- Walks and plain laws: what each theorem says, within the bounds that it names. -/
import Derived.Test.YtajjalickpkkkaaDoorX16
import Derived.Test.YtajjalickpkkkaaDoorRefLaws
set_option linter.unusedVariables false
set_option linter.unusedSimpArgs false
namespace Go.Flat
open Go.Proofs
variable {G : Glob}
def clX (o : Option (ByteArray × ByteArray)) : ByteArray := match o with | none => ⟨#[]⟩ | some p => p.1
def clY (o : Option (ByteArray × ByteArray)) : ByteArray := match o with | none => ⟨#[]⟩ | some p => p.2
theorem clashV_eq (o : Option (ByteArray × ByteArray)) : clashV o = .tuple #[.string (clX o), .string (clY o), .bool o.isSome] := by cases o <;> rfl
theorem CheckIncludes_ok (kk : Nat → BitVec 32) (hG : G 1 = some (rowE w32 64 kk)) (hG1 : G 3 = some (rowE u8N 64 dbF)) (hG0 : G 0 = some (rowE w32 64 kk)) (hne : sameB 32 (knotF kk (knotF kk (dg1 2) (dg1 2)) (dg1 3)) (knotF kk (knotF kk (dg1 1) (dg1 2)) (dg1 3)) = false) (root : D) (size index : Int) (leaf : D) (ds : List D) (n c : Nat) (hn : ds.length = n) (hc : n ≤ c) (size1 : -9223372036854775808 ≤ size) (size2 : size ≤ 9223372036854775807) (index1 : -9223372036854775808 ≤ index) (index2 : index ≤ 9223372036854775807) : CallL Tryd.prog G 3 [dgV root, .int .i64 size, .int .i64 index, dgV leaf, slv 0 0 n c] [dsR ds] (.bool true) [dsR ds] := by
  refine walk (fn := Tryd.f3) (nt := 40) rfl rfl rfl rfl ?_
  refine c_hole 3 (H' := [dsR ds, hole, hole, hole]) rfl ?_
  refine c_seq ?_
  refine c_reg ?_
  refine r_box (v := dgV root) (b := dgB root) (nid := 1) (H' := [dsR ds, dgB root, hole, hole]) rfl rfl rfl (by kernel_rfl) (by kernel_rfl) ?_
  refine r_box (v := dgV leaf) (b := dgB leaf) (nid := 2) (H' := [dsR ds, dgB root, dgB leaf, hole]) rfl rfl rfl (by kernel_rfl) (by kernel_rfl) ?_
  refine r_assign (v := .bool false) rfl rfl rfl ?_
  refine r_doneN ?_
  refine x_then ?_
  refine c_seq ?_
  refine c_seq ?_
  refine c_reg ?_
  refine r_move (v := slv 0 0 n c) rfl rfl rfl ?_
  refine r_len (p := slv 0 0 n c) (v := .int .i64 (n : Nat)) rfl rfl rfl rfl ?_
  by_cases h1 : 200 < (n : Nat)
  · skip
    refine r_bin (v := .bool true) (vx := .int .i64 (n : Nat)) (vy := .int .i64 200) rfl rfl rfl rfl (gtr_t (by omega)) ?_
    refine r_doneN ?_
    refine x_then ?_
    refine c_true rfl ?_
    refine c_seq ?_
    refine c_reg ?_
    refine r_assign (v := .bool true) rfl rfl rfl ?_
    refine r_doneN ?_
    refine x_then ?_
    refine c_ret ?_
    refine x_thenR ?_
    refine x_end ?_
    exact end_same (v := .bool true) rfl rfl rfl (by simp [keptB, dsR]) rfl
  refine r_bin (v := .bool false) (vx := .int .i64 (n : Nat)) (vy := .int .i64 200) rfl rfl rfl rfl (gtr_f (by omega)) ?_
  refine r_doneN ?_
  refine x_then ?_
  refine c_false rfl ?_
  refine c_skip ?_
  refine x_then ?_
  refine c_seq ?_
  refine c_reg ?_
  refine r_move (v := slv 0 0 n c) rfl rfl rfl ?_
  refine r_callN (e := [some (0, 0)]) (nid := 3) (Own_ok' (G := G) ds c n hn (by omega)) (vals := [slv 0 0 n c]) (v := slv 3 0 n n) (H' := [dsR ds, dgB root, dgB leaf, dsB ds]) rfl rfl rfl rfl rfl rfl rfl ⟨⟨⟨rfl, rfl, rfl, by omega, by omega⟩, trivial⟩, ⟨(emb_dsR rfl), trivial⟩, rfl, rfl, rfl⟩ (by kernel_rfl) (by kernel_rfl) ?_
  refine r_assign (v := slv 3 0 n n) rfl rfl rfl ?_
  refine r_doneN ?_
  refine x_then ?_
  refine c_seq ?_
  refine c_reg ?_
  refine r_load (p := pt 1 0) (v := dgV root) rfl rfl rfl (by kernel_rfl) ?_
  refine r_move (v := .int .i64 size) rfl rfl rfl ?_
  refine r_move (v := .int .i64 index) rfl rfl rfl ?_
  refine r_load (p := pt 2 0) (v := dgV leaf) rfl rfl rfl (by kernel_rfl) ?_
  refine r_move (v := slv 0 0 n c) rfl rfl rfl ?_
  refine r_callN (e := [some (0, 0)]) (nid := 0) (Included_ok (G := G) kk hG root leaf size index ds n c hn (by omega) (by omega) (by omega) (by omega) (by omega) (by omega)) (vals := [dgV root, .int .i64 size, .int .i64 index, dgV leaf, slv 0 0 n c]) (v := .int .i64 ((inclE kk root leaf size index ds))) (H' := [dsR ds, dgB root, dgB leaf, dsB ds]) rfl rfl rfl rfl rfl rfl rfl ⟨⟨rfl, rfl, rfl, rfl, ⟨rfl, rfl, rfl, by omega, by omega⟩, trivial⟩, ⟨(emb_dsR rfl), trivial⟩, rfl, rfl, rfl⟩ rfl (by kernel_rfl) ?_
  refine r_assign (v := .int .i64 ((inclE kk root leaf size index ds))) rfl rfl rfl ?_
  refine r_doneN ?_
  refine x_then ?_
  refine c_seq ?_
  refine c_reg ?_
  refine r_callP (three05_ok (G := G) kk hG hG1 hne) (vals := []) (res' := .bool true) rfl rfl rfl rfl rfl rfl ?_
  refine r_move (v := .bool true) rfl rfl rfl ?_
  refine r_move (v := .int .i64 ((inclE kk root leaf size index ds))) rfl rfl rfl ?_
  refine r_load (p := pt 1 0) (v := dgV root) rfl rfl rfl (by kernel_rfl) ?_
  refine r_move (v := .int .i64 size) rfl rfl rfl ?_
  refine r_move (v := .int .i64 index) rfl rfl rfl ?_
  refine r_load (p := pt 2 0) (v := dgV leaf) rfl rfl rfl (by kernel_rfl) ?_
  refine r_move (v := slv 3 0 n n) rfl rfl rfl ?_
  refine r_callN (e := [some (3, 0)]) (nid := 0) (refIncluded_ok' (G := G) kk hG0 root size index leaf ds n n hn (by omega) (by omega)) (vals := [dgV root, .int .i64 size, .int .i64 index, dgV leaf, slv 3 0 n n]) (v := .int .i64 ((inclE kk root leaf size index ds))) (H' := [dsR ds, dgB root, dgB leaf, dsB ds]) rfl rfl rfl rfl rfl rfl rfl ⟨⟨rfl, rfl, rfl, rfl, ⟨rfl, rfl, rfl, by omega, by omega⟩, trivial⟩, ⟨(emb_dsB rfl), trivial⟩, rfl, rfl, rfl⟩ rfl (by kernel_rfl) ?_
  refine r_bin (v := .bool true) (vx := .int .i64 ((inclE kk root leaf size index ds))) (vy := .int .i64 ((inclE kk root leaf size index ds))) rfl rfl rfl rfl (eql_t (by omega)) ?_
  refine r_pick (v := .bool true) rfl rfl rfl ?_
  refine r_move (v := .bool true) rfl rfl rfl ?_
  refine r_move (v := slv 0 0 n c) rfl rfl rfl ?_
  refine r_move (v := slv 3 0 n n) rfl rfl rfl ?_
  refine r_callN (e := [some (0, 0), some (3, 0)]) (nid := 0) (Digests_eq (G := G) ds n c n hn (by omega)) (vals := [slv 0 0 n c, slv 3 0 n n]) (v := .bool true) (H' := [dsR ds, dgB root, dgB leaf, dsB ds]) rfl rfl rfl rfl rfl rfl rfl ⟨⟨⟨rfl, rfl, rfl, by omega, by omega⟩, ⟨rfl, rfl, rfl, by omega, by omega⟩, trivial⟩, ⟨(emb_dsR rfl), (emb_dsB rfl), trivial⟩, rfl, rfl, rfl⟩ rfl (by kernel_rfl) ?_
  refine r_pick (v := .bool true) rfl rfl rfl ?_
  refine r_assign (v := .bool true) rfl rfl rfl ?_
  refine r_doneN ?_
  refine x_then ?_
  refine c_ret ?_
  refine x_end ?_
  exact end_same (v := .bool true) rfl rfl rfl (by simp [keptB, dsR]) rfl
theorem CheckGoes_ok (kk : Nat → BitVec 32) (hG : G 1 = some (rowE w32 64 kk)) (hG1 : G 3 = some (rowE u8N 64 dbF)) (hG0 : G 0 = some (rowE w32 64 kk)) (hne : sameB 32 (knotF kk (knotF kk (dg1 2) (dg1 2)) (dg1 3)) (knotF kk (knotF kk (dg1 1) (dg1 2)) (dg1 3)) = false) (m : Int) (old : D) (k : Int) (root : D) (ds : List D) (n c : Nat) (hn : ds.length = n) (hc : n ≤ c) (m1 : -9223372036854775808 ≤ m) (m2 : m ≤ 9223372036854775807) (k1 : -9223372036854775808 ≤ k) (k2 : k ≤ 9223372036854775807) : CallL Tryd.prog G 4 [.int .i64 m, dgV old, .int .i64 k, dgV root, slv 0 0 n c] [dsR ds] (.bool true) [dsR ds] := by
  refine walk (fn := Tryd.f4) (nt := 40) rfl rfl rfl rfl ?_
  refine c_hole 3 (H' := [dsR ds, hole, hole, hole]) rfl ?_
  refine c_seq ?_
  refine c_reg ?_
  refine r_box (v := dgV old) (b := dgB old) (nid := 1) (H' := [dsR ds, dgB old, hole, hole]) rfl rfl rfl (by kernel_rfl) (by kernel_rfl) ?_
  refine r_box (v := dgV root) (b := dgB root) (nid := 2) (H' := [dsR ds, dgB old, dgB root, hole]) rfl rfl rfl (by kernel_rfl) (by kernel_rfl) ?_
  refine r_assign (v := .bool false) rfl rfl rfl ?_
  refine r_doneN ?_
  refine x_then ?_
  refine c_seq ?_
  refine c_seq ?_
  refine c_reg ?_
  refine r_move (v := slv 0 0 n c) rfl rfl rfl ?_
  refine r_len (p := slv 0 0 n c) (v := .int .i64 (n : Nat)) rfl rfl rfl rfl ?_
  by_cases h1 : 200 < (n : Nat)
  · skip
    refine r_bin (v := .bool true) (vx := .int .i64 (n : Nat)) (vy := .int .i64 200) rfl rfl rfl rfl (gtr_t (by omega)) ?_
    refine r_doneN ?_
    refine x_then ?_
    refine c_true rfl ?_
    refine c_seq ?_
    refine c_reg ?_
    refine r_assign (v := .bool true) rfl rfl rfl ?_
    refine r_doneN ?_
    refine x_then ?_
    refine c_ret ?_
    refine x_thenR ?_
    refine x_end ?_
    exact end_same (v := .bool true) rfl rfl rfl (by simp [keptB, dsR]) rfl
  refine r_bin (v := .bool false) (vx := .int .i64 (n : Nat)) (vy := .int .i64 200) rfl rfl rfl rfl (gtr_f (by omega)) ?_
  refine r_doneN ?_
  refine x_then ?_
  refine c_false rfl ?_
  refine c_skip ?_
  refine x_then ?_
  refine c_seq ?_
  refine c_reg ?_
  refine r_move (v := slv 0 0 n c) rfl rfl rfl ?_
  refine r_callN (e := [some (0, 0)]) (nid := 3) (Own_ok' (G := G) ds c n hn (by omega)) (vals := [slv 0 0 n c]) (v := slv 3 0 n n) (H' := [dsR ds, dgB old, dgB root, dsB ds]) rfl rfl rfl rfl rfl rfl rfl ⟨⟨⟨rfl, rfl, rfl, by omega, by omega⟩, trivial⟩, ⟨(emb_dsR rfl), trivial⟩, rfl, rfl, rfl⟩ (by kernel_rfl) (by kernel_rfl) ?_
  refine r_assign (v := slv 3 0 n n) rfl rfl rfl ?_
  refine r_doneN ?_
  refine x_then ?_
  refine c_seq ?_
  refine c_reg ?_
  refine r_move (v := .int .i64 m) rfl rfl rfl ?_
  refine r_load (p := pt 1 0) (v := dgV old) rfl rfl rfl (by kernel_rfl) ?_
  refine r_move (v := .int .i64 k) rfl rfl rfl ?_
  refine r_load (p := pt 2 0) (v := dgV root) rfl rfl rfl (by kernel_rfl) ?_
  refine r_move (v := slv 0 0 n c) rfl rfl rfl ?_
  refine r_callN (e := [some (0, 0)]) (nid := 0) (Consistent_ok (G := G) kk hG m old k root ds n c hn (by omega) (by omega) (by omega) (by omega) (by omega) (by omega)) (vals := [.int .i64 m, dgV old, .int .i64 k, dgV root, slv 0 0 n c]) (v := .int .i64 ((goesE kk m old k root ds))) (H' := [dsR ds, dgB old, dgB root, dsB ds]) rfl rfl rfl rfl rfl rfl rfl ⟨⟨rfl, rfl, rfl, rfl, ⟨rfl, rfl, rfl, by omega, by omega⟩, trivial⟩, ⟨(emb_dsR rfl), trivial⟩, rfl, rfl, rfl⟩ rfl (by kernel_rfl) ?_
  refine r_assign (v := .int .i64 ((goesE kk m old k root ds))) rfl rfl rfl ?_
  refine r_doneN ?_
  refine x_then ?_
  refine c_seq ?_
  refine c_reg ?_
  refine r_callP (three05_ok (G := G) kk hG hG1 hne) (vals := []) (res' := .bool true) rfl rfl rfl rfl rfl rfl ?_
  refine r_move (v := .bool true) rfl rfl rfl ?_
  refine r_move (v := .int .i64 ((goesE kk m old k root ds))) rfl rfl rfl ?_
  refine r_move (v := .int .i64 m) rfl rfl rfl ?_
  refine r_load (p := pt 1 0) (v := dgV old) rfl rfl rfl (by kernel_rfl) ?_
  refine r_move (v := .int .i64 k) rfl rfl rfl ?_
  refine r_load (p := pt 2 0) (v := dgV root) rfl rfl rfl (by kernel_rfl) ?_
  refine r_move (v := slv 3 0 n n) rfl rfl rfl ?_
  refine r_callN (e := [some (3, 0)]) (nid := 0) (refConsistent_ok' (G := G) kk hG0 m old k root ds n n hn (by omega) (by omega)) (vals := [.int .i64 m, dgV old, .int .i64 k, dgV root, slv 3 0 n n]) (v := .int .i64 ((goesE kk m old k root ds))) (H' := [dsR ds, dgB old, dgB root, dsB ds]) rfl rfl rfl rfl rfl rfl rfl ⟨⟨rfl, rfl, rfl, rfl, ⟨rfl, rfl, rfl, by omega, by omega⟩, trivial⟩, ⟨(emb_dsB rfl), trivial⟩, rfl, rfl, rfl⟩ rfl (by kernel_rfl) ?_
  refine r_bin (v := .bool true) (vx := .int .i64 ((goesE kk m old k root ds))) (vy := .int .i64 ((goesE kk m old k root ds))) rfl rfl rfl rfl (eql_t (by omega)) ?_
  refine r_pick (v := .bool true) rfl rfl rfl ?_
  refine r_move (v := .bool true) rfl rfl rfl ?_
  refine r_move (v := slv 0 0 n c) rfl rfl rfl ?_
  refine r_move (v := slv 3 0 n n) rfl rfl rfl ?_
  refine r_callN (e := [some (0, 0), some (3, 0)]) (nid := 0) (Digests_eq (G := G) ds n c n hn (by omega)) (vals := [slv 0 0 n c, slv 3 0 n n]) (v := .bool true) (H' := [dsR ds, dgB old, dgB root, dsB ds]) rfl rfl rfl rfl rfl rfl rfl ⟨⟨⟨rfl, rfl, rfl, by omega, by omega⟩, ⟨rfl, rfl, rfl, by omega, by omega⟩, trivial⟩, ⟨(emb_dsR rfl), (emb_dsB rfl), trivial⟩, rfl, rfl, rfl⟩ rfl (by kernel_rfl) ?_
  refine r_pick (v := .bool true) rfl rfl rfl ?_
  refine r_assign (v := .bool true) rfl rfl rfl ?_
  refine r_doneN ?_
  refine x_then ?_
  refine c_ret ?_
  refine x_end ?_
  exact end_same (v := .bool true) rfl rfl rfl (by simp [keptB, dsR]) rfl
theorem CheckClashes_ok (kk : Nat → BitVec 32) (hG : G 1 = some (rowE w32 64 kk)) (hG1 : G 3 = some (rowE u8N 64 dbF)) (hG0 : G 0 = some (rowE w32 64 kk)) (hne : sameB 32 (knotF kk (knotF kk (dg1 2) (dg1 2)) (dg1 3)) (knotF kk (knotF kk (dg1 1) (dg1 2)) (dg1 3)) = false) (root : D) (size index : Int) (a : D) (p : List D) (b : D) (q : List D) (m n c c' : Nat) (hm : p.length = m) (hn : q.length = n) (hc : m ≤ c) (hc' : n ≤ c') (size1 : -9223372036854775808 ≤ size) (size2 : size ≤ 9223372036854775807) (index1 : -9223372036854775808 ≤ index) (index2 : index ≤ 9223372036854775807) : CallL Tryd.prog G 5 [dgV root, .int .i64 size, .int .i64 index, dgV a, slv 0 0 m c, dgV b, slv 1 0 n c'] [dsR p, dsR q] (.bool true) [dsR p, dsR q] := by
  refine walk (fn := Tryd.f5) (nt := 69) rfl rfl rfl rfl ?_
  refine c_hole 3 (H' := [dsR p, dsR q, hole, hole, hole]) rfl ?_
  refine c_seq ?_
  refine c_reg ?_
  refine r_box (v := dgV root) (b := dgB root) (nid := 2) (H' := [dsR p, dsR q, dgB root, hole, hole]) rfl rfl rfl (by kernel_rfl) (by kernel_rfl) ?_
  refine r_box (v := dgV a) (b := dgB a) (nid := 3) (H' := [dsR p, dsR q, dgB root, dgB a, hole]) rfl rfl rfl (by kernel_rfl) (by kernel_rfl) ?_
  refine r_box (v := dgV b) (b := dgB b) (nid := 4) (H' := [dsR p, dsR q, dgB root, dgB a, dgB b]) rfl rfl rfl (by kernel_rfl) (by kernel_rfl) ?_
  refine r_assign (v := .bool false) rfl rfl rfl ?_
  refine r_doneN ?_
  refine x_then ?_
  refine c_seq ?_
  refine c_seq ?_
  refine c_reg ?_
  refine r_move (v := slv 0 0 m c) rfl rfl rfl ?_
  refine r_len (p := slv 0 0 m c) (v := .int .i64 (m : Nat)) rfl rfl rfl rfl ?_
  by_cases h1 : 200 < (m : Nat)
  · skip
    refine r_bin (v := .bool true) (vx := .int .i64 (m : Nat)) (vy := .int .i64 200) rfl rfl rfl rfl (gtr_t (by omega)) ?_
    refine r_move (v := .bool true) rfl rfl rfl ?_
    refine r_skip rfl rfl ?_
    refine r_skip rfl rfl ?_
    refine r_skip rfl rfl ?_
    refine r_pick (v := .bool true) rfl rfl rfl ?_
    refine r_doneN ?_
    refine x_then ?_
    refine c_true rfl ?_
    refine c_seq ?_
    refine c_reg ?_
    refine r_assign (v := .bool true) rfl rfl rfl ?_
    refine r_doneN ?_
    refine x_then ?_
    refine c_ret ?_
    refine x_thenR ?_
    refine x_end ?_
    exact end_same (v := .bool true) rfl rfl rfl (by simp [keptB, dsR]) rfl
  refine r_bin (v := .bool false) (vx := .int .i64 (m : Nat)) (vy := .int .i64 200) rfl rfl rfl rfl (gtr_f (by omega)) ?_
  refine r_move (v := .bool false) rfl rfl rfl ?_
  refine r_move (v := slv 1 0 n c') rfl rfl rfl ?_
  refine r_len (p := slv 1 0 n c') (v := .int .i64 (n : Nat)) rfl rfl rfl rfl ?_
  by_cases h2 : 200 < (n : Nat)
  · skip
    refine r_bin (v := .bool true) (vx := .int .i64 (n : Nat)) (vy := .int .i64 200) rfl rfl rfl rfl (gtr_t (by omega)) ?_
    refine r_pick (v := .bool true) rfl rfl rfl ?_
    refine r_doneN ?_
    refine x_then ?_
    refine c_true rfl ?_
    refine c_seq ?_
    refine c_reg ?_
    refine r_assign (v := .bool true) rfl rfl rfl ?_
    refine r_doneN ?_
    refine x_then ?_
    refine c_ret ?_
    refine x_thenR ?_
    refine x_end ?_
    exact end_same (v := .bool true) rfl rfl rfl (by simp [keptB, dsR]) rfl
  refine r_bin (v := .bool false) (vx := .int .i64 (n : Nat)) (vy := .int .i64 200) rfl rfl rfl rfl (gtr_f (by omega)) ?_
  refine r_pick (v := .bool false) rfl rfl rfl ?_
  refine r_doneN ?_
  refine x_then ?_
  refine c_false rfl ?_
  refine c_skip ?_
  refine x_then ?_
  refine c_seq ?_
  refine c_reg ?_
  refine r_load (p := pt 2 0) (v := dgV root) rfl rfl rfl (by kernel_rfl) ?_
  refine r_move (v := .int .i64 size) rfl rfl rfl ?_
  refine r_move (v := .int .i64 index) rfl rfl rfl ?_
  refine r_load (p := pt 3 0) (v := dgV a) rfl rfl rfl (by kernel_rfl) ?_
  refine r_move (v := slv 0 0 m c) rfl rfl rfl ?_
  refine r_load (p := pt 4 0) (v := dgV b) rfl rfl rfl (by kernel_rfl) ?_
  refine r_move (v := slv 1 0 n c') rfl rfl rfl ?_
  refine r_callN (e := [some (0, 0), some (1, 0)]) (nid := 0) ((Clash_ok (G := G) kk hG root size index a p b q m n c c' hm hn (by omega) (by omega) (by omega) (by omega) (by omega) (by omega) (by omega) (by omega)).res (clashV_eq _)) (vals := [dgV root, .int .i64 size, .int .i64 index, dgV a, slv 0 0 m c, dgV b, slv 1 0 n c']) (v := .tuple #[.string (clX (clashE kk root size index a p b q)), .string (clY (clashE kk root size index a p b q)), .bool ((clashE kk root size index a p b q).isSome)]) (H' := [dsR p, dsR q, dgB root, dgB a, dgB b]) rfl rfl rfl rfl rfl rfl rfl ⟨⟨rfl, rfl, rfl, rfl, ⟨rfl, rfl, rfl, by omega, by omega⟩, rfl, ⟨rfl, rfl, rfl, by omega, by omega⟩, trivial⟩, ⟨(emb_dsR rfl), (emb_dsR rfl), trivial⟩, rfl, rfl, rfl⟩ (by kernel_rfl) (by kernel_rfl) ?_
  refine r_move (v := .tuple #[.string (clX (clashE kk root size index a p b q)), .string (clY (clashE kk root size index a p b q)), .bool ((clashE kk root size index a p b q).isSome)]) rfl rfl rfl ?_
  refine r_extract (vs := #[.string (clX (clashE kk root size index a p b q)), .string (clY (clashE kk root size index a p b q)), .bool ((clashE kk root size index a p b q).isSome)]) (v := .string (clX (clashE kk root size index a p b q))) rfl rfl rfl rfl ?_
  refine r_extract (vs := #[.string (clX (clashE kk root size index a p b q)), .string (clY (clashE kk root size index a p b q)), .bool ((clashE kk root size index a p b q).isSome)]) (v := .string (clY (clashE kk root size index a p b q))) rfl rfl rfl rfl ?_
  refine r_extract (vs := #[.string (clX (clashE kk root size index a p b q)), .string (clY (clashE kk root size index a p b q)), .bool ((clashE kk root size index a p b q).isSome)]) (v := .bool ((clashE kk root size index a p b q).isSome)) rfl rfl rfl rfl ?_
  refine r_assign (v := .string (clX (clashE kk root size index a p b q))) rfl rfl rfl ?_
  refine r_assign (v := .string (clY (clashE kk root size index a p b q))) rfl rfl rfl ?_
  refine r_assign (v := .bool ((clashE kk root size index a p b q).isSome)) rfl rfl rfl ?_
  refine r_doneN ?_
  refine x_then ?_
  refine c_seq ?_
  refine c_reg ?_
  refine r_load (p := pt 2 0) (v := dgV root) rfl rfl rfl (by kernel_rfl) ?_
  refine r_move (v := .int .i64 size) rfl rfl rfl ?_
  refine r_move (v := .int .i64 index) rfl rfl rfl ?_
  refine r_load (p := pt 3 0) (v := dgV a) rfl rfl rfl (by kernel_rfl) ?_
  refine r_move (v := slv 0 0 m c) rfl rfl rfl ?_
  refine r_load (p := pt 4 0) (v := dgV b) rfl rfl rfl (by kernel_rfl) ?_
  refine r_move (v := slv 1 0 n c') rfl rfl rfl ?_
  refine r_callN (e := [some (0, 0), some (1, 0)]) (nid := 0) ((refClash_ok (G := G) kk hG0 root size index a p b q m n c c' hm hn (by omega) (by omega) (by omega) (by omega)).res (clashV_eq _)) (vals := [dgV root, .int .i64 size, .int .i64 index, dgV a, slv 0 0 m c, dgV b, slv 1 0 n c']) (v := .tuple #[.string (clX (clashE kk root size index a p b q)), .string (clY (clashE kk root size index a p b q)), .bool ((clashE kk root size index a p b q).isSome)]) (H' := [dsR p, dsR q, dgB root, dgB a, dgB b]) rfl rfl rfl rfl rfl rfl rfl ⟨⟨rfl, rfl, rfl, rfl, ⟨rfl, rfl, rfl, by omega, by omega⟩, rfl, ⟨rfl, rfl, rfl, by omega, by omega⟩, trivial⟩, ⟨(emb_dsR rfl), (emb_dsR rfl), trivial⟩, rfl, rfl, rfl⟩ (by kernel_rfl) (by kernel_rfl) ?_
  refine r_move (v := .tuple #[.string (clX (clashE kk root size index a p b q)), .string (clY (clashE kk root size index a p b q)), .bool ((clashE kk root size index a p b q).isSome)]) rfl rfl rfl ?_
  refine r_extract (vs := #[.string (clX (clashE kk root size index a p b q)), .string (clY (clashE kk root size index a p b q)), .bool ((clashE kk root size index a p b q).isSome)]) (v := .string (clX (clashE kk root size index a p b q))) rfl rfl rfl rfl ?_
  refine r_extract (vs := #[.string (clX (clashE kk root size index a p b q)), .string (clY (clashE kk root size index a p b q)), .bool ((clashE kk root size index a p b q).isSome)]) (v := .string (clY (clashE kk root size index a p b q))) rfl rfl rfl rfl ?_
  refine r_extract (vs := #[.string (clX (clashE kk root size index a p b q)), .string (clY (clashE kk root size index a p b q)), .bool ((clashE kk root size index a p b q).isSome)]) (v := .bool ((clashE kk root size index a p b q).isSome)) rfl rfl rfl rfl ?_
  refine r_assign (v := .string (clX (clashE kk root size index a p b q))) rfl rfl rfl ?_
  refine r_assign (v := .string (clY (clashE kk root size index a p b q))) rfl rfl rfl ?_
  refine r_assign (v := .bool ((clashE kk root size index a p b q).isSome)) rfl rfl rfl ?_
  refine r_doneN ?_
  refine x_then ?_
  refine c_seq ?_
  refine c_reg ?_
  refine r_callP (three05_ok (G := G) kk hG hG1 hne) (vals := []) (res' := .bool true) rfl rfl rfl rfl rfl rfl ?_
  refine r_move (v := .bool true) rfl rfl rfl ?_
  refine r_move (v := .string (clX (clashE kk root size index a p b q))) rfl rfl rfl ?_
  refine r_move (v := .string (clX (clashE kk root size index a p b q))) rfl rfl rfl ?_
  refine r_bin (v := .bool true) (vx := .string (clX (clashE kk root size index a p b q))) (vy := .string (clX (clashE kk root size index a p b q))) rfl rfl rfl rfl (Eq.trans (eql_str _ _) (by rw [(sameT_refl _)] <;> rfl)) ?_
  refine r_pick (v := .bool true) rfl rfl rfl ?_
  refine r_move (v := .bool true) rfl rfl rfl ?_
  refine r_move (v := .string (clY (clashE kk root size index a p b q))) rfl rfl rfl ?_
  refine r_move (v := .string (clY (clashE kk root size index a p b q))) rfl rfl rfl ?_
  refine r_bin (v := .bool true) (vx := .string (clY (clashE kk root size index a p b q))) (vy := .string (clY (clashE kk root size index a p b q))) rfl rfl rfl rfl (Eq.trans (eql_str _ _) (by rw [(sameT_refl _)] <;> rfl)) ?_
  refine r_pick (v := .bool true) rfl rfl rfl ?_
  refine r_move (v := .bool true) rfl rfl rfl ?_
  refine r_move (v := .bool ((clashE kk root size index a p b q).isSome)) rfl rfl rfl ?_
  refine r_move (v := .bool ((clashE kk root size index a p b q).isSome)) rfl rfl rfl ?_
  rcases Bool.eq_false_or_eq_true ((clashE kk root size index a p b q).isSome) with h3 | h3
  · skip
    refine r_bin (v := .bool true) (vx := .bool ((clashE kk root size index a p b q).isSome)) (vy := .bool ((clashE kk root size index a p b q).isSome)) rfl rfl rfl rfl (eqlB' rfl h3 h3) ?_
    refine r_pick (v := .bool true) rfl rfl rfl ?_
    refine r_assign (v := .bool true) rfl rfl rfl ?_
    refine r_doneN ?_
    refine x_then ?_
    refine c_ret ?_
    refine x_end ?_
    exact end_same (v := .bool true) rfl rfl rfl (by simp [keptB, dsR]) rfl
  refine r_bin (v := .bool true) (vx := .bool ((clashE kk root size index a p b q).isSome)) (vy := .bool ((clashE kk root size index a p b q).isSome)) rfl rfl rfl rfl (eqlB' rfl h3 h3) ?_
  refine r_pick (v := .bool true) rfl rfl rfl ?_
  refine r_assign (v := .bool true) rfl rfl rfl ?_
  refine r_doneN ?_
  refine x_then ?_
  refine c_ret ?_
  refine x_end ?_
  exact end_same (v := .bool true) rfl rfl rfl (by simp [keptB, dsR]) rfl
end Go.Flat
