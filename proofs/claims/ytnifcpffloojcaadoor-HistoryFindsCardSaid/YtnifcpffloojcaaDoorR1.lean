/- Walks and plain laws: what each theorem says, within the bounds that it names. -/
import Derived.Test.YtnifcpffloojcaaDoorQ2
import Derived.Test.YtnifcpffloojcaaDoorE5
set_option linter.unusedVariables false
set_option linter.unusedSimpArgs false
set_option maxRecDepth 20000
namespace Go.Flat
open Go.Proofs
variable {G : Glob}
theorem u_right : rightL [userI 1 1] := ⟨by show 1 ≤ 2000; omega, by kernel_rfl⟩
theorem u_rightI : rightI (userI 1 1) := ⟨by show (1 : Int) ≤ 1; omega, by show (1 : Int) ≤ 900000000; omega, of_decide_eq_true (by kernel_rfl)⟩
theorem fi_1 (kk : Nat → BitVec 32) : firL kk [userI 1 1] 1 = ([(leafI kk (userI 1 1)).1], 0) := by
  unfold firL
  rw [if_pos u_right, if_pos (by simp)]; rfl
theorem lf_1 (kk : Nat → BitVec 32) : leafI kk (userI 1 1) = ((leafI kk (userI 1 1)).1, 0) := by
  rw [show leafI kk (userI 1 1) = (lfT kk (strOf (putI (userI 1 1)).1), 0) from if_pos u_rightI]
theorem rt_1 (kk : Nat → BitVec 32) : rootH kk [userI 1 1] 1 = ((leafI kk (userI 1 1)).1, 0) := by
  unfold rootH
  rw [fi_1, if_pos rfl, root1]
theorem rt_2 (kk : Nat → BitVec 32) : rootH kk [userI 1 1] 2 = (dz, 21) := by
  have e : firL kk [userI 1 1] 2 = ([], 21) := by unfold firL; rw [if_pos u_right, if_neg (by simp)]
  unfold rootH
  rw [e, if_neg (by simp)]
theorem hd_1 (kk : Nat → BitVec 32) : headH kk [userI 1 1] 1 2 3 4 = (⟨2, 3, 1, (leafI kk (userI 1 1)).1, 4⟩, 0) := by
  unfold headH
  rw [rt_1, if_pos rfl, if_pos (checkE_zero.2 (show rightH _ from ⟨⟨by show (1 : Int) ≤ 2; omega, by show (2 : Int) ≤ 5; omega⟩, ⟨by show (1 : Int) ≤ 3; omega, by show (3 : Int) ≤ 900000000; omega⟩, ⟨by show (0 : Int) ≤ 1; omega, by show (1 : Int) ≤ 100000; omega⟩, by show (0 : Int) ≤ 4; omega, by show (4 : Int) ≤ 900000000; omega⟩))]
theorem in_1 (kk : Nat → BitVec 32) : incH kk [userI 1 1] 1 0 = ([], 0) := by
  unfold incH
  rw [fi_1, if_pos rfl, if_pos (by simp), inclP_one kk _ (by simp)]
theorem co_1 (kk : Nat → BitVec 32) : conH kk [userI 1 1] 0 1 = ([], 0) := by
  unfold conH
  rw [fi_1, if_pos rfl, if_pos (by simp), if_pos rfl]
theorem hroot_c (kk : Nat → BitVec 32) (hG : G 3 = some (rowE w32 64 kk)) (hG1 : G 1 = some (rowE u8N 64 dbF)) (l : List Item) (n c : Nat) (hn : l.length = n) (hc : n ≤ c) (hb : n ≤ 1048576) (k : Int) {d : D} {z : Int} (h : rootH kk l k = (d, z)) : CallL Tryd.prog G 11 [slv 0 0 n c, .int .i64 k] [rwR cItem l] (.tuple #[dgV d, .int .i64 z]) [rwR cItem l] := by
  have q := HRoot_ok (G := G) kk hG hG1 l n c hn hc hb k
  rw [h] at q; exact q
theorem leaf_c (kk : Nat → BitVec 32) (hG : G 3 = some (rowE w32 64 kk)) (x : Item) {d : D} {z : Int} (h : leafI kk x = (d, z)) : CallL Tryd.prog G 27 [itemV x] [] (.tuple #[dgV d, .int .i64 z]) [] := by
  have q := Leaf_ok (G := G) kk hG x
  rw [h] at q; exact q
theorem hhead_c (kk : Nat → BitVec 32) (hG : G 3 = some (rowE w32 64 kk)) (hG1 : G 1 = some (rowE u8N 64 dbF)) (l : List Item) (n c : Nat) (hn : l.length = n) (hc : n ≤ c) (hb : n ≤ 1048576) (k region epoch tick : Int) {d : Head} {z : Int} (h : headH kk l k region epoch tick = (d, z)) : CallL Tryd.prog G 13 [slv 0 0 n c, .int .i64 k, .int .i64 region, .int .i64 epoch, .int .i64 tick] [rwR cItem l] (.tuple #[headV d, .int .i64 z]) [rwR cItem l] := by
  have q := HHead_ok (G := G) kk hG hG1 l n c hn hc hb k region epoch tick
  rw [h] at q; exact q
theorem hinc_c (kk : Nat → BitVec 32) (hG : G 3 = some (rowE w32 64 kk)) (hG1 : G 1 = some (rowE u8N 64 dbF)) (l : List Item) (n c : Nat) (hn : l.length = n) (hc : n ≤ c) (hb : n ≤ 1048576) (k i : Int) {d : List D} {z : Int} (h : incH kk l k i = (d, z)) : CallL Tryd.prog G 17 [slv 0 0 n c, .int .i64 k, .int .i64 i] [rwR cItem l] (.tuple #[slv 1 0 d.length d.length, .int .i64 z]) [rwR cItem l, dsB d] := by
  have q := HIncl_ok (G := G) kk hG hG1 l n c hn hc hb k i
  rw [h] at q; exact q
theorem hcon_c (kk : Nat → BitVec 32) (hG : G 3 = some (rowE w32 64 kk)) (hG1 : G 1 = some (rowE u8N 64 dbF)) (l : List Item) (n c : Nat) (hn : l.length = n) (hc : n ≤ c) (hb : n ≤ 1048576) (i k : Int) {d : List D} {z : Int} (h : conH kk l i k = (d, z)) : CallL Tryd.prog G 19 [slv 0 0 n c, .int .i64 i, .int .i64 k] [rwR cItem l] (.tuple #[slv 1 0 d.length d.length, .int .i64 z]) [rwR cItem l, dsB d] := by
  have q := HCons_ok (G := G) kk hG hG1 l n c hn hc hb i k
  rw [h] at q; exact q
theorem roots_ok (kk : Nat → BitVec 32) (hG : G 3 = some (rowE w32 64 kk)) (hG1 : G 1 = some (rowE u8N 64 dbF))  : CallL Tryd.prog G 15 [] [] (.bool true) [] := by
  refine walk (fn := Tryd.f15) (nt := 91) rfl rfl rfl rfl ?_
  refine c_hole 7 (H' := [hole, hole, hole, hole, hole, hole, hole]) rfl ?_
  refine c_seq (c_reg ?_)
  refine r_assign (v := .bool false) rfl rfl rfl ?_
  refine r_doneN (x_then (c_seq (c_reg ?_)))
  refine r_callP (user_ok (G := G) 1 1) (vals := [.int .i64 1, .int .i64 1]) (res' := itemV (userI 1 1)) rfl rfl rfl rfl rfl (by kernel_rfl) ?_
  refine r_lit (vs := [(0, itemV (userI 1 1))]) (v := slv 0 0 1 1) (blk := rwB cItem [(userI 1 1)]) (nid := 0) (H' := [rwB cItem [(userI 1 1)], hole, hole, hole, hole, hole, hole]) rfl rfl rfl (by kernel_rfl) (by kernel_rfl) ?_
  refine r_assign (v := slv 0 0 1 1) rfl rfl rfl ?_
  refine r_doneN (x_then (c_seq (c_reg ?_)))
  refine r_move (v := slv 0 0 1 1) rfl rfl rfl ?_
  refine r_callN (e := [some (0, 0)]) (nid := 0) (hroot_c (G := G) kk hG hG1 [(userI 1 1)] 1 1 (rfl : _ = 1) (by omega) (by omega) 1 (rt_1 kk)) (vals := [slv 0 0 1 1, .int .i64 1]) (v := .tuple #[dgV ((leafI kk (userI 1 1)).1), .int .i64 0]) (H' := [rwB cItem [(userI 1 1)], hole, hole, hole, hole, hole, hole]) rfl rfl rfl rfl rfl rfl rfl ⟨⟨⟨rfl, rfl, rfl, by first | omega | exact Nat.le_refl _, by first | omega | exact Nat.le_refl _⟩, rfl, trivial⟩, ⟨(emb_rwB rfl), trivial⟩, rfl, rfl, rfl⟩ (by kernel_rfl) (by kernel_rfl) ?_
  refine r_move (v := .tuple #[dgV ((leafI kk (userI 1 1)).1), .int .i64 0]) rfl rfl rfl ?_
  refine r_extract (vs := #[dgV ((leafI kk (userI 1 1)).1), .int .i64 0]) (v := dgV ((leafI kk (userI 1 1)).1)) rfl rfl rfl rfl ?_
  refine r_extract (vs := #[dgV ((leafI kk (userI 1 1)).1), .int .i64 0]) (v := .int .i64 0) rfl rfl rfl rfl ?_
  refine r_alloc (b := dgB dz) (nid := 1) (H' := [rwB cItem [(userI 1 1)], dgB dz, hole, hole, hole, hole, hole]) rfl rfl (by kernel_rfl) (by kernel_rfl) ?_
  refine r_store (p := pt 1 0) (v := dgV ((leafI kk (userI 1 1)).1)) (b := 1) (blk := dgB ((leafI kk (userI 1 1)).1)) (H' := [rwB cItem [(userI 1 1)], dgB ((leafI kk (userI 1 1)).1), hole, hole, hole, hole, hole]) rfl rfl rfl (by kernel_rfl) (by kernel_rfl) ?_
  refine r_assign (v := .int .i64 0) rfl rfl rfl ?_
  refine r_doneN (x_then (c_seq (c_reg ?_)))
  refine r_move (v := slv 0 0 1 1) rfl rfl rfl ?_
  refine r_idxS (b := 0) (o := 0) (j := 0) (m := 1) (c := 1) (sz := 110) (i := 0) (k := .i64) rfl rfl rfl rfl rfl (by omega) (by omega) (by omega) ?_
  refine r_load (p := pt 0 0) (v := itemV (([(userI 1 1)]).getD 0 default)) rfl rfl rfl (load_rw (n := 0) (m := 110) cItem rfl rfl rfl rfl (by have : ([(userI 1 1)]).length = 1 := rfl; omega) (by omega)) ?_
  refine r_callP (leaf_c (G := G) kk hG (([(userI 1 1)]).getD 0 default) (lf_1 kk)) (vals := [itemV (([(userI 1 1)]).getD 0 default)]) (res' := .tuple #[dgV ((leafI kk (userI 1 1)).1), .int .i64 0]) rfl rfl rfl rfl rfl (by kernel_rfl) ?_
  refine r_move (v := .tuple #[dgV ((leafI kk (userI 1 1)).1), .int .i64 0]) rfl rfl rfl ?_
  refine r_extract (vs := #[dgV ((leafI kk (userI 1 1)).1), .int .i64 0]) (v := dgV ((leafI kk (userI 1 1)).1)) rfl rfl rfl rfl ?_
  refine r_extract (vs := #[dgV ((leafI kk (userI 1 1)).1), .int .i64 0]) (v := .int .i64 0) rfl rfl rfl rfl ?_
  refine r_alloc (b := dgB dz) (nid := 2) (H' := [rwB cItem [(userI 1 1)], dgB ((leafI kk (userI 1 1)).1), dgB dz, hole, hole, hole, hole]) rfl rfl (by kernel_rfl) (by kernel_rfl) ?_
  refine r_store (p := pt 2 0) (v := dgV ((leafI kk (userI 1 1)).1)) (b := 2) (blk := dgB ((leafI kk (userI 1 1)).1)) (H' := [rwB cItem [(userI 1 1)], dgB ((leafI kk (userI 1 1)).1), dgB ((leafI kk (userI 1 1)).1), hole, hole, hole, hole]) rfl rfl rfl (by kernel_rfl) (by kernel_rfl) ?_
  refine r_assign (v := .int .i64 0) rfl rfl rfl ?_
  refine r_doneN (x_then (c_seq (c_reg ?_)))
  refine r_move (v := slv 0 0 1 1) rfl rfl rfl ?_
  refine r_callN (e := [some (0, 0)]) (nid := 0) (hroot_c (G := G) kk hG hG1 [(userI 1 1)] 1 1 (rfl : _ = 1) (by omega) (by omega) 2 (rt_2 kk)) (vals := [slv 0 0 1 1, .int .i64 2]) (v := .tuple #[dgV dz, .int .i64 21]) (H' := [rwB cItem [(userI 1 1)], dgB ((leafI kk (userI 1 1)).1), dgB ((leafI kk (userI 1 1)).1), hole, hole, hole, hole]) rfl rfl rfl rfl rfl rfl rfl ⟨⟨⟨rfl, rfl, rfl, by first | omega | exact Nat.le_refl _, by first | omega | exact Nat.le_refl _⟩, rfl, trivial⟩, ⟨(emb_rwB rfl), trivial⟩, rfl, rfl, rfl⟩ (by kernel_rfl) (by kernel_rfl) ?_
  refine r_move (v := .tuple #[dgV dz, .int .i64 21]) rfl rfl rfl ?_
  refine r_extract (vs := #[dgV dz, .int .i64 21]) (v := dgV dz) rfl rfl rfl rfl ?_
  refine r_extract (vs := #[dgV dz, .int .i64 21]) (v := .int .i64 21) rfl rfl rfl rfl ?_
  refine r_alloc (b := dgB dz) (nid := 3) (H' := [rwB cItem [(userI 1 1)], dgB ((leafI kk (userI 1 1)).1), dgB ((leafI kk (userI 1 1)).1), dgB dz, hole, hole, hole]) rfl rfl (by kernel_rfl) (by kernel_rfl) ?_
  refine r_store (p := pt 3 0) (v := dgV dz) (b := 3) (blk := dgB dz) (H' := [rwB cItem [(userI 1 1)], dgB ((leafI kk (userI 1 1)).1), dgB ((leafI kk (userI 1 1)).1), dgB dz, hole, hole, hole]) rfl rfl rfl (by kernel_rfl) (by kernel_rfl) ?_
  refine r_assign (v := .int .i64 21) rfl rfl rfl ?_
  refine r_doneN (x_then (c_seq (c_reg ?_)))
  refine r_move (v := slv 0 0 1 1) rfl rfl rfl ?_
  refine r_callN (e := [some (0, 0)]) (nid := 0) (hhead_c (G := G) kk hG hG1 [(userI 1 1)] 1 1 (rfl : _ = 1) (by omega) (by omega) 1 2 3 4 (hd_1 kk)) (vals := [slv 0 0 1 1, .int .i64 1, .int .i64 2, .int .i64 3, .int .i64 4]) (v := .tuple #[headV (⟨2, 3, 1, ((leafI kk (userI 1 1)).1), 4⟩ : Head), .int .i64 0]) (H' := [rwB cItem [(userI 1 1)], dgB ((leafI kk (userI 1 1)).1), dgB ((leafI kk (userI 1 1)).1), dgB dz, hole, hole, hole]) rfl rfl rfl rfl rfl rfl rfl ⟨⟨⟨rfl, rfl, rfl, by first | omega | exact Nat.le_refl _, by first | omega | exact Nat.le_refl _⟩, rfl, rfl, rfl, rfl, trivial⟩, ⟨(emb_rwB rfl), trivial⟩, rfl, rfl, rfl⟩ (by kernel_rfl) (by kernel_rfl) ?_
  refine r_move (v := .tuple #[headV (⟨2, 3, 1, ((leafI kk (userI 1 1)).1), 4⟩ : Head), .int .i64 0]) rfl rfl rfl ?_
  refine r_extract (vs := #[headV (⟨2, 3, 1, ((leafI kk (userI 1 1)).1), 4⟩ : Head), .int .i64 0]) (v := headV (⟨2, 3, 1, ((leafI kk (userI 1 1)).1), 4⟩ : Head)) rfl rfl rfl rfl ?_
  refine r_extract (vs := #[headV (⟨2, 3, 1, ((leafI kk (userI 1 1)).1), 4⟩ : Head), .int .i64 0]) (v := .int .i64 0) rfl rfl rfl rfl ?_
  refine r_alloc (b := bxB 36 (headC (⟨0, 0, 0, dz, 0⟩ : Head))) (nid := 4) (H' := [rwB cItem [(userI 1 1)], dgB ((leafI kk (userI 1 1)).1), dgB ((leafI kk (userI 1 1)).1), dgB dz, bxB 36 (headC (⟨0, 0, 0, dz, 0⟩ : Head)), hole, hole]) rfl rfl (by kernel_rfl) (by kernel_rfl) ?_
  refine r_store (p := pt 4 0) (v := headV (⟨2, 3, 1, ((leafI kk (userI 1 1)).1), 4⟩ : Head)) (b := 4) (blk := bxB 36 (headC (⟨2, 3, 1, ((leafI kk (userI 1 1)).1), 4⟩ : Head))) (H' := [rwB cItem [(userI 1 1)], dgB ((leafI kk (userI 1 1)).1), dgB ((leafI kk (userI 1 1)).1), dgB dz, bxB 36 (headC (⟨2, 3, 1, ((leafI kk (userI 1 1)).1), 4⟩ : Head)), hole, hole]) rfl rfl rfl (by kernel_rfl) (by kernel_rfl) ?_
  refine r_assign (v := .int .i64 0) rfl rfl rfl ?_
  refine r_doneN (x_then (c_seq (c_reg ?_)))
  refine r_move (v := slv 0 0 1 1) rfl rfl rfl ?_
  refine r_callN (e := [some (0, 0)]) (nid := 5) (hinc_c (G := G) kk hG hG1 [(userI 1 1)] 1 1 (rfl : _ = 1) (by omega) (by omega) 1 0 (in_1 kk)) (vals := [slv 0 0 1 1, .int .i64 1, .int .i64 0]) (v := .tuple #[slv 5 0 0 0, .int .i64 0]) (H' := [rwB cItem [(userI 1 1)], dgB ((leafI kk (userI 1 1)).1), dgB ((leafI kk (userI 1 1)).1), dgB dz, bxB 36 (headC (⟨2, 3, 1, ((leafI kk (userI 1 1)).1), 4⟩ : Head)), dsB [], hole]) rfl rfl rfl rfl rfl rfl rfl ⟨⟨⟨rfl, rfl, rfl, by first | omega | exact Nat.le_refl _, by first | omega | exact Nat.le_refl _⟩, rfl, rfl, trivial⟩, ⟨(emb_rwB rfl), trivial⟩, rfl, rfl, rfl⟩ (by kernel_rfl) (by kernel_rfl) ?_
  refine r_move (v := .tuple #[slv 5 0 0 0, .int .i64 0]) rfl rfl rfl ?_
  refine r_extract (vs := #[slv 5 0 0 0, .int .i64 0]) (v := slv 5 0 0 0) rfl rfl rfl rfl ?_
  refine r_extract (vs := #[slv 5 0 0 0, .int .i64 0]) (v := .int .i64 0) rfl rfl rfl rfl ?_
  refine r_assign (v := slv 5 0 0 0) rfl rfl rfl ?_
  refine r_assign (v := .int .i64 0) rfl rfl rfl ?_
  refine r_doneN (x_then (c_seq (c_reg ?_)))
  refine r_move (v := slv 0 0 1 1) rfl rfl rfl ?_
  refine r_callN (e := [some (0, 0)]) (nid := 6) (hcon_c (G := G) kk hG hG1 [(userI 1 1)] 1 1 (rfl : _ = 1) (by omega) (by omega) 0 1 (co_1 kk)) (vals := [slv 0 0 1 1, .int .i64 0, .int .i64 1]) (v := .tuple #[slv 6 0 0 0, .int .i64 0]) (H' := [rwB cItem [(userI 1 1)], dgB ((leafI kk (userI 1 1)).1), dgB ((leafI kk (userI 1 1)).1), dgB dz, bxB 36 (headC (⟨2, 3, 1, ((leafI kk (userI 1 1)).1), 4⟩ : Head)), dsB [], dsB []]) rfl rfl rfl rfl rfl rfl rfl ⟨⟨⟨rfl, rfl, rfl, by first | omega | exact Nat.le_refl _, by first | omega | exact Nat.le_refl _⟩, rfl, rfl, trivial⟩, ⟨(emb_rwB rfl), trivial⟩, rfl, rfl, rfl⟩ (by kernel_rfl) (by kernel_rfl) ?_
  refine r_move (v := .tuple #[slv 6 0 0 0, .int .i64 0]) rfl rfl rfl ?_
  refine r_extract (vs := #[slv 6 0 0 0, .int .i64 0]) (v := slv 6 0 0 0) rfl rfl rfl rfl ?_
  refine r_extract (vs := #[slv 6 0 0 0, .int .i64 0]) (v := .int .i64 0) rfl rfl rfl rfl ?_
  refine r_assign (v := slv 6 0 0 0) rfl rfl rfl ?_
  refine r_assign (v := .int .i64 0) rfl rfl rfl ?_
  refine r_doneN (x_then (c_seq (c_reg ?_)))
  refine r_move (v := .int .i64 0) rfl rfl rfl ?_
  refine r_bin (v := .bool true) (vx := .int .i64 0) (vy := .int .i64 0) rfl rfl rfl rfl (eql_t (by omega)) ?_
  refine r_move (v := .bool true) rfl rfl rfl ?_
  refine r_move (v := .int .i64 0) rfl rfl rfl ?_
  refine r_bin (v := .bool true) (vx := .int .i64 0) (vy := .int .i64 0) rfl rfl rfl rfl (eql_t (by omega)) ?_
  refine r_pick (v := .bool true) rfl rfl rfl ?_
  refine r_move (v := .bool true) rfl rfl rfl ?_
  refine r_load (p := pt 1 0) (v := dgV ((leafI kk (userI 1 1)).1)) rfl rfl rfl (by kernel_rfl) ?_
  refine r_load (p := pt 2 0) (v := dgV ((leafI kk (userI 1 1)).1)) rfl rfl rfl (by kernel_rfl) ?_
  refine r_bin (v := .bool true) (vx := dgV ((leafI kk (userI 1 1)).1)) (vy := dgV ((leafI kk (userI 1 1)).1)) rfl rfl rfl rfl (Eq.trans (eql_dg (n := 32) (a := ((leafI kk (userI 1 1)).1)) (b := ((leafI kk (userI 1 1)).1)) (by kernel_rfl) rfl rfl rfl) (by rw [(sameBd_refl _ _)] <;> rfl)) ?_
  refine r_pick (v := .bool true) rfl rfl rfl ?_
  refine r_move (v := .bool true) rfl rfl rfl ?_
  refine r_move (v := .int .i64 21) rfl rfl rfl ?_
  refine r_bin (v := .bool true) (vx := .int .i64 21) (vy := .int .i64 21) rfl rfl rfl rfl (eql_t (by omega)) ?_
  refine r_pick (v := .bool true) rfl rfl rfl ?_
  refine r_move (v := .bool true) rfl rfl rfl ?_
  refine r_move (v := .int .i64 0) rfl rfl rfl ?_
  refine r_bin (v := .bool true) (vx := .int .i64 0) (vy := .int .i64 0) rfl rfl rfl rfl (eql_t (by omega)) ?_
  refine r_pick (v := .bool true) rfl rfl rfl ?_
  refine r_move (v := .bool true) rfl rfl rfl ?_
  refine r_load (p := pt 4 0) (v := headV (⟨2, 3, 1, ((leafI kk (userI 1 1)).1), 4⟩ : Head)) rfl rfl rfl (by kernel_rfl) ?_
  refine r_load (p := pt 2 0) (v := dgV ((leafI kk (userI 1 1)).1)) rfl rfl rfl (by kernel_rfl) ?_
  refine r_build (vs := [(0, .int .i64 2), (1, .int .i64 3), (2, .int .i64 1), (3, dgV ((leafI kk (userI 1 1)).1)), (4, .int .i64 4)]) (v := headV (⟨2, 3, 1, ((leafI kk (userI 1 1)).1), 4⟩ : Head)) rfl rfl rfl (by kernel_rfl) ?_
  refine r_bin (v := .bool true) (vx := headV (⟨2, 3, 1, ((leafI kk (userI 1 1)).1), 4⟩ : Head)) (vy := headV (⟨2, 3, 1, ((leafI kk (userI 1 1)).1), 4⟩ : Head)) rfl rfl rfl rfl (Eq.trans (eql_Head (⟨2, 3, 1, ((leafI kk (userI 1 1)).1), 4⟩ : Head) (⟨2, 3, 1, ((leafI kk (userI 1 1)).1), 4⟩ : Head)) (by rw [(eqHead_refl _)] <;> rfl)) ?_
  refine r_pick (v := .bool true) rfl rfl rfl ?_
  refine r_move (v := .bool true) rfl rfl rfl ?_
  refine r_move (v := slv 5 0 0 0) rfl rfl rfl ?_
  refine r_len (p := slv 5 0 0 0) (v := .int .i64 0) rfl rfl rfl rfl ?_
  refine r_bin (v := .bool true) (vx := .int .i64 0) (vy := .int .i64 0) rfl rfl rfl rfl (eql_t (by omega)) ?_
  refine r_pick (v := .bool true) rfl rfl rfl ?_
  refine r_move (v := .bool true) rfl rfl rfl ?_
  refine r_move (v := .int .i64 0) rfl rfl rfl ?_
  refine r_bin (v := .bool true) (vx := .int .i64 0) (vy := .int .i64 0) rfl rfl rfl rfl (eql_t (by omega)) ?_
  refine r_pick (v := .bool true) rfl rfl rfl ?_
  refine r_move (v := .bool true) rfl rfl rfl ?_
  refine r_move (v := slv 6 0 0 0) rfl rfl rfl ?_
  refine r_len (p := slv 6 0 0 0) (v := .int .i64 0) rfl rfl rfl rfl ?_
  refine r_bin (v := .bool true) (vx := .int .i64 0) (vy := .int .i64 0) rfl rfl rfl rfl (eql_t (by omega)) ?_
  refine r_pick (v := .bool true) rfl rfl rfl ?_
  refine r_move (v := .bool true) rfl rfl rfl ?_
  refine r_move (v := .int .i64 0) rfl rfl rfl ?_
  refine r_bin (v := .bool true) (vx := .int .i64 0) (vy := .int .i64 0) rfl rfl rfl rfl (eql_t (by omega)) ?_
  refine r_pick (v := .bool true) rfl rfl rfl ?_
  refine r_assign (v := .bool true) rfl rfl rfl ?_
  refine r_doneN (x_then (c_ret (x_end ?_)))
  exact end_pv (v := .bool true) rfl rfl rfl
end Go.Flat
