/- Walks and plain laws: what each theorem says, within the bounds that it names. -/
import Derived.Test.YtoheeojjdpdljaaDoorC4
set_option linter.unusedVariables false
set_option linter.unusedSimpArgs false
set_option maxRecDepth 20000
namespace Go.Flat
open Go.Proofs
variable {G : Glob}
def itB : ByteArray := ⟨#[1, 0, 0, 1, 1, 2, 0, 0, 21, 1, 0, 0, 1, 1, 2, 0, 0, 1, 1, 3, 0, 0, 1, 2, 4, 0, 0, 2, 97, 98]⟩
def ab : ByteArray := ⟨#[97, 98]⟩
def userE : Entry := ⟨1, 1, 2, ab, ⟨⟨0, 0, 0, dz, 0⟩, 0, dz⟩, ⟨0, 0, 0, 0, dz⟩⟩
theorem u8_right : rightI ⟨1, userE⟩ := ⟨by show (1 : Int) ≤ 1; omega, by show (1 : Int) ≤ 900000000; omega, of_decide_eq_true (by kernel_rfl)⟩
theorem get_c (l : Bs) (n c : Nat) (hn : l.length = n) (hc : n ≤ c) (hb : n ≤ 1048576) {e : Entry} {z : Int} (h : gotE l = (e, z)) : CallL Tryd.prog G 12 [slv 0 0 n c] [rdB l] (.tuple #[entV e, .int .i64 z]) [rdB l] := by
  have q := Get_n (G := G) l n c hn hc hb
  rw [h] at q; exact q
theorem leaf_c8 (kk : Nat → BitVec 32) (hG : G 1 = some (rowE w32 64 kk)) (x : Item) {d : D} {z : Int} (h : leafI kk x = (d, z)) : CallL Tryd.prog G 15 [itemV x] [] (.tuple #[dgV d, .int .i64 z]) [] := by
  have q := Leaf_ok (G := G) kk hG x
  rw [h] at q; exact q
theorem user8_ok  : CallL Tryd.prog G 37 [] [] (entV userE) [] := by
  refine walk (fn := Tryd.f37) (nt := 2) rfl rfl rfl rfl ?_
  refine c_hole 1 (H' := [hole]) rfl ?_
  refine c_seq (c_reg ?_)
  refine r_alloc (b := bxB 109 (entC (⟨0, 0, 0, ⟨#[]⟩, (⟨(⟨0, 0, 0, dz, 0⟩ : Head), 0, dz⟩ : Signed), (⟨0, 0, 0, 0, dz⟩ : Claim)⟩ : Entry))) (nid := 0) (H' := [bxB 109 (entC (⟨0, 0, 0, ⟨#[]⟩, (⟨(⟨0, 0, 0, dz, 0⟩ : Head), 0, dz⟩ : Signed), (⟨0, 0, 0, 0, dz⟩ : Claim)⟩ : Entry))]) rfl rfl (by kernel_rfl) (by kernel_rfl) ?_
  refine r_doneN (x_then (c_seq (c_reg ?_)))
  refine r_build (vs := [(0, .int .i64 1), (1, .int .i64 1), (2, .int .i64 2), (3, .string ab)]) (v := entV (⟨1, 1, 2, ab, (⟨(⟨0, 0, 0, dz, 0⟩ : Head), 0, dz⟩ : Signed), (⟨0, 0, 0, 0, dz⟩ : Claim)⟩ : Entry)) rfl rfl rfl (by kernel_rfl) ?_
  refine r_store (p := pt 0 0) (v := entV (⟨1, 1, 2, ab, (⟨(⟨0, 0, 0, dz, 0⟩ : Head), 0, dz⟩ : Signed), (⟨0, 0, 0, 0, dz⟩ : Claim)⟩ : Entry)) (b := 0) (blk := bxB 109 (entC (⟨1, 1, 2, ab, (⟨(⟨0, 0, 0, dz, 0⟩ : Head), 0, dz⟩ : Signed), (⟨0, 0, 0, 0, dz⟩ : Claim)⟩ : Entry))) (H' := [bxB 109 (entC (⟨1, 1, 2, ab, (⟨(⟨0, 0, 0, dz, 0⟩ : Head), 0, dz⟩ : Signed), (⟨0, 0, 0, 0, dz⟩ : Claim)⟩ : Entry))]) rfl rfl rfl (by kernel_rfl) (by kernel_rfl) ?_
  refine r_doneN (x_then (c_ret (x_end ?_)))
  exact end_same (v := entV (⟨1, 1, 2, ab, (⟨(⟨0, 0, 0, dz, 0⟩ : Head), 0, dz⟩ : Signed), (⟨0, 0, 0, 0, dz⟩ : Claim)⟩ : Entry)) (by kernel_rfl) rfl rfl (by kernel_rfl) (argV_pure (by kernel_rfl) rfl)
theorem items_ok (kk : Nat → BitVec 32) (hG : G 1 = some (rowE w32 64 kk))  : CallL Tryd.prog G 11 [] [] (.bool true) [] := by
  refine walk (fn := Tryd.f11) (nt := 65) rfl rfl rfl rfl ?_
  refine c_hole 5 (H' := [hole, hole, hole, hole, hole]) rfl ?_
  refine c_seq (c_reg ?_)
  refine r_assign (v := .bool false) rfl rfl rfl ?_
  refine r_doneN (x_then (c_seq (c_reg ?_)))
  refine r_callP (user8_ok (G := G)) (vals := []) (res' := entV userE) rfl rfl rfl rfl rfl (by kernel_rfl) ?_
  refine r_build (vs := [(0, .int .i64 1), (1, entV userE)]) (v := itemV (⟨1, userE⟩ : Item)) rfl rfl rfl (by kernel_rfl) ?_
  refine r_alloc (b := bxB 110 (itemC (⟨0, (⟨0, 0, 0, ⟨#[]⟩, (⟨(⟨0, 0, 0, dz, 0⟩ : Head), 0, dz⟩ : Signed), (⟨0, 0, 0, 0, dz⟩ : Claim)⟩ : Entry)⟩ : Item))) (nid := 0) (H' := [bxB 110 (itemC (⟨0, (⟨0, 0, 0, ⟨#[]⟩, (⟨(⟨0, 0, 0, dz, 0⟩ : Head), 0, dz⟩ : Signed), (⟨0, 0, 0, 0, dz⟩ : Claim)⟩ : Entry)⟩ : Item)), hole, hole, hole, hole]) rfl rfl (by kernel_rfl) (by kernel_rfl) ?_
  refine r_store (p := pt 0 0) (v := itemV (⟨1, userE⟩ : Item)) (b := 0) (blk := bxB 110 (itemC (⟨1, userE⟩ : Item))) (H' := [bxB 110 (itemC (⟨1, userE⟩ : Item)), hole, hole, hole, hole]) rfl rfl rfl (by kernel_rfl) (by kernel_rfl) ?_
  refine r_doneN (x_then (c_seq (c_reg ?_)))
  refine r_load (p := pt 0 0) (v := itemV (⟨1, userE⟩ : Item)) rfl rfl rfl (by kernel_rfl) ?_
  have hpl10 := putI_len (⟨1, userE⟩ : Item)
  have hpz10 := putI_0 (x := (⟨1, userE⟩ : Item)) u8_right
  have hpb10 : sameT (strOf ((putI (⟨1, userE⟩ : Item)).1)) itB = true := by kernel_rfl
  refine r_callN (e := []) (nid := 1) (PutItem_ok (G := G) (⟨1, userE⟩ : Item)) (vals := [itemV (⟨1, userE⟩ : Item)]) (v := .tuple #[slv 1 0 ((putI (⟨1, userE⟩ : Item)).1.length) ((putI (⟨1, userE⟩ : Item)).1.length), .int .i64 (((putI (⟨1, userE⟩ : Item)).2))]) (H' := [bxB 110 (itemC (⟨1, userE⟩ : Item)), rowB ((putI (⟨1, userE⟩ : Item)).1), hole, hole, hole]) rfl rfl rfl rfl rfl rfl rfl ⟨⟨rfl, trivial⟩, trivial, rfl, rfl, rfl⟩ (by kernel_rfl) (by kernel_rfl) ?_
  refine r_move (v := .tuple #[slv 1 0 ((putI (⟨1, userE⟩ : Item)).1.length) ((putI (⟨1, userE⟩ : Item)).1.length), .int .i64 (((putI (⟨1, userE⟩ : Item)).2))]) rfl rfl rfl ?_
  refine r_extract (vs := #[slv 1 0 ((putI (⟨1, userE⟩ : Item)).1.length) ((putI (⟨1, userE⟩ : Item)).1.length), .int .i64 (((putI (⟨1, userE⟩ : Item)).2))]) (v := slv 1 0 ((putI (⟨1, userE⟩ : Item)).1.length) ((putI (⟨1, userE⟩ : Item)).1.length)) rfl rfl rfl rfl ?_
  refine r_extract (vs := #[slv 1 0 ((putI (⟨1, userE⟩ : Item)).1.length) ((putI (⟨1, userE⟩ : Item)).1.length), .int .i64 (((putI (⟨1, userE⟩ : Item)).2))]) (v := .int .i64 (((putI (⟨1, userE⟩ : Item)).2))) rfl rfl rfl rfl ?_
  refine r_assign (v := slv 1 0 ((putI (⟨1, userE⟩ : Item)).1.length) ((putI (⟨1, userE⟩ : Item)).1.length)) rfl rfl rfl ?_
  refine r_assign (v := .int .i64 (((putI (⟨1, userE⟩ : Item)).2))) rfl rfl rfl ?_
  refine r_doneN (x_then (c_seq (c_reg ?_)))
  refine r_move (v := slv 1 0 ((putI (⟨1, userE⟩ : Item)).1.length) ((putI (⟨1, userE⟩ : Item)).1.length)) rfl rfl rfl ?_
  have hg11 := gotI_put (x := (⟨1, userE⟩ : Item)) u8_right
  have hg011 := hg11.1
  have hgl11 := putI_len (⟨1, userE⟩ : Item)
  refine r_callN (e := [some (1, 0)]) (nid := 0) (GetItem_ok (G := G) ((putI (⟨1, userE⟩ : Item)).1) ((putI (⟨1, userE⟩ : Item)).1.length) (by omega) (by omega)) (vals := [slv 1 0 ((putI (⟨1, userE⟩ : Item)).1.length) ((putI (⟨1, userE⟩ : Item)).1.length)]) (v := .tuple #[itemV ((gotI ((putI (⟨1, userE⟩ : Item)).1)).1), .int .i64 (((gotI ((putI (⟨1, userE⟩ : Item)).1)).2))]) (H' := [bxB 110 (itemC (⟨1, userE⟩ : Item)), rowB ((putI (⟨1, userE⟩ : Item)).1), hole, hole, hole]) rfl rfl rfl rfl rfl rfl rfl ⟨⟨⟨rfl, rfl, rfl, by first | omega | exact Nat.le_refl _, by first | omega | exact Nat.le_refl _⟩, trivial⟩, ⟨(emb_rdW rfl), trivial⟩, rfl, rfl, rfl⟩ (by kernel_rfl) (by kernel_rfl) ?_
  refine r_move (v := .tuple #[itemV ((gotI ((putI (⟨1, userE⟩ : Item)).1)).1), .int .i64 (((gotI ((putI (⟨1, userE⟩ : Item)).1)).2))]) rfl rfl rfl ?_
  refine r_extract (vs := #[itemV ((gotI ((putI (⟨1, userE⟩ : Item)).1)).1), .int .i64 (((gotI ((putI (⟨1, userE⟩ : Item)).1)).2))]) (v := itemV ((gotI ((putI (⟨1, userE⟩ : Item)).1)).1)) rfl rfl rfl rfl ?_
  refine r_extract (vs := #[itemV ((gotI ((putI (⟨1, userE⟩ : Item)).1)).1), .int .i64 (((gotI ((putI (⟨1, userE⟩ : Item)).1)).2))]) (v := .int .i64 (((gotI ((putI (⟨1, userE⟩ : Item)).1)).2))) rfl rfl rfl rfl ?_
  refine r_alloc (b := bxB 110 (itemC (⟨0, (⟨0, 0, 0, ⟨#[]⟩, (⟨(⟨0, 0, 0, dz, 0⟩ : Head), 0, dz⟩ : Signed), (⟨0, 0, 0, 0, dz⟩ : Claim)⟩ : Entry)⟩ : Item))) (nid := 2) (H' := [bxB 110 (itemC (⟨1, userE⟩ : Item)), rowB ((putI (⟨1, userE⟩ : Item)).1), bxB 110 (itemC (⟨0, (⟨0, 0, 0, ⟨#[]⟩, (⟨(⟨0, 0, 0, dz, 0⟩ : Head), 0, dz⟩ : Signed), (⟨0, 0, 0, 0, dz⟩ : Claim)⟩ : Entry)⟩ : Item)), hole, hole]) rfl rfl (by kernel_rfl) (by kernel_rfl) ?_
  refine r_store (p := pt 2 0) (v := itemV ((gotI ((putI (⟨1, userE⟩ : Item)).1)).1)) (b := 2) (blk := bxB 110 (itemC ((gotI ((putI (⟨1, userE⟩ : Item)).1)).1))) (H' := [bxB 110 (itemC (⟨1, userE⟩ : Item)), rowB ((putI (⟨1, userE⟩ : Item)).1), bxB 110 (itemC ((gotI ((putI (⟨1, userE⟩ : Item)).1)).1)), hole, hole]) rfl rfl rfl (by kernel_rfl) (by kernel_rfl) ?_
  refine r_assign (v := .int .i64 (((gotI ((putI (⟨1, userE⟩ : Item)).1)).2))) rfl rfl rfl ?_
  refine r_doneN (x_then (c_seq (c_reg ?_)))
  refine r_callN (e := [none]) (nid := 0) (get_c (G := G) [] 0 0 rfl (by omega) (by omega) (show gotE [] = (⟨0, 0, 0, ⟨#[]⟩, ⟨⟨0, 0, 0, dz, 0⟩, 0, dz⟩, ⟨0, 0, 0, 0, dz⟩⟩, 60) from by kernel_rfl)) (vals := [.slice none 0 0]) (v := .tuple #[entV (⟨0, 0, 0, ⟨#[]⟩, (⟨(⟨0, 0, 0, dz, 0⟩ : Head), 0, dz⟩ : Signed), (⟨0, 0, 0, 0, dz⟩ : Claim)⟩ : Entry), .int .i64 60]) (H' := [bxB 110 (itemC (⟨1, userE⟩ : Item)), rowB ((putI (⟨1, userE⟩ : Item)).1), bxB 110 (itemC ((gotI ((putI (⟨1, userE⟩ : Item)).1)).1)), hole, hole]) rfl rfl rfl rfl rfl rfl rfl ⟨⟨⟨rfl, rfl, rfl, rfl⟩, trivial⟩, ⟨⟨rfl, rfl, by show 0 < _; decide⟩, trivial⟩, rfl, rfl, rfl⟩ (by kernel_rfl) (by kernel_rfl) ?_
  refine r_move (v := .tuple #[entV (⟨0, 0, 0, ⟨#[]⟩, (⟨(⟨0, 0, 0, dz, 0⟩ : Head), 0, dz⟩ : Signed), (⟨0, 0, 0, 0, dz⟩ : Claim)⟩ : Entry), .int .i64 60]) rfl rfl rfl ?_
  refine r_extract (vs := #[entV (⟨0, 0, 0, ⟨#[]⟩, (⟨(⟨0, 0, 0, dz, 0⟩ : Head), 0, dz⟩ : Signed), (⟨0, 0, 0, 0, dz⟩ : Claim)⟩ : Entry), .int .i64 60]) (v := entV (⟨0, 0, 0, ⟨#[]⟩, (⟨(⟨0, 0, 0, dz, 0⟩ : Head), 0, dz⟩ : Signed), (⟨0, 0, 0, 0, dz⟩ : Claim)⟩ : Entry)) rfl rfl rfl rfl ?_
  refine r_extract (vs := #[entV (⟨0, 0, 0, ⟨#[]⟩, (⟨(⟨0, 0, 0, dz, 0⟩ : Head), 0, dz⟩ : Signed), (⟨0, 0, 0, 0, dz⟩ : Claim)⟩ : Entry), .int .i64 60]) (v := .int .i64 60) rfl rfl rfl rfl ?_
  refine r_alloc (b := bxB 109 (entC (⟨0, 0, 0, ⟨#[]⟩, (⟨(⟨0, 0, 0, dz, 0⟩ : Head), 0, dz⟩ : Signed), (⟨0, 0, 0, 0, dz⟩ : Claim)⟩ : Entry))) (nid := 3) (H' := [bxB 110 (itemC (⟨1, userE⟩ : Item)), rowB ((putI (⟨1, userE⟩ : Item)).1), bxB 110 (itemC ((gotI ((putI (⟨1, userE⟩ : Item)).1)).1)), bxB 109 (entC (⟨0, 0, 0, ⟨#[]⟩, (⟨(⟨0, 0, 0, dz, 0⟩ : Head), 0, dz⟩ : Signed), (⟨0, 0, 0, 0, dz⟩ : Claim)⟩ : Entry)), hole]) rfl rfl (by kernel_rfl) (by kernel_rfl) ?_
  refine r_store (p := pt 3 0) (v := entV (⟨0, 0, 0, ⟨#[]⟩, (⟨(⟨0, 0, 0, dz, 0⟩ : Head), 0, dz⟩ : Signed), (⟨0, 0, 0, 0, dz⟩ : Claim)⟩ : Entry)) (b := 3) (blk := bxB 109 (entC (⟨0, 0, 0, ⟨#[]⟩, (⟨(⟨0, 0, 0, dz, 0⟩ : Head), 0, dz⟩ : Signed), (⟨0, 0, 0, 0, dz⟩ : Claim)⟩ : Entry))) (H' := [bxB 110 (itemC (⟨1, userE⟩ : Item)), rowB ((putI (⟨1, userE⟩ : Item)).1), bxB 110 (itemC ((gotI ((putI (⟨1, userE⟩ : Item)).1)).1)), bxB 109 (entC (⟨0, 0, 0, ⟨#[]⟩, (⟨(⟨0, 0, 0, dz, 0⟩ : Head), 0, dz⟩ : Signed), (⟨0, 0, 0, 0, dz⟩ : Claim)⟩ : Entry)), hole]) rfl rfl rfl (by kernel_rfl) (by kernel_rfl) ?_
  refine r_assign (v := .int .i64 60) rfl rfl rfl ?_
  refine r_doneN (x_then (c_seq (c_reg ?_)))
  refine r_build (vs := []) (v := itemV (⟨0, (⟨0, 0, 0, ⟨#[]⟩, (⟨(⟨0, 0, 0, dz, 0⟩ : Head), 0, dz⟩ : Signed), (⟨0, 0, 0, 0, dz⟩ : Claim)⟩ : Entry)⟩ : Item)) rfl rfl rfl (by kernel_rfl) ?_
  refine r_callP (leaf_c8 (G := G) kk hG (⟨0, (⟨0, 0, 0, ⟨#[]⟩, (⟨(⟨0, 0, 0, dz, 0⟩ : Head), 0, dz⟩ : Signed), (⟨0, 0, 0, 0, dz⟩ : Claim)⟩ : Entry)⟩ : Item) (show leafI kk (⟨0, (⟨0, 0, 0, ⟨#[]⟩, (⟨(⟨0, 0, 0, dz, 0⟩ : Head), 0, dz⟩ : Signed), (⟨0, 0, 0, 0, dz⟩ : Claim)⟩ : Entry)⟩ : Item) = (dz, 60) from by kernel_rfl)) (vals := [itemV (⟨0, (⟨0, 0, 0, ⟨#[]⟩, (⟨(⟨0, 0, 0, dz, 0⟩ : Head), 0, dz⟩ : Signed), (⟨0, 0, 0, 0, dz⟩ : Claim)⟩ : Entry)⟩ : Item)]) (res' := .tuple #[dgV dz, .int .i64 60]) rfl rfl rfl rfl rfl (by kernel_rfl) ?_
  refine r_move (v := .tuple #[dgV dz, .int .i64 60]) rfl rfl rfl ?_
  refine r_extract (vs := #[dgV dz, .int .i64 60]) (v := dgV dz) rfl rfl rfl rfl ?_
  refine r_extract (vs := #[dgV dz, .int .i64 60]) (v := .int .i64 60) rfl rfl rfl rfl ?_
  refine r_alloc (b := dgB dz) (nid := 4) (H' := [bxB 110 (itemC (⟨1, userE⟩ : Item)), rowB ((putI (⟨1, userE⟩ : Item)).1), bxB 110 (itemC ((gotI ((putI (⟨1, userE⟩ : Item)).1)).1)), bxB 109 (entC (⟨0, 0, 0, ⟨#[]⟩, (⟨(⟨0, 0, 0, dz, 0⟩ : Head), 0, dz⟩ : Signed), (⟨0, 0, 0, 0, dz⟩ : Claim)⟩ : Entry)), dgB dz]) rfl rfl (by kernel_rfl) (by kernel_rfl) ?_
  refine r_store (p := pt 4 0) (v := dgV dz) (b := 4) (blk := dgB dz) (H' := [bxB 110 (itemC (⟨1, userE⟩ : Item)), rowB ((putI (⟨1, userE⟩ : Item)).1), bxB 110 (itemC ((gotI ((putI (⟨1, userE⟩ : Item)).1)).1)), bxB 109 (entC (⟨0, 0, 0, ⟨#[]⟩, (⟨(⟨0, 0, 0, dz, 0⟩ : Head), 0, dz⟩ : Signed), (⟨0, 0, 0, 0, dz⟩ : Claim)⟩ : Entry)), dgB dz]) rfl rfl rfl (by kernel_rfl) (by kernel_rfl) ?_
  refine r_assign (v := .int .i64 60) rfl rfl rfl ?_
  refine r_doneN (x_then (c_seq (c_reg ?_)))
  refine r_move (v := .int .i64 (((putI (⟨1, userE⟩ : Item)).2))) rfl rfl rfl ?_
  refine r_bin (v := .bool true) (vx := .int .i64 (((putI (⟨1, userE⟩ : Item)).2))) (vy := .int .i64 0) rfl rfl rfl rfl (eql_t (by omega)) ?_
  refine r_move (v := .bool true) rfl rfl rfl ?_
  refine r_move (v := slv 1 0 ((putI (⟨1, userE⟩ : Item)).1.length) ((putI (⟨1, userE⟩ : Item)).1.length)) rfl rfl rfl ?_
  refine r_str (p := slv 1 0 ((putI (⟨1, userE⟩ : Item)).1.length) ((putI (⟨1, userE⟩ : Item)).1.length)) (v := .string (strOf ((putI (⟨1, userE⟩ : Item)).1))) rfl rfl rfl (str_whole rfl rfl rfl rfl rfl (by omega)) ?_
  refine r_bin (v := .bool true) (vx := .string (strOf ((putI (⟨1, userE⟩ : Item)).1))) (vy := .string itB) rfl rfl rfl rfl (Eq.trans (eql_str _ _) (by rw [hpb10] <;> rfl)) ?_
  refine r_pick (v := .bool true) rfl rfl rfl ?_
  refine r_move (v := .bool true) rfl rfl rfl ?_
  refine r_move (v := .int .i64 (((gotI ((putI (⟨1, userE⟩ : Item)).1)).2))) rfl rfl rfl ?_
  refine r_bin (v := .bool true) (vx := .int .i64 (((gotI ((putI (⟨1, userE⟩ : Item)).1)).2))) (vy := .int .i64 0) rfl rfl rfl rfl (eql_t (by omega)) ?_
  refine r_pick (v := .bool true) rfl rfl rfl ?_
  refine r_move (v := .bool true) rfl rfl rfl ?_
  refine r_load (p := pt 2 0) (v := itemV ((gotI ((putI (⟨1, userE⟩ : Item)).1)).1)) rfl rfl rfl (by kernel_rfl) ?_
  refine r_load (p := pt 0 0) (v := itemV (⟨1, userE⟩ : Item)) rfl rfl rfl (by kernel_rfl) ?_
  refine r_bin (v := .bool true) (vx := itemV ((gotI ((putI (⟨1, userE⟩ : Item)).1)).1)) (vy := itemV (⟨1, userE⟩ : Item)) rfl rfl rfl rfl (Eq.trans (eql_Item ((gotI ((putI (⟨1, userE⟩ : Item)).1)).1) (⟨1, userE⟩ : Item)) (by rw [hg11.2] <;> rfl)) ?_
  refine r_pick (v := .bool true) rfl rfl rfl ?_
  refine r_move (v := .bool true) rfl rfl rfl ?_
  refine r_move (v := .int .i64 60) rfl rfl rfl ?_
  refine r_bin (v := .bool true) (vx := .int .i64 60) (vy := .int .i64 60) rfl rfl rfl rfl (eql_t (by omega)) ?_
  refine r_pick (v := .bool true) rfl rfl rfl ?_
  refine r_move (v := .bool true) rfl rfl rfl ?_
  refine r_move (v := .int .i64 60) rfl rfl rfl ?_
  refine r_bin (v := .bool true) (vx := .int .i64 60) (vy := .int .i64 60) rfl rfl rfl rfl (eql_t (by omega)) ?_
  refine r_pick (v := .bool true) rfl rfl rfl ?_
  refine r_move (v := .bool true) rfl rfl rfl ?_
  refine r_callP (user8_ok (G := G)) (vals := []) (res' := entV userE) rfl rfl rfl rfl rfl (by kernel_rfl) ?_
  refine r_callP ((EntCheck_ok (G := G) userE).res (congrArg (Value.int .i64) (show chkE userE = 0 from by kernel_rfl))) (vals := [entV userE]) (res' := .int .i64 0) rfl rfl rfl rfl rfl rfl ?_
  refine r_bin (v := .bool true) (vx := .int .i64 0) (vy := .int .i64 0) rfl rfl rfl rfl (eql_t (by omega)) ?_
  refine r_pick (v := .bool true) rfl rfl rfl ?_
  refine r_move (v := .bool true) rfl rfl rfl ?_
  refine r_build (vs := []) (v := entV (⟨0, 0, 0, ⟨#[]⟩, (⟨(⟨0, 0, 0, dz, 0⟩ : Head), 0, dz⟩ : Signed), (⟨0, 0, 0, 0, dz⟩ : Claim)⟩ : Entry)) rfl rfl rfl (by kernel_rfl) ?_
  refine r_callP ((EntCheck_ok (G := G) (⟨0, 0, 0, ⟨#[]⟩, (⟨(⟨0, 0, 0, dz, 0⟩ : Head), 0, dz⟩ : Signed), (⟨0, 0, 0, 0, dz⟩ : Claim)⟩ : Entry)).res (congrArg (Value.int .i64) (show chkE (⟨0, 0, 0, ⟨#[]⟩, (⟨(⟨0, 0, 0, dz, 0⟩ : Head), 0, dz⟩ : Signed), (⟨0, 0, 0, 0, dz⟩ : Claim)⟩ : Entry) = 60 from by kernel_rfl))) (vals := [entV (⟨0, 0, 0, ⟨#[]⟩, (⟨(⟨0, 0, 0, dz, 0⟩ : Head), 0, dz⟩ : Signed), (⟨0, 0, 0, 0, dz⟩ : Claim)⟩ : Entry)]) (res' := .int .i64 60) rfl rfl rfl rfl rfl rfl ?_
  refine r_bin (v := .bool true) (vx := .int .i64 60) (vy := .int .i64 60) rfl rfl rfl rfl (eql_t (by omega)) ?_
  refine r_pick (v := .bool true) rfl rfl rfl ?_
  refine r_assign (v := .bool true) rfl rfl rfl ?_
  refine r_doneN (x_then (c_ret (x_end ?_)))
  exact end_pv (v := .bool true) rfl rfl rfl
end Go.Flat
