/- Walks and plain laws: what each theorem says, within the bounds that it names. -/
import Derived.Test.YtoheeojjdpdljaaDoorC4
set_option linter.unusedVariables false
set_option linter.unusedSimpArgs false
set_option maxRecDepth 20000
namespace Go.Flat
open Go.Proofs
variable {G : Glob}
def itB : ByteArray := ⟨#[1, 0, 0, 1, 1, 2, 0, 0, 21, 1, 0, 0, 1, 1, 2, 0, 0, 1, 1, 3, 0, 0, 1, 2, 4, 0, 0, 2, 97, 98]⟩
def ab : ByteArray := ⟨#[97, 98]⟩
def userE : Entry := ⟨1, 1, 2, ab, ⟨⟨0, 0, 0, dz, 0⟩, 0, dz⟩, ⟨0, 0, 0, 0, dz⟩⟩
theorem u8_right : rightI ⟨1, userE⟩ := ⟨by show (1 : Int) ≤ 1; omega, by show (1 : Int) ≤ 900000000; omega, of_decide_eq_true (by kernel_rfl)⟩
theorem get_c (l : Bs) (n c : Nat) (hn : l.length = n) (hc : n ≤ c) (hb : n ≤ 1048576) {e : Entry} {z : Int} (h : gotE l = (e, z)) : CallL Tryd.prog G 12 [slv 0 0 n c] [rdB l] (.tuple #[entV e, .int .i64 z]) [rdB l] := by
  have q := Get_n (G := G) l n c hn hc hb
  rw [h] at q; exact q
theorem leaf_c8 (kk : Nat → BitVec 32) (hG : G 1 = some (rowE w32 64 kk)) (x : Item) {d : D} {z : Int} (h : leafI kk x = (d, z)) : CallL Tryd.prog G 15 [itemV x] [] (.tuple #[dgV d, .int .i64 z]) [] := by
  have q := Leaf_ok (G := G) kk hG x
  rw [h] at q; exact q
theorem kinds_1 {x : Entry} {text : ByteArray} (h : rightE x) (hk : x.kind ≠ 1) (ht : sameT text ⟨#[]⟩ = false) : chkE ⟨x.kind, x.client, x.seq, text, x.head, x.claim⟩ = 60 := by
  refine if_neg fun q => ?_
  have ht' : text ≠ ⟨#[]⟩ := fun e => by rw [(sameT_iff _ _).2 e] at ht; cases ht
  rcases q with q | q | q
  · exact hk q.1
  · exact ht' q.2.2.2.1
  · exact ht' q.2.2.2.1
theorem kinds_2 {x : Entry} {c : Claim} (h : rightE x) (hk : x.kind ≠ 3) (ht : eqClaim c ⟨0, 0, 0, 0, dz⟩ = false) : chkE ⟨x.kind, x.client, x.seq, x.text, x.head, c⟩ = 60 := by
  refine if_neg fun q => ?_
  rcases q with q | q | q
  · rw [q.2.2.2.2.2.2.2] at ht; cases ht
  · rw [q.2.2.2.2.2] at ht; cases ht
  · exact hk q.1
theorem kinds_3 {x : Entry} (h : rightE x) : (x.kind = 1 ∨ (x.client = 0 ∧ x.seq = 0)) ∧ (x.kind = 2 ∨ eqSigned x.head ⟨⟨0, 0, 0, dz, 0⟩, 0, dz⟩ = true) := by
  rcases h with q | q | q
  · exact ⟨.inl q.1, .inr q.2.2.2.2.2.2.1⟩
  · exact ⟨.inr ⟨q.2.1, q.2.2.1⟩, .inl q.1⟩
  · exact ⟨.inr ⟨q.2.1, q.2.2.1⟩, .inr q.2.2.2.2.1⟩
theorem user8_ok  : CallL Tryd.prog G 37 [] [] (entV userE) [] := by
  refine walk (fn := Tryd.f37) (nt := 2) rfl rfl rfl rfl ?_
  refine c_hole 1 (H' := [hole]) rfl ?_
  refine c_seq (c_reg ?_)
  refine r_alloc (b := bxB 109 (entC (⟨0, 0, 0, ⟨#[]⟩, (⟨(⟨0, 0, 0, dz, 0⟩ : Head), 0, dz⟩ : Signed), (⟨0, 0, 0, 0, dz⟩ : Claim)⟩ : Entry))) (nid := 0) (H' := [bxB 109 (entC (⟨0, 0, 0, ⟨#[]⟩, (⟨(⟨0, 0, 0, dz, 0⟩ : Head), 0, dz⟩ : Signed), (⟨0, 0, 0, 0, dz⟩ : Claim)⟩ : Entry))]) rfl rfl (by kernel_rfl) (by kernel_rfl) ?_
  refine r_doneN (x_then (c_seq (c_reg ?_)))
  refine r_build (vs := [(0, .int .i64 1), (1, .int .i64 1), (2, .int .i64 2), (3, .string ab)]) (v := entV (⟨1, 1, 2, ab, (⟨(⟨0, 0, 0, dz, 0⟩ : Head), 0, dz⟩ : Signed), (⟨0, 0, 0, 0, dz⟩ : Claim)⟩ : Entry)) rfl rfl rfl (by kernel_rfl) ?_
  refine r_store (p := pt 0 0) (v := entV (⟨1, 1, 2, ab, (⟨(⟨0, 0, 0, dz, 0⟩ : Head), 0, dz⟩ : Signed), (⟨0, 0, 0, 0, dz⟩ : Claim)⟩ : Entry)) (b := 0) (blk := bxB 109 (entC (⟨1, 1, 2, ab, (⟨(⟨0, 0, 0, dz, 0⟩ : Head), 0, dz⟩ : Signed), (⟨0, 0, 0, 0, dz⟩ : Claim)⟩ : Entry))) (H' := [bxB 109 (entC (⟨1, 1, 2, ab, (⟨(⟨0, 0, 0, dz, 0⟩ : Head), 0, dz⟩ : Signed), (⟨0, 0, 0, 0, dz⟩ : Claim)⟩ : Entry))]) rfl rfl rfl (by kernel_rfl) (by kernel_rfl) ?_
  refine r_doneN (x_then (c_ret (x_end ?_)))
  exact end_same (v := entV (⟨1, 1, 2, ab, (⟨(⟨0, 0, 0, dz, 0⟩ : Head), 0, dz⟩ : Signed), (⟨0, 0, 0, 0, dz⟩ : Claim)⟩ : Entry)) (by kernel_rfl) rfl rfl (by kernel_rfl) (argV_pure (by kernel_rfl) rfl)
theorem items_ok (kk : Nat → BitVec 32) (hG : G 1 = some (rowE w32 64 kk))  : CallL Tryd.prog G 11 [] [] (.bool true) [] := by
  refine walk (fn := Tryd.f11) (nt := 65) rfl rfl rfl rfl ?_
  refine c_hole 5 (H' := [hole, hole, hole, hole, hole]) rfl ?_
  refine c_seq (c_reg ?_)
  refine r_assign (v := .bool false) rfl rfl rfl ?_
  refine r_doneN (x_then (c_seq (c_reg ?_)))
  refine r_callP (user8_ok (G := G)) (vals := []) (res' := entV userE) rfl rfl rfl rfl rfl (by kernel_rfl) ?_
  refine r_build (vs := [(0, .int .i64 1), (1, entV userE)]) (v := itemV (⟨1, userE⟩ : Item)) rfl rfl rfl (by kernel_rfl) ?_
  refine r_alloc (b := bxB 110 (itemC (⟨0, (⟨0, 0, 0, ⟨#[]⟩, (⟨(⟨0, 0, 0, dz, 0⟩ : Head), 0, dz⟩ : Signed), (⟨0, 0, 0, 0, dz⟩ : Claim)⟩ : Entry)⟩ : Item))) (nid := 0) (H' := [bxB 110 (itemC (⟨0, (⟨0, 0, 0, ⟨#[]⟩, (⟨(⟨0, 0, 0, dz, 0⟩ : Head), 0, dz⟩ : Signed), (⟨0, 0, 0, 0, dz⟩ : Claim)⟩ : Entry)⟩ : Item)), hole, hole, hole, hole]) rfl rfl (by kernel_rfl) (by kernel_rfl) ?_
  refine r_store (p := pt 0 0) (v := itemV (⟨1, userE⟩ : Item)) (b := 0) (blk := bxB 110 (itemC (⟨1, userE⟩ : Item))) (H' := [bxB 110 (itemC (⟨1, userE⟩ : Item)), hole, hole, hole, hole]) rfl rfl rfl (by kernel_rfl) (by kernel_rfl) ?_
  refine r_doneN (x_then (c_seq (c_reg ?_)))
  refine r_load (p := pt 0 0) (v := itemV (⟨1, userE⟩ : Item)) rfl rfl rfl (by kernel_rfl) ?_
  have hpl10 := putI_len (⟨1, userE⟩ : Item)
  have hpz10 := putI_0 (x := (⟨1, userE⟩ : Item)) u8_right
  have hpb10 : sameT (strOf ((putI (⟨1, userE⟩ : Item)).1)) itB = true := by kernel_rfl
  refine r_callN (e := []) (nid := 1) (PutItem_ok (G := G) (⟨1, userE⟩ : Item)) (vals := [itemV (⟨1, userE⟩ : Item)]) (v := .tuple #[slv 1 0 ((putI (⟨1, userE⟩ : Item)).1.length) ((putI (⟨1, userE⟩ : Item)).1.length), .int .i64 (((putI (⟨1, userE⟩ : Item)).2))]) (H' := [bxB 110 (itemC (⟨1, userE⟩ : Item)), rowB ((putI (⟨1, userE⟩ : Item)).1), hole, hole, hole]) rfl rfl rfl rfl rfl rfl rfl ⟨⟨rfl, trivial⟩, trivial, rfl, rfl, rfl⟩ (by kernel_rfl) (by kernel_rfl) ?_
  refine r_move (v := .tuple #[slv 1 0 ((putI (⟨1, userE⟩ : Item)).1.length) ((putI (⟨1, userE⟩ : Item)).1.length), .int .i64 (((putI (⟨1, userE⟩ : Item)).2))]) rfl rfl rfl ?_
  refine r_extract (vs := #[slv 1 0 ((putI (⟨1, userE⟩ : Item)).1.length) ((putI (⟨1, userE⟩ : Item)).1.length), .int .i64 (((putI (⟨1, userE⟩ : Item)).2))]) (v := slv 1 0 ((putI (⟨1, userE⟩ : Item)).1.length) ((putI (⟨1, userE⟩ : Item)).1.length)) rfl rfl rfl rfl ?_
  refine r_extract (vs := #[slv 1 0 ((putI (⟨1, userE⟩ : Item)).1.length) ((putI (⟨1, userE⟩ : Item)).1.length), .int .i64 (((putI (⟨1, userE⟩ : Item)).2))]) (v := .int .i64 (((putI (⟨1, userE⟩ : Item)).2))) rfl rfl rfl rfl ?_
  refine r_assign (v := slv 1 0 ((putI (⟨1, userE⟩ : Item)).1.length) ((putI (⟨1, userE⟩ : Item)).1.length)) rfl rfl rfl ?_
  refine r_assign (v := .int .i64 (((putI (⟨1, userE⟩ : Item)).2))) rfl rfl rfl ?_
  refine r_doneN (x_then (c_seq (c_reg ?_)))
  refine r_move (v := slv 1 0 ((putI (⟨1, userE⟩ : Item)).1.length) ((putI (⟨1, userE⟩ : Item)).1.length)) rfl rfl rfl ?_
  have hg11 := gotI_put (x := (⟨1, userE⟩ : Item)) u8_right
  have hg011 := hg11.1
  have hgl11 := putI_len (⟨1, userE⟩ : Item)
  refine r_callN (e := [some (1, 0)]) (nid := 0) (GetItem_ok (G := G) ((putI (⟨1, userE⟩ : Item)).1) ((putI (⟨1, userE⟩ : Item)).1.length) (by omega) (by omega)) (vals := [slv 1 0 ((putI (⟨1, userE⟩ : Item)).1.length) ((putI (⟨1, userE⟩ : Item)).1.length)]) (v := .tuple #[itemV ((gotI ((putI (⟨1, userE⟩ : Item)).1)).1), .int .i64 (((gotI ((putI (⟨1, userE⟩ : Item)).1)).2))]) (H' := [bxB 110 (itemC (⟨1, userE⟩ : Item)), rowB ((putI (⟨1, userE⟩ : Item)).1), hole, hole, hole]) rfl rfl rfl rfl rfl rfl rfl ⟨⟨⟨rfl, rfl, rfl, by first | omega | exact Nat.le_refl _, by first | omega | exact Nat.le_refl _⟩, trivial⟩, ⟨(emb_rdW rfl), trivial⟩, rfl, rfl, rfl⟩ (by kernel_rfl) (by kernel_rfl) ?_
  refine r_move (v := .tuple #[itemV ((gotI ((putI (⟨1, userE⟩ : Item)).1)).1), .int .i64 (((gotI ((putI (⟨1, userE⟩ : Item)).1)).2))]) rfl rfl rfl ?_
  refine r_extract (vs := #[itemV ((gotI ((putI (⟨1, userE⟩ : Item)).1)).1), .int .i64 (((gotI ((putI (⟨1, userE⟩ : Item)).1)).2))]) (v := itemV ((gotI ((putI (⟨1, userE⟩ : Item)).1)).1)) rfl rfl rfl rfl ?_
  refine r_extract (vs := #[itemV ((gotI ((putI (⟨1, userE⟩ : Item)).1)).1), .int .i64 (((gotI ((putI (⟨1, userE⟩ : Item)).1)).2))]) (v := .int .i64 (((gotI ((putI (⟨1, userE⟩ : Item)).1)).2))) rfl rfl rfl rfl ?_
  refine r_alloc (b := bxB 110 (itemC (⟨0, (⟨0, 0, 0, ⟨#[]⟩, (⟨(⟨0, 0, 0, dz, 0⟩ : Head), 0, dz⟩ : Signed), (⟨0, 0, 0, 0, dz⟩ : Claim)⟩ : Entry)⟩ : Item))) (nid := 2) (H' := [bxB 110 (itemC (⟨1, userE⟩ : Item)), rowB ((putI (⟨1, userE⟩ : Item)).1), bxB 110 (itemC (⟨0, (⟨0, 0, 0, ⟨#[]⟩, (⟨(⟨0, 0, 0, dz, 0⟩ : Head), 0, dz⟩ : Signed), (⟨0, 0, 0, 0, dz⟩ : Claim)⟩ : Entry)⟩ : Item)), hole, hole]) rfl rfl (by kernel_rfl) (by kernel_rfl) ?_
  refine r_store (p := pt 2 0) (v := itemV ((gotI ((putI (⟨1, userE⟩ : Item)).1)).1)) (b := 2) (blk := bxB 110 (itemC ((gotI ((putI (⟨1, userE⟩ : Item)).1)).1))) (H' := [bxB 110 (itemC (⟨1, userE⟩ : Item)), rowB ((putI (⟨1, userE⟩ : Item)).1), bxB 110 (itemC ((gotI ((putI (⟨1, userE⟩ : Item)).1)).1)), hole, hole]) rfl rfl rfl (by kernel_rfl) (by kernel_rfl) ?_
  refine r_assign (v := .int .i64 (((gotI ((putI (⟨1, userE⟩ : Item)).1)).2))) rfl rfl rfl ?_
  refine r_doneN (x_then (c_seq (c_reg ?_)))
  refine r_callN (e := [none]) (nid := 0) (get_c (G := G) [] 0 0 rfl (by omega) (by omega) (show gotE [] = (⟨0, 0, 0, ⟨#[]⟩, ⟨⟨0, 0, 0, dz, 0⟩, 0, dz⟩, ⟨0, 0, 0, 0, dz⟩⟩, 60) from by kernel_rfl)) (vals := [.slice none 0 0]) (v := .tuple #[entV (⟨0, 0, 0, ⟨#[]⟩, (⟨(⟨0, 0, 0, dz, 0⟩ : Head), 0, dz⟩ : Signed), (⟨0, 0, 0, 0, dz⟩ : Claim)⟩ : Entry), .int .i64 60]) (H' := [bxB 110 (itemC (⟨1, userE⟩ : Item)), rowB ((putI (⟨1, userE⟩ : Item)).1), bxB 110 (itemC ((gotI ((putI (⟨1, userE⟩ : Item)).1)).1)), hole, hole]) rfl rfl rfl rfl rfl rfl rfl ⟨⟨⟨rfl, rfl, rfl, rfl⟩, trivial⟩, ⟨⟨rfl, rfl, by show 0 < _; decide⟩, trivial⟩, rfl, rfl, rfl⟩ (by kernel_rfl) (by kernel_rfl) ?_
  refine r_move (v := .tuple #[entV (⟨0, 0, 0, ⟨#[]⟩, (⟨(⟨0, 0, 0, dz, 0⟩ : Head), 0, dz⟩ : Signed), (⟨0, 0, 0, 0, dz⟩ : Claim)⟩ : Entry), .int .i64 60]) rfl rfl rfl ?_
  refine r_extract (vs := #[entV (⟨0, 0, 0, ⟨#[]⟩, (⟨(⟨0, 0, 0, dz, 0⟩ : Head), 0, dz⟩ : Signed), (⟨0, 0, 0, 0, dz⟩ : Claim)⟩ : Entry), .int .i64 60]) (v := entV (⟨0, 0, 0, ⟨#[]⟩, (⟨(⟨0, 0, 0, dz, 0⟩ : Head), 0, dz⟩ : Signed), (⟨0, 0, 0, 0, dz⟩ : Claim)⟩ : Entry)) rfl rfl rfl rfl ?_
  refine r_extract (vs := #[entV (⟨0, 0, 0, ⟨#[]⟩, (⟨(⟨0, 0, 0, dz, 0⟩ : Head), 0, dz⟩ : Signed), (⟨0, 0, 0, 0, dz⟩ : Claim)⟩ : Entry), .int .i64 60]) (v := .int .i64 60) rfl rfl rfl rfl ?_
  refine r_alloc (b := bxB 109 (entC (⟨0, 0, 0, ⟨#[]⟩, (⟨(⟨0, 0, 0, dz, 0⟩ : Head), 0, dz⟩ : Signed), (⟨0, 0, 0, 0, dz⟩ : Claim)⟩ : Entry))) (nid := 3) (H' := [bxB 110 (itemC (⟨1, userE⟩ : Item)), rowB ((putI (⟨1, userE⟩ : Item)).1), bxB 110 (itemC ((gotI ((putI (⟨1, userE⟩ : Item)).1)).1)), bxB 109 (entC (⟨0, 0, 0, ⟨#[]⟩, (⟨(⟨0, 0, 0, dz, 0⟩ : Head), 0, dz⟩ : Signed), (⟨0, 0, 0, 0, dz⟩ : Claim)⟩ : Entry)), hole]) rfl rfl (by kernel_rfl) (by kernel_rfl) ?_
  refine r_store (p := pt 3 0) (v := entV (⟨0, 0, 0, ⟨#[]⟩, (⟨(⟨0, 0, 0, dz, 0⟩ : Head), 0, dz⟩ : Signed), (⟨0, 0, 0, 0, dz⟩ : Claim)⟩ : Entry)) (b := 3) (blk := bxB 109 (entC (⟨0, 0, 0, ⟨#[]⟩, (⟨(⟨0, 0, 0, dz, 0⟩ : Head), 0, dz⟩ : Signed), (⟨0, 0, 0, 0, dz⟩ : Claim)⟩ : Entry))) (H' := [bxB 110 (itemC (⟨1, userE⟩ : Item)), rowB ((putI (⟨1, userE⟩ : Item)).1), bxB 110 (itemC ((gotI ((putI (⟨1, userE⟩ : Item)).1)).1)), bxB 109 (entC (⟨0, 0, 0, ⟨#[]⟩, (⟨(⟨0, 0, 0, dz, 0⟩ : Head), 0, dz⟩ : Signed), (⟨0, 0, 0, 0, dz⟩ : Claim)⟩ : Entry)), hole]) rfl rfl rfl (by kernel_rfl) (by kernel_rfl) ?_
  refine r_assign (v := .int .i64 60) rfl rfl rfl ?_
  refine r_doneN (x_then (c_seq (c_reg ?_)))
  refine r_build (vs := []) (v := itemV (⟨0, (⟨0, 0, 0, ⟨#[]⟩, (⟨(⟨0, 0, 0, dz, 0⟩ : Head), 0, dz⟩ : Signed), (⟨0, 0, 0, 0, dz⟩ : Claim)⟩ : Entry)⟩ : Item)) rfl rfl rfl (by kernel_rfl) ?_
  refine r_callP (leaf_c8 (G := G) kk hG (⟨0, (⟨0, 0, 0, ⟨#[]⟩, (⟨(⟨0, 0, 0, dz, 0⟩ : Head), 0, dz⟩ : Signed), (⟨0, 0, 0, 0, dz⟩ : Claim)⟩ : Entry)⟩ : Item) (show leafI kk (⟨0, (⟨0, 0, 0, ⟨#[]⟩, (⟨(⟨0, 0, 0, dz, 0⟩ : Head), 0, dz⟩ : Signed), (⟨0, 0, 0, 0, dz⟩ : Claim)⟩ : Entry)⟩ : Item) = (dz, 60) from by kernel_rfl)) (vals := [itemV (⟨0, (⟨0, 0, 0, ⟨#[]⟩, (⟨(⟨0, 0, 0, dz, 0⟩ : Head), 0, dz⟩ : Signed), (⟨0, 0, 0, 0, dz⟩ : Claim)⟩ : Entry)⟩ : Item)]) (res' := .tuple #[dgV dz, .int .i64 60]) rfl rfl rfl rfl rfl (by kernel_rfl) ?_
  refine r_move (v := .tuple #[dgV dz, .int .i64 60]) rfl rfl rfl ?_
  refine r_extract (vs := #[dgV dz, .int .i64 60]) (v := dgV dz) rfl rfl rfl rfl ?_
  refine r_extract (vs := #[dgV dz, .int .i64 60]) (v := .int .i64 60) rfl rfl rfl rfl ?_
  refine r_alloc (b := dgB dz) (nid := 4) (H' := [bxB 110 (itemC (⟨1, userE⟩ : Item)), rowB ((putI (⟨1, userE⟩ : Item)).1), bxB 110 (itemC ((gotI ((putI (⟨1, userE⟩ : Item)).1)).1)), bxB 109 (entC (⟨0, 0, 0, ⟨#[]⟩, (⟨(⟨0, 0, 0, dz, 0⟩ : Head), 0, dz⟩ : Signed), (⟨0, 0, 0, 0, dz⟩ : Claim)⟩ : Entry)), dgB dz]) rfl rfl (by kernel_rfl) (by kernel_rfl) ?_
  refine r_store (p := pt 4 0) (v := dgV dz) (b := 4) (blk := dgB dz) (H' := [bxB 110 (itemC (⟨1, userE⟩ : Item)), rowB ((putI (⟨1, userE⟩ : Item)).1), bxB 110 (itemC ((gotI ((putI (⟨1, userE⟩ : Item)).1)).1)), bxB 109 (entC (⟨0, 0, 0, ⟨#[]⟩, (⟨(⟨0, 0, 0, dz, 0⟩ : Head), 0, dz⟩ : Signed), (⟨0, 0, 0, 0, dz⟩ : Claim)⟩ : Entry)), dgB dz]) rfl rfl rfl (by kernel_rfl) (by kernel_rfl) ?_
  refine r_assign (v := .int .i64 60) rfl rfl rfl ?_
  refine r_doneN (x_then (c_seq (c_reg ?_)))
  refine r_move (v := .int .i64 (((putI (⟨1, userE⟩ : Item)).2))) rfl rfl rfl ?_
  refine r_bin (v := .bool true) (vx := .int .i64 (((putI (⟨1, userE⟩ : Item)).2))) (vy := .int .i64 0) rfl rfl rfl rfl (eql_t (by omega)) ?_
  refine r_move (v := .bool true) rfl rfl rfl ?_
  refine r_move (v := slv 1 0 ((putI (⟨1, userE⟩ : Item)).1.length) ((putI (⟨1, userE⟩ : Item)).1.length)) rfl rfl rfl ?_
  refine r_str (p := slv 1 0 ((putI (⟨1, userE⟩ : Item)).1.length) ((putI (⟨1, userE⟩ : Item)).1.length)) (v := .string (strOf ((putI (⟨1, userE⟩ : Item)).1))) rfl rfl rfl (str_whole rfl rfl rfl rfl rfl (by omega)) ?_
  refine r_bin (v := .bool true) (vx := .string (strOf ((putI (⟨1, userE⟩ : Item)).1))) (vy := .string itB) rfl rfl rfl rfl (Eq.trans (eql_str _ _) (by rw [hpb10] <;> rfl)) ?_
  refine r_pick (v := .bool true) rfl rfl rfl ?_
  refine r_move (v := .bool true) rfl rfl rfl ?_
  refine r_move (v := .int .i64 (((gotI ((putI (⟨1, userE⟩ : Item)).1)).2))) rfl rfl rfl ?_
  refine r_bin (v := .bool true) (vx := .int .i64 (((gotI ((putI (⟨1, userE⟩ : Item)).1)).2))) (vy := .int .i64 0) rfl rfl rfl rfl (eql_t (by omega)) ?_
  refine r_pick (v := .bool true) rfl rfl rfl ?_
  refine r_move (v := .bool true) rfl rfl rfl ?_
  refine r_load (p := pt 2 0) (v := itemV ((gotI ((putI (⟨1, userE⟩ : Item)).1)).1)) rfl rfl rfl (by kernel_rfl) ?_
  refine r_load (p := pt 0 0) (v := itemV (⟨1, userE⟩ : Item)) rfl rfl rfl (by kernel_rfl) ?_
  refine r_bin (v := .bool true) (vx := itemV ((gotI ((putI (⟨1, userE⟩ : Item)).1)).1)) (vy := itemV (⟨1, userE⟩ : Item)) rfl rfl rfl rfl (Eq.trans (eql_Item ((gotI ((putI (⟨1, userE⟩ : Item)).1)).1) (⟨1, userE⟩ : Item)) (by rw [hg11.2] <;> rfl)) ?_
  refine r_pick (v := .bool true) rfl rfl rfl ?_
  refine r_move (v := .bool true) rfl rfl rfl ?_
  refine r_move (v := .int .i64 60) rfl rfl rfl ?_
  refine r_bin (v := .bool true) (vx := .int .i64 60) (vy := .int .i64 60) rfl rfl rfl rfl (eql_t (by omega)) ?_
  refine r_pick (v := .bool true) rfl rfl rfl ?_
  refine r_move (v := .bool true) rfl rfl rfl ?_
  refine r_move (v := .int .i64 60) rfl rfl rfl ?_
  refine r_bin (v := .bool true) (vx := .int .i64 60) (vy := .int .i64 60) rfl rfl rfl rfl (eql_t (by omega)) ?_
  refine r_pick (v := .bool true) rfl rfl rfl ?_
  refine r_move (v := .bool true) rfl rfl rfl ?_
  refine r_callP (user8_ok (G := G)) (vals := []) (res' := entV userE) rfl rfl rfl rfl rfl (by kernel_rfl) ?_
  refine r_callP ((EntCheck_ok (G := G) userE).res (congrArg (Value.int .i64) (show chkE userE = 0 from by kernel_rfl))) (vals := [entV userE]) (res' := .int .i64 0) rfl rfl rfl rfl rfl rfl ?_
  refine r_bin (v := .bool true) (vx := .int .i64 0) (vy := .int .i64 0) rfl rfl rfl rfl (eql_t (by omega)) ?_
  refine r_pick (v := .bool true) rfl rfl rfl ?_
  refine r_move (v := .bool true) rfl rfl rfl ?_
  refine r_build (vs := []) (v := entV (⟨0, 0, 0, ⟨#[]⟩, (⟨(⟨0, 0, 0, dz, 0⟩ : Head), 0, dz⟩ : Signed), (⟨0, 0, 0, 0, dz⟩ : Claim)⟩ : Entry)) rfl rfl rfl (by kernel_rfl) ?_
  refine r_callP ((EntCheck_ok (G := G) (⟨0, 0, 0, ⟨#[]⟩, (⟨(⟨0, 0, 0, dz, 0⟩ : Head), 0, dz⟩ : Signed), (⟨0, 0, 0, 0, dz⟩ : Claim)⟩ : Entry)).res (congrArg (Value.int .i64) (show chkE (⟨0, 0, 0, ⟨#[]⟩, (⟨(⟨0, 0, 0, dz, 0⟩ : Head), 0, dz⟩ : Signed), (⟨0, 0, 0, 0, dz⟩ : Claim)⟩ : Entry) = 60 from by kernel_rfl))) (vals := [entV (⟨0, 0, 0, ⟨#[]⟩, (⟨(⟨0, 0, 0, dz, 0⟩ : Head), 0, dz⟩ : Signed), (⟨0, 0, 0, 0, dz⟩ : Claim)⟩ : Entry)]) (res' := .int .i64 60) rfl rfl rfl rfl rfl rfl ?_
  refine r_bin (v := .bool true) (vx := .int .i64 60) (vy := .int .i64 60) rfl rfl rfl rfl (eql_t (by omega)) ?_
  refine r_pick (v := .bool true) rfl rfl rfl ?_
  refine r_assign (v := .bool true) rfl rfl rfl ?_
  refine r_doneN (x_then (c_ret (x_end ?_)))
  exact end_pv (v := .bool true) rfl rfl rfl
theorem EntryKinds_ok (kk : Nat → BitVec 32) (hG : G 1 = some (rowE w32 64 kk)) (x : Entry) (text : ByteArray) (c : Claim) : CallL Tryd.prog G 7 [entV x, .string text, claimV c] [] (.bool true) [] := by
  refine walk (fn := Tryd.f7) (nt := 82) rfl rfl rfl rfl ?_
  refine c_hole 4 (H' := [hole, hole, hole, hole]) rfl ?_
  refine c_seq (c_reg ?_)
  refine r_box (v := entV x) (b := bxB 109 (entC x)) (nid := 0) (H' := [bxB 109 (entC x), hole, hole, hole]) rfl rfl rfl (by kernel_rfl) (by kernel_rfl) ?_
  refine r_box (v := claimV c) (b := bxB 36 (claimC c)) (nid := 1) (H' := [bxB 109 (entC x), bxB 36 (claimC c), hole, hole]) rfl rfl rfl (by kernel_rfl) (by kernel_rfl) ?_
  refine r_assign (v := .bool false) rfl rfl rfl ?_
  refine r_doneN (x_then (c_seq (c_seq (c_reg ?_))))
  refine r_fieldAddr (b := 0) (o := 0) (n := 3) (o' := 3) rfl rfl rfl rfl rfl ?_
  refine r_load (p := pt 0 3) (v := .string x.text) rfl rfl rfl (by kernel_rfl) ?_
  refine r_len (p := .string x.text) (v := .int .i64 (x.text.size : Nat)) rfl rfl rfl rfl ?_
  by_cases h1 : 16384 < (x.text.size : Nat)
  refine r_bin (v := .bool true) (vx := .int .i64 (x.text.size : Nat)) (vy := .int .i64 16384) rfl rfl rfl rfl (gtr_t (by omega)) ?_
  refine r_move (v := .bool true) rfl rfl rfl ?_
  refine r_skip rfl rfl ?_
  refine r_skip rfl rfl ?_
  refine r_skip rfl rfl ?_
  refine r_pick (v := .bool true) rfl rfl rfl ?_
  refine r_move (v := .bool true) rfl rfl rfl ?_
  refine r_skip rfl rfl ?_
  refine r_skip rfl rfl ?_
  refine r_skip rfl rfl ?_
  refine r_pick (v := .bool true) rfl rfl rfl ?_
  refine r_doneN (x_then ?_)
  refine c_true rfl ?_
  refine c_seq (c_reg ?_)
  refine r_callP (items_ok (G := G) kk hG) (vals := []) (res' := .bool true) rfl rfl rfl rfl rfl rfl ?_
  refine r_assign (v := .bool true) rfl rfl rfl ?_
  refine r_doneN (x_then (c_ret (x_thenR (x_end ?_))))
  exact end_pv (v := .bool true) rfl rfl rfl
  refine r_bin (v := .bool false) (vx := .int .i64 (x.text.size : Nat)) (vy := .int .i64 16384) rfl rfl rfl rfl (gtr_f (by omega)) ?_
  refine r_move (v := .bool false) rfl rfl rfl ?_
  refine r_move (v := .string text) rfl rfl rfl ?_
  refine r_len (p := .string text) (v := .int .i64 (text.size : Nat)) rfl rfl rfl rfl ?_
  by_cases h2 : 16384 < (text.size : Nat)
  refine r_bin (v := .bool true) (vx := .int .i64 (text.size : Nat)) (vy := .int .i64 16384) rfl rfl rfl rfl (gtr_t (by omega)) ?_
  refine r_pick (v := .bool true) rfl rfl rfl ?_
  refine r_move (v := .bool true) rfl rfl rfl ?_
  refine r_skip rfl rfl ?_
  refine r_skip rfl rfl ?_
  refine r_skip rfl rfl ?_
  refine r_pick (v := .bool true) rfl rfl rfl ?_
  refine r_doneN (x_then ?_)
  refine c_true rfl ?_
  refine c_seq (c_reg ?_)
  refine r_callP (items_ok (G := G) kk hG) (vals := []) (res' := .bool true) rfl rfl rfl rfl rfl rfl ?_
  refine r_assign (v := .bool true) rfl rfl rfl ?_
  refine r_doneN (x_then (c_ret (x_thenR (x_end ?_))))
  exact end_pv (v := .bool true) rfl rfl rfl
  refine r_bin (v := .bool false) (vx := .int .i64 (text.size : Nat)) (vy := .int .i64 16384) rfl rfl rfl rfl (gtr_f (by omega)) ?_
  refine r_pick (v := .bool false) rfl rfl rfl ?_
  refine r_move (v := .bool false) rfl rfl rfl ?_
  refine r_load (p := pt 0 0) (v := entV x) rfl rfl rfl (by kernel_rfl) ?_
  refine r_callP (EntCheck_ok (G := G) x) (vals := [entV x]) (res' := .int .i64 ((chkE x))) rfl rfl rfl rfl rfl rfl ?_
  by_cases h3 : ((chkE x)) ≠ 0
  refine r_bin (v := .bool true) (vx := .int .i64 ((chkE x))) (vy := .int .i64 0) rfl rfl rfl rfl (neq_t (by omega)) ?_
  refine r_pick (v := .bool true) rfl rfl rfl ?_
  refine r_doneN (x_then ?_)
  refine c_true rfl ?_
  refine c_seq (c_reg ?_)
  refine r_callP (items_ok (G := G) kk hG) (vals := []) (res' := .bool true) rfl rfl rfl rfl rfl rfl ?_
  refine r_assign (v := .bool true) rfl rfl rfl ?_
  refine r_doneN (x_then (c_ret (x_thenR (x_end ?_))))
  exact end_pv (v := .bool true) rfl rfl rfl
  refine r_bin (v := .bool false) (vx := .int .i64 ((chkE x))) (vy := .int .i64 0) rfl rfl rfl rfl (neq_f (by omega)) ?_
  refine r_pick (v := .bool false) rfl rfl rfl ?_
  refine r_doneN (x_then ?_)
  refine c_false rfl ?_
  refine c_skip (x_then (c_seq (c_reg ?_)))
  refine r_load (p := pt 0 0) (v := entV x) rfl rfl rfl (by kernel_rfl) ?_
  refine r_alloc (b := bxB 109 (entC (⟨0, 0, 0, ⟨#[]⟩, (⟨(⟨0, 0, 0, dz, 0⟩ : Head), 0, dz⟩ : Signed), (⟨0, 0, 0, 0, dz⟩ : Claim)⟩ : Entry))) (nid := 2) (H' := [bxB 109 (entC x), bxB 36 (claimC c), bxB 109 (entC (⟨0, 0, 0, ⟨#[]⟩, (⟨(⟨0, 0, 0, dz, 0⟩ : Head), 0, dz⟩ : Signed), (⟨0, 0, 0, 0, dz⟩ : Claim)⟩ : Entry)), hole]) rfl rfl (by kernel_rfl) (by kernel_rfl) ?_
  refine r_store (p := pt 2 0) (v := entV x) (b := 2) (blk := bxB 109 (entC x)) (H' := [bxB 109 (entC x), bxB 36 (claimC c), bxB 109 (entC x), hole]) rfl rfl rfl (by kernel_rfl) (by kernel_rfl) ?_
  refine r_doneN (x_then (c_seq (c_reg ?_)))
  refine r_move (v := .string text) rfl rfl rfl ?_
  refine r_fieldAddr (b := 2) (o := 0) (n := 3) (o' := 3) rfl rfl rfl rfl rfl ?_
  refine r_store (p := pt 2 3) (v := .string text) (b := 2) (blk := bxB 109 (entC (⟨x.kind, x.client, x.seq, text, x.head, x.claim⟩ : Entry))) (H' := [bxB 109 (entC x), bxB 36 (claimC c), bxB 109 (entC (⟨x.kind, x.client, x.seq, text, x.head, x.claim⟩ : Entry)), hole]) rfl rfl rfl (by kernel_rfl) (by kernel_rfl) ?_
  refine r_doneN (x_then (c_seq (c_reg ?_)))
  refine r_load (p := pt 0 0) (v := entV x) rfl rfl rfl (by kernel_rfl) ?_
  refine r_alloc (b := bxB 109 (entC (⟨0, 0, 0, ⟨#[]⟩, (⟨(⟨0, 0, 0, dz, 0⟩ : Head), 0, dz⟩ : Signed), (⟨0, 0, 0, 0, dz⟩ : Claim)⟩ : Entry))) (nid := 3) (H' := [bxB 109 (entC x), bxB 36 (claimC c), bxB 109 (entC (⟨x.kind, x.client, x.seq, text, x.head, x.claim⟩ : Entry)), bxB 109 (entC (⟨0, 0, 0, ⟨#[]⟩, (⟨(⟨0, 0, 0, dz, 0⟩ : Head), 0, dz⟩ : Signed), (⟨0, 0, 0, 0, dz⟩ : Claim)⟩ : Entry))]) rfl rfl (by kernel_rfl) (by kernel_rfl) ?_
  refine r_store (p := pt 3 0) (v := entV x) (b := 3) (blk := bxB 109 (entC x)) (H' := [bxB 109 (entC x), bxB 36 (claimC c), bxB 109 (entC (⟨x.kind, x.client, x.seq, text, x.head, x.claim⟩ : Entry)), bxB 109 (entC x)]) rfl rfl rfl (by kernel_rfl) (by kernel_rfl) ?_
  refine r_doneN (x_then (c_seq (c_reg ?_)))
  refine r_load (p := pt 1 0) (v := claimV c) rfl rfl rfl (by kernel_rfl) ?_
  refine r_fieldAddr (b := 3) (o := 0) (n := 73) (o' := 73) rfl rfl rfl rfl rfl ?_
  refine r_store (p := pt 3 73) (v := claimV c) (b := 3) (blk := bxB 109 (entC (⟨x.kind, x.client, x.seq, x.text, x.head, c⟩ : Entry))) (H' := [bxB 109 (entC x), bxB 36 (claimC c), bxB 109 (entC (⟨x.kind, x.client, x.seq, text, x.head, x.claim⟩ : Entry)), bxB 109 (entC (⟨x.kind, x.client, x.seq, x.text, x.head, c⟩ : Entry))]) rfl rfl rfl (by kernel_rfl) (by kernel_rfl) ?_
  refine r_doneN (x_then (c_seq (c_seq (c_reg ?_))))
  refine r_fieldAddr (b := 0) (o := 0) (n := 0) (o' := 0) rfl rfl rfl rfl rfl ?_
  refine r_load (p := pt 0 0) (v := .int .i64 x.kind) rfl rfl rfl (by kernel_rfl) ?_
  by_cases h4 : x.kind ≠ 1
  refine r_bin (v := .bool true) (vx := .int .i64 x.kind) (vy := .int .i64 1) rfl rfl rfl rfl (neq_t (by omega)) ?_
  refine r_move (v := .bool true) rfl rfl rfl ?_
  refine r_move (v := .string text) rfl rfl rfl ?_
  rcases Bool.eq_false_or_eq_true (sameT text ⟨#[]⟩) with h5 | h5
  · have hzh5 := sameT_nil_t h5
    refine r_bin (v := .bool false) (vx := .string text) (vy := .string ⟨#[]⟩) rfl rfl rfl rfl (Eq.trans (neq_str _ _) (by rw [h5] <;> rfl)) ?_
    refine r_pick (v := .bool false) rfl rfl rfl ?_
    refine r_move (v := .bool false) rfl rfl rfl ?_
    refine r_skip rfl rfl ?_
    refine r_skip rfl rfl ?_
    refine r_skip rfl rfl ?_
    refine r_pick (v := .bool false) rfl rfl rfl ?_
    refine r_doneN (x_then ?_)
    refine c_false rfl ?_
    refine c_skip (x_then (c_seq (c_seq (c_reg ?_))))
    refine r_fieldAddr (b := 0) (o := 0) (n := 0) (o' := 0) rfl rfl rfl rfl rfl ?_
    refine r_load (p := pt 0 0) (v := .int .i64 x.kind) rfl rfl rfl (by kernel_rfl) ?_
    by_cases h6 : x.kind ≠ 3
    refine r_bin (v := .bool true) (vx := .int .i64 x.kind) (vy := .int .i64 3) rfl rfl rfl rfl (neq_t (by omega)) ?_
    refine r_move (v := .bool true) rfl rfl rfl ?_
    refine r_load (p := pt 1 0) (v := claimV c) rfl rfl rfl (by kernel_rfl) ?_
    refine r_build (vs := []) (v := claimV (⟨0, 0, 0, 0, dz⟩ : Claim)) rfl rfl rfl (by kernel_rfl) ?_
    rcases Bool.eq_false_or_eq_true (eqClaim c (⟨0, 0, 0, 0, dz⟩ : Claim)) with h7 | h7
    refine r_bin (v := .bool false) (vx := claimV c) (vy := claimV (⟨0, 0, 0, 0, dz⟩ : Claim)) rfl rfl rfl rfl (Eq.trans (neq_Claim c (⟨0, 0, 0, 0, dz⟩ : Claim)) (by rw [h7] <;> rfl)) ?_
    refine r_pick (v := .bool false) rfl rfl rfl ?_
    refine r_move (v := .bool false) rfl rfl rfl ?_
    refine r_skip rfl rfl ?_
    refine r_skip rfl rfl ?_
    refine r_skip rfl rfl ?_
    refine r_pick (v := .bool false) rfl rfl rfl ?_
    refine r_doneN (x_then ?_)
    refine c_false rfl ?_
    refine c_skip (x_then (c_seq (c_reg ?_)))
    refine r_callP (items_ok (G := G) kk hG) (vals := []) (res' := .bool true) rfl rfl rfl rfl rfl rfl ?_
    refine r_move (v := .bool true) rfl rfl rfl ?_
    refine r_fieldAddr (b := 0) (o := 0) (n := 0) (o' := 0) rfl rfl rfl rfl rfl ?_
    refine r_load (p := pt 0 0) (v := .int .i64 x.kind) rfl rfl rfl (by kernel_rfl) ?_
    refine r_bin (v := .bool false) (vx := .int .i64 x.kind) (vy := .int .i64 1) rfl rfl rfl rfl (eql_f (by omega)) ?_
    refine r_move (v := .bool false) rfl rfl rfl ?_
    refine r_fieldAddr (b := 0) (o := 0) (n := 1) (o' := 1) rfl rfl rfl rfl rfl ?_
    refine r_load (p := pt 0 1) (v := .int .i64 x.client) rfl rfl rfl (by kernel_rfl) ?_
    by_cases h8 : x.client = 0
    refine r_bin (v := .bool true) (vx := .int .i64 x.client) (vy := .int .i64 0) rfl rfl rfl rfl (eql_t (by omega)) ?_
    refine r_move (v := .bool true) rfl rfl rfl ?_
    refine r_fieldAddr (b := 0) (o := 0) (n := 2) (o' := 2) rfl rfl rfl rfl rfl ?_
    refine r_load (p := pt 0 2) (v := .int .i64 x.seq) rfl rfl rfl (by kernel_rfl) ?_
    by_cases h9 : x.seq = 0
    refine r_bin (v := .bool true) (vx := .int .i64 x.seq) (vy := .int .i64 0) rfl rfl rfl rfl (eql_t (by omega)) ?_
    refine r_pick (v := .bool true) rfl rfl rfl ?_
    refine r_pick (v := .bool true) rfl rfl rfl ?_
    refine r_pick (v := .bool true) rfl rfl rfl ?_
    refine r_move (v := .bool true) rfl rfl rfl ?_
    refine r_fieldAddr (b := 0) (o := 0) (n := 0) (o' := 0) rfl rfl rfl rfl rfl ?_
    refine r_load (p := pt 0 0) (v := .int .i64 x.kind) rfl rfl rfl (by kernel_rfl) ?_
    by_cases h10 : x.kind = 2
    refine r_bin (v := .bool true) (vx := .int .i64 x.kind) (vy := .int .i64 2) rfl rfl rfl rfl (eql_t (by omega)) ?_
    refine r_move (v := .bool true) rfl rfl rfl ?_
    refine r_skip rfl rfl ?_
    refine r_skip rfl rfl ?_
    refine r_skip rfl rfl ?_
    refine r_skip rfl rfl ?_
    refine r_pick (v := .bool true) rfl rfl rfl ?_
    refine r_pick (v := .bool true) rfl rfl rfl ?_
    refine r_assign (v := .bool true) rfl rfl rfl ?_
    refine r_doneN (x_then (c_ret (x_end ?_)))
    exact end_pv (v := .bool true) rfl rfl rfl
    refine r_bin (v := .bool false) (vx := .int .i64 x.kind) (vy := .int .i64 2) rfl rfl rfl rfl (eql_f (by omega)) ?_
    refine r_move (v := .bool false) rfl rfl rfl ?_
    refine r_fieldAddr (b := 0) (o := 0) (n := 4) (o' := 4) rfl rfl rfl rfl rfl ?_
    refine r_load (p := pt 0 4) (v := signedV x.head) rfl rfl rfl (by kernel_rfl) ?_
    refine r_build (vs := []) (v := signedV (⟨(⟨0, 0, 0, dz, 0⟩ : Head), 0, dz⟩ : Signed)) rfl rfl rfl (by kernel_rfl) ?_
    rcases Bool.eq_false_or_eq_true (eqSigned x.head (⟨(⟨0, 0, 0, dz, 0⟩ : Head), 0, dz⟩ : Signed)) with h11 | h11
    refine r_bin (v := .bool true) (vx := signedV x.head) (vy := signedV (⟨(⟨0, 0, 0, dz, 0⟩ : Head), 0, dz⟩ : Signed)) rfl rfl rfl rfl (Eq.trans (eql_Signed x.head (⟨(⟨0, 0, 0, dz, 0⟩ : Head), 0, dz⟩ : Signed)) (by rw [h11] <;> rfl)) ?_
    refine r_pick (v := .bool true) rfl rfl rfl ?_
    refine r_pick (v := .bool true) rfl rfl rfl ?_
    refine r_assign (v := .bool true) rfl rfl rfl ?_
    refine r_doneN (x_then (c_ret (x_end ?_)))
    exact end_pv (v := .bool true) rfl rfl rfl
    refine r_bin (v := .bool false) (vx := signedV x.head) (vy := signedV (⟨(⟨0, 0, 0, dz, 0⟩ : Head), 0, dz⟩ : Signed)) rfl rfl rfl rfl (Eq.trans (eql_Signed x.head (⟨(⟨0, 0, 0, dz, 0⟩ : Head), 0, dz⟩ : Signed)) (by rw [h11] <;> rfl)) ?_
    refine r_pick (v := .bool false) rfl rfl rfl ?_
    refine r_pick (v := .bool false) rfl rfl rfl ?_
    refine r_assign (v := .bool false) rfl rfl rfl ?_
    refine r_doneN (x_then (c_ret (x_end ?_)))
    exfalso
    have hr := chkE_pos (e := x) (by omega)
    have hk := right_kind hr
    have k1 := kinds_1 (text := text) hr
    have k2 := kinds_2 (c := c) hr
    have k3 := kinds_3 hr
    · first | omega | (simp_all; done) | (simp_all; omega)
    refine r_bin (v := .bool false) (vx := .int .i64 x.seq) (vy := .int .i64 0) rfl rfl rfl rfl (eql_f (by omega)) ?_
    refine r_pick (v := .bool false) rfl rfl rfl ?_
    refine r_pick (v := .bool false) rfl rfl rfl ?_
    refine r_pick (v := .bool false) rfl rfl rfl ?_
    refine r_move (v := .bool false) rfl rfl rfl ?_
    refine r_skip rfl rfl ?_
    refine r_skip rfl rfl ?_
    refine r_skip rfl rfl ?_
    refine r_skip rfl rfl ?_
    refine r_skip rfl rfl ?_
    refine r_skip rfl rfl ?_
    refine r_skip rfl rfl ?_
    refine r_skip rfl rfl ?_
    refine r_skip rfl rfl ?_
    refine r_pick (v := .bool false) rfl rfl rfl ?_
    refine r_assign (v := .bool false) rfl rfl rfl ?_
    refine r_doneN (x_then (c_ret (x_end ?_)))
    exfalso
    have hr := chkE_pos (e := x) (by omega)
    have hk := right_kind hr
    have k1 := kinds_1 (text := text) hr
    have k2 := kinds_2 (c := c) hr
    have k3 := kinds_3 hr
    · first | omega | (simp_all; done) | (simp_all; omega)
    refine r_bin (v := .bool false) (vx := .int .i64 x.client) (vy := .int .i64 0) rfl rfl rfl rfl (eql_f (by omega)) ?_
    refine r_move (v := .bool false) rfl rfl rfl ?_
    refine r_skip rfl rfl ?_
    refine r_skip rfl rfl ?_
    refine r_skip rfl rfl ?_
    refine r_pick (v := .bool false) rfl rfl rfl ?_
    refine r_pick (v := .bool false) rfl rfl rfl ?_
    refine r_pick (v := .bool false) rfl rfl rfl ?_
    refine r_move (v := .bool false) rfl rfl rfl ?_
    refine r_skip rfl rfl ?_
    refine r_skip rfl rfl ?_
    refine r_skip rfl rfl ?_
    refine r_skip rfl rfl ?_
    refine r_skip rfl rfl ?_
    refine r_skip rfl rfl ?_
    refine r_skip rfl rfl ?_
    refine r_skip rfl rfl ?_
    refine r_skip rfl rfl ?_
    refine r_pick (v := .bool false) rfl rfl rfl ?_
    refine r_assign (v := .bool false) rfl rfl rfl ?_
    refine r_doneN (x_then (c_ret (x_end ?_)))
    exfalso
    have hr := chkE_pos (e := x) (by omega)
    have hk := right_kind hr
    have k1 := kinds_1 (text := text) hr
    have k2 := kinds_2 (c := c) hr
    have k3 := kinds_3 hr
    · first | omega | (simp_all; done) | (simp_all; omega)
    refine r_bin (v := .bool true) (vx := claimV c) (vy := claimV (⟨0, 0, 0, 0, dz⟩ : Claim)) rfl rfl rfl rfl (Eq.trans (neq_Claim c (⟨0, 0, 0, 0, dz⟩ : Claim)) (by rw [h7] <;> rfl)) ?_
    refine r_pick (v := .bool true) rfl rfl rfl ?_
    refine r_move (v := .bool true) rfl rfl rfl ?_
    refine r_load (p := pt 3 0) (v := entV (⟨x.kind, x.client, x.seq, x.text, x.head, c⟩ : Entry)) rfl rfl rfl (by kernel_rfl) ?_
    refine r_callP (EntCheck_ok (G := G) (⟨x.kind, x.client, x.seq, x.text, x.head, c⟩ : Entry)) (vals := [entV (⟨x.kind, x.client, x.seq, x.text, x.head, c⟩ : Entry)]) (res' := .int .i64 ((chkE (⟨x.kind, x.client, x.seq, x.text, x.head, c⟩ : Entry)))) rfl rfl rfl rfl rfl rfl ?_
    by_cases h12 : ((chkE (⟨x.kind, x.client, x.seq, x.text, x.head, c⟩ : Entry))) ≠ 60
    refine r_bin (v := .bool true) (vx := .int .i64 ((chkE (⟨x.kind, x.client, x.seq, x.text, x.head, c⟩ : Entry)))) (vy := .int .i64 60) rfl rfl rfl rfl (neq_t (by omega)) ?_
    refine r_pick (v := .bool true) rfl rfl rfl ?_
    refine r_doneN (x_then ?_)
    refine c_true rfl ?_
    refine c_seq (c_reg ?_)
    refine r_assign (v := .bool false) rfl rfl rfl ?_
    refine r_doneN (x_then (c_ret (x_thenR (x_end ?_))))
    exfalso
    have hr := chkE_pos (e := x) (by omega)
    have hk := right_kind hr
    have k1 := kinds_1 (text := text) hr
    have k2 := kinds_2 (c := c) hr
    have k3 := kinds_3 hr
    · first | omega | (simp_all; done) | (simp_all; omega)
    refine r_bin (v := .bool false) (vx := .int .i64 ((chkE (⟨x.kind, x.client, x.seq, x.text, x.head, c⟩ : Entry)))) (vy := .int .i64 60) rfl rfl rfl rfl (neq_f (by omega)) ?_
    refine r_pick (v := .bool false) rfl rfl rfl ?_
    refine r_doneN (x_then ?_)
    refine c_false rfl ?_
    refine c_skip (x_then (c_seq (c_reg ?_)))
    refine r_callP (items_ok (G := G) kk hG) (vals := []) (res' := .bool true) rfl rfl rfl rfl rfl rfl ?_
    refine r_move (v := .bool true) rfl rfl rfl ?_
    refine r_fieldAddr (b := 0) (o := 0) (n := 0) (o' := 0) rfl rfl rfl rfl rfl ?_
    refine r_load (p := pt 0 0) (v := .int .i64 x.kind) rfl rfl rfl (by kernel_rfl) ?_
    refine r_bin (v := .bool false) (vx := .int .i64 x.kind) (vy := .int .i64 1) rfl rfl rfl rfl (eql_f (by omega)) ?_
    refine r_move (v := .bool false) rfl rfl rfl ?_
    refine r_fieldAddr (b := 0) (o := 0) (n := 1) (o' := 1) rfl rfl rfl rfl rfl ?_
    refine r_load (p := pt 0 1) (v := .int .i64 x.client) rfl rfl rfl (by kernel_rfl) ?_
    by_cases h13 : x.client = 0
    refine r_bin (v := .bool true) (vx := .int .i64 x.client) (vy := .int .i64 0) rfl rfl rfl rfl (eql_t (by omega)) ?_
    refine r_move (v := .bool true) rfl rfl rfl ?_
    refine r_fieldAddr (b := 0) (o := 0) (n := 2) (o' := 2) rfl rfl rfl rfl rfl ?_
    refine r_load (p := pt 0 2) (v := .int .i64 x.seq) rfl rfl rfl (by kernel_rfl) ?_
    by_cases h14 : x.seq = 0
    refine r_bin (v := .bool true) (vx := .int .i64 x.seq) (vy := .int .i64 0) rfl rfl rfl rfl (eql_t (by omega)) ?_
    refine r_pick (v := .bool true) rfl rfl rfl ?_
    refine r_pick (v := .bool true) rfl rfl rfl ?_
    refine r_pick (v := .bool true) rfl rfl rfl ?_
    refine r_move (v := .bool true) rfl rfl rfl ?_
    refine r_fieldAddr (b := 0) (o := 0) (n := 0) (o' := 0) rfl rfl rfl rfl rfl ?_
    refine r_load (p := pt 0 0) (v := .int .i64 x.kind) rfl rfl rfl (by kernel_rfl) ?_
    by_cases h15 : x.kind = 2
    refine r_bin (v := .bool true) (vx := .int .i64 x.kind) (vy := .int .i64 2) rfl rfl rfl rfl (eql_t (by omega)) ?_
    refine r_move (v := .bool true) rfl rfl rfl ?_
    refine r_skip rfl rfl ?_
    refine r_skip rfl rfl ?_
    refine r_skip rfl rfl ?_
    refine r_skip rfl rfl ?_
    refine r_pick (v := .bool true) rfl rfl rfl ?_
    refine r_pick (v := .bool true) rfl rfl rfl ?_
    refine r_assign (v := .bool true) rfl rfl rfl ?_
    refine r_doneN (x_then (c_ret (x_end ?_)))
    exact end_pv (v := .bool true) rfl rfl rfl
    refine r_bin (v := .bool false) (vx := .int .i64 x.kind) (vy := .int .i64 2) rfl rfl rfl rfl (eql_f (by omega)) ?_
    refine r_move (v := .bool false) rfl rfl rfl ?_
    refine r_fieldAddr (b := 0) (o := 0) (n := 4) (o' := 4) rfl rfl rfl rfl rfl ?_
    refine r_load (p := pt 0 4) (v := signedV x.head) rfl rfl rfl (by kernel_rfl) ?_
    refine r_build (vs := []) (v := signedV (⟨(⟨0, 0, 0, dz, 0⟩ : Head), 0, dz⟩ : Signed)) rfl rfl rfl (by kernel_rfl) ?_
    rcases Bool.eq_false_or_eq_true (eqSigned x.head (⟨(⟨0, 0, 0, dz, 0⟩ : Head), 0, dz⟩ : Signed)) with h16 | h16
    refine r_bin (v := .bool true) (vx := signedV x.head) (vy := signedV (⟨(⟨0, 0, 0, dz, 0⟩ : Head), 0, dz⟩ : Signed)) rfl rfl rfl rfl (Eq.trans (eql_Signed x.head (⟨(⟨0, 0, 0, dz, 0⟩ : Head), 0, dz⟩ : Signed)) (by rw [h16] <;> rfl)) ?_
    refine r_pick (v := .bool true) rfl rfl rfl ?_
    refine r_pick (v := .bool true) rfl rfl rfl ?_
    refine r_assign (v := .bool true) rfl rfl rfl ?_
    refine r_doneN (x_then (c_ret (x_end ?_)))
    exact end_pv (v := .bool true) rfl rfl rfl
    refine r_bin (v := .bool false) (vx := signedV x.head) (vy := signedV (⟨(⟨0, 0, 0, dz, 0⟩ : Head), 0, dz⟩ : Signed)) rfl rfl rfl rfl (Eq.trans (eql_Signed x.head (⟨(⟨0, 0, 0, dz, 0⟩ : Head), 0, dz⟩ : Signed)) (by rw [h16] <;> rfl)) ?_
    refine r_pick (v := .bool false) rfl rfl rfl ?_
    refine r_pick (v := .bool false) rfl rfl rfl ?_
    refine r_assign (v := .bool false) rfl rfl rfl ?_
    refine r_doneN (x_then (c_ret (x_end ?_)))
    exfalso
    have hr := chkE_pos (e := x) (by omega)
    have hk := right_kind hr
    have k1 := kinds_1 (text := text) hr
    have k2 := kinds_2 (c := c) hr
    have k3 := kinds_3 hr
    · first | omega | (simp_all; done) | (simp_all; omega)
    refine r_bin (v := .bool false) (vx := .int .i64 x.seq) (vy := .int .i64 0) rfl rfl rfl rfl (eql_f (by omega)) ?_
    refine r_pick (v := .bool false) rfl rfl rfl ?_
    refine r_pick (v := .bool false) rfl rfl rfl ?_
    refine r_pick (v := .bool false) rfl rfl rfl ?_
    refine r_move (v := .bool false) rfl rfl rfl ?_
    refine r_skip rfl rfl ?_
    refine r_skip rfl rfl ?_
    refine r_skip rfl rfl ?_
    refine r_skip rfl rfl ?_
    refine r_skip rfl rfl ?_
    refine r_skip rfl rfl ?_
    refine r_skip rfl rfl ?_
    refine r_skip rfl rfl ?_
    refine r_skip rfl rfl ?_
    refine r_pick (v := .bool false) rfl rfl rfl ?_
    refine r_assign (v := .bool false) rfl rfl rfl ?_
    refine r_doneN (x_then (c_ret (x_end ?_)))
    exfalso
    have hr := chkE_pos (e := x) (by omega)
    have hk := right_kind hr
    have k1 := kinds_1 (text := text) hr
    have k2 := kinds_2 (c := c) hr
    have k3 := kinds_3 hr
    · first | omega | (simp_all; done) | (simp_all; omega)
    refine r_bin (v := .bool false) (vx := .int .i64 x.client) (vy := .int .i64 0) rfl rfl rfl rfl (eql_f (by omega)) ?_
    refine r_move (v := .bool false) rfl rfl rfl ?_
    refine r_skip rfl rfl ?_
    refine r_skip rfl rfl ?_
    refine r_skip rfl rfl ?_
    refine r_pick (v := .bool false) rfl rfl rfl ?_
    refine r_pick (v := .bool false) rfl rfl rfl ?_
    refine r_pick (v := .bool false) rfl rfl rfl ?_
    refine r_move (v := .bool false) rfl rfl rfl ?_
    refine r_skip rfl rfl ?_
    refine r_skip rfl rfl ?_
    refine r_skip rfl rfl ?_
    refine r_skip rfl rfl ?_
    refine r_skip rfl rfl ?_
    refine r_skip rfl rfl ?_
    refine r_skip rfl rfl ?_
    refine r_skip rfl rfl ?_
    refine r_skip rfl rfl ?_
    refine r_pick (v := .bool false) rfl rfl rfl ?_
    refine r_assign (v := .bool false) rfl rfl rfl ?_
    refine r_doneN (x_then (c_ret (x_end ?_)))
    exfalso
    have hr := chkE_pos (e := x) (by omega)
    have hk := right_kind hr
    have k1 := kinds_1 (text := text) hr
    have k2 := kinds_2 (c := c) hr
    have k3 := kinds_3 hr
    · first | omega | (simp_all; done) | (simp_all; omega)
    refine r_bin (v := .bool false) (vx := .int .i64 x.kind) (vy := .int .i64 3) rfl rfl rfl rfl (neq_f (by omega)) ?_
    refine r_move (v := .bool false) rfl rfl rfl ?_
    refine r_skip rfl rfl ?_
    refine r_skip rfl rfl ?_
    refine r_skip rfl rfl ?_
    refine r_pick (v := .bool false) rfl rfl rfl ?_
    refine r_move (v := .bool false) rfl rfl rfl ?_
    refine r_skip rfl rfl ?_
    refine r_skip rfl rfl ?_
    refine r_skip rfl rfl ?_
    refine r_pick (v := .bool false) rfl rfl rfl ?_
    refine r_doneN (x_then ?_)
    refine c_false rfl ?_
    refine c_skip (x_then (c_seq (c_reg ?_)))
    refine r_callP (items_ok (G := G) kk hG) (vals := []) (res' := .bool true) rfl rfl rfl rfl rfl rfl ?_
    refine r_move (v := .bool true) rfl rfl rfl ?_
    refine r_fieldAddr (b := 0) (o := 0) (n := 0) (o' := 0) rfl rfl rfl rfl rfl ?_
    refine r_load (p := pt 0 0) (v := .int .i64 x.kind) rfl rfl rfl (by kernel_rfl) ?_
    refine r_bin (v := .bool false) (vx := .int .i64 x.kind) (vy := .int .i64 1) rfl rfl rfl rfl (eql_f (by omega)) ?_
    refine r_move (v := .bool false) rfl rfl rfl ?_
    refine r_fieldAddr (b := 0) (o := 0) (n := 1) (o' := 1) rfl rfl rfl rfl rfl ?_
    refine r_load (p := pt 0 1) (v := .int .i64 x.client) rfl rfl rfl (by kernel_rfl) ?_
    by_cases h17 : x.client = 0
    refine r_bin (v := .bool true) (vx := .int .i64 x.client) (vy := .int .i64 0) rfl rfl rfl rfl (eql_t (by omega)) ?_
    refine r_move (v := .bool true) rfl rfl rfl ?_
    refine r_fieldAddr (b := 0) (o := 0) (n := 2) (o' := 2) rfl rfl rfl rfl rfl ?_
    refine r_load (p := pt 0 2) (v := .int .i64 x.seq) rfl rfl rfl (by kernel_rfl) ?_
    by_cases h18 : x.seq = 0
    refine r_bin (v := .bool true) (vx := .int .i64 x.seq) (vy := .int .i64 0) rfl rfl rfl rfl (eql_t (by omega)) ?_
    refine r_pick (v := .bool true) rfl rfl rfl ?_
    refine r_pick (v := .bool true) rfl rfl rfl ?_
    refine r_pick (v := .bool true) rfl rfl rfl ?_
    refine r_move (v := .bool true) rfl rfl rfl ?_
    refine r_fieldAddr (b := 0) (o := 0) (n := 0) (o' := 0) rfl rfl rfl rfl rfl ?_
    refine r_load (p := pt 0 0) (v := .int .i64 x.kind) rfl rfl rfl (by kernel_rfl) ?_
    refine r_bin (v := .bool false) (vx := .int .i64 x.kind) (vy := .int .i64 2) rfl rfl rfl rfl (eql_f (by omega)) ?_
    refine r_move (v := .bool false) rfl rfl rfl ?_
    refine r_fieldAddr (b := 0) (o := 0) (n := 4) (o' := 4) rfl rfl rfl rfl rfl ?_
    refine r_load (p := pt 0 4) (v := signedV x.head) rfl rfl rfl (by kernel_rfl) ?_
    refine r_build (vs := []) (v := signedV (⟨(⟨0, 0, 0, dz, 0⟩ : Head), 0, dz⟩ : Signed)) rfl rfl rfl (by kernel_rfl) ?_
    rcases Bool.eq_false_or_eq_true (eqSigned x.head (⟨(⟨0, 0, 0, dz, 0⟩ : Head), 0, dz⟩ : Signed)) with h19 | h19
    refine r_bin (v := .bool true) (vx := signedV x.head) (vy := signedV (⟨(⟨0, 0, 0, dz, 0⟩ : Head), 0, dz⟩ : Signed)) rfl rfl rfl rfl (Eq.trans (eql_Signed x.head (⟨(⟨0, 0, 0, dz, 0⟩ : Head), 0, dz⟩ : Signed)) (by rw [h19] <;> rfl)) ?_
    refine r_pick (v := .bool true) rfl rfl rfl ?_
    refine r_pick (v := .bool true) rfl rfl rfl ?_
    refine r_assign (v := .bool true) rfl rfl rfl ?_
    refine r_doneN (x_then (c_ret (x_end ?_)))
    exact end_pv (v := .bool true) rfl rfl rfl
    refine r_bin (v := .bool false) (vx := signedV x.head) (vy := signedV (⟨(⟨0, 0, 0, dz, 0⟩ : Head), 0, dz⟩ : Signed)) rfl rfl rfl rfl (Eq.trans (eql_Signed x.head (⟨(⟨0, 0, 0, dz, 0⟩ : Head), 0, dz⟩ : Signed)) (by rw [h19] <;> rfl)) ?_
    refine r_pick (v := .bool false) rfl rfl rfl ?_
    refine r_pick (v := .bool false) rfl rfl rfl ?_
    refine r_assign (v := .bool false) rfl rfl rfl ?_
    refine r_doneN (x_then (c_ret (x_end ?_)))
    exfalso
    have hr := chkE_pos (e := x) (by omega)
    have hk := right_kind hr
    have k1 := kinds_1 (text := text) hr
    have k2 := kinds_2 (c := c) hr
    have k3 := kinds_3 hr
    · first | omega | (simp_all; done) | (simp_all; omega)
    refine r_bin (v := .bool false) (vx := .int .i64 x.seq) (vy := .int .i64 0) rfl rfl rfl rfl (eql_f (by omega)) ?_
    refine r_pick (v := .bool false) rfl rfl rfl ?_
    refine r_pick (v := .bool false) rfl rfl rfl ?_
    refine r_pick (v := .bool false) rfl rfl rfl ?_
    refine r_move (v := .bool false) rfl rfl rfl ?_
    refine r_skip rfl rfl ?_
    refine r_skip rfl rfl ?_
    refine r_skip rfl rfl ?_
    refine r_skip rfl rfl ?_
    refine r_skip rfl rfl ?_
    refine r_skip rfl rfl ?_
    refine r_skip rfl rfl ?_
    refine r_skip rfl rfl ?_
    refine r_skip rfl rfl ?_
    refine r_pick (v := .bool false) rfl rfl rfl ?_
    refine r_assign (v := .bool false) rfl rfl rfl ?_
    refine r_doneN (x_then (c_ret (x_end ?_)))
    exfalso
    have hr := chkE_pos (e := x) (by omega)
    have hk := right_kind hr
    have k1 := kinds_1 (text := text) hr
    have k2 := kinds_2 (c := c) hr
    have k3 := kinds_3 hr
    · first | omega | (simp_all; done) | (simp_all; omega)
    refine r_bin (v := .bool false) (vx := .int .i64 x.client) (vy := .int .i64 0) rfl rfl rfl rfl (eql_f (by omega)) ?_
    refine r_move (v := .bool false) rfl rfl rfl ?_
    refine r_skip rfl rfl ?_
    refine r_skip rfl rfl ?_
    refine r_skip rfl rfl ?_
    refine r_pick (v := .bool false) rfl rfl rfl ?_
    refine r_pick (v := .bool false) rfl rfl rfl ?_
    refine r_pick (v := .bool false) rfl rfl rfl ?_
    refine r_move (v := .bool false) rfl rfl rfl ?_
    refine r_skip rfl rfl ?_
    refine r_skip rfl rfl ?_
    refine r_skip rfl rfl ?_
    refine r_skip rfl rfl ?_
    refine r_skip rfl rfl ?_
    refine r_skip rfl rfl ?_
    refine r_skip rfl rfl ?_
    refine r_skip rfl rfl ?_
    refine r_skip rfl rfl ?_
    refine r_pick (v := .bool false) rfl rfl rfl ?_
    refine r_assign (v := .bool false) rfl rfl rfl ?_
    refine r_doneN (x_then (c_ret (x_end ?_)))
    exfalso
    have hr := chkE_pos (e := x) (by omega)
    have hk := right_kind hr
    have k1 := kinds_1 (text := text) hr
    have k2 := kinds_2 (c := c) hr
    have k3 := kinds_3 hr
    · first | omega | (simp_all; done) | (simp_all; omega)
  have hzh5 := sameT_nil_f h5
  refine r_bin (v := .bool true) (vx := .string text) (vy := .string ⟨#[]⟩) rfl rfl rfl rfl (Eq.trans (neq_str _ _) (by rw [h5] <;> rfl)) ?_
  refine r_pick (v := .bool true) rfl rfl rfl ?_
  refine r_move (v := .bool true) rfl rfl rfl ?_
  refine r_load (p := pt 2 0) (v := entV (⟨x.kind, x.client, x.seq, text, x.head, x.claim⟩ : Entry)) rfl rfl rfl (by kernel_rfl) ?_
  refine r_callP (EntCheck_ok (G := G) (⟨x.kind, x.client, x.seq, text, x.head, x.claim⟩ : Entry)) (vals := [entV (⟨x.kind, x.client, x.seq, text, x.head, x.claim⟩ : Entry)]) (res' := .int .i64 ((chkE (⟨x.kind, x.client, x.seq, text, x.head, x.claim⟩ : Entry)))) rfl rfl rfl rfl rfl rfl ?_
  by_cases h20 : ((chkE (⟨x.kind, x.client, x.seq, text, x.head, x.claim⟩ : Entry))) ≠ 60
  refine r_bin (v := .bool true) (vx := .int .i64 ((chkE (⟨x.kind, x.client, x.seq, text, x.head, x.claim⟩ : Entry)))) (vy := .int .i64 60) rfl rfl rfl rfl (neq_t (by omega)) ?_
  refine r_pick (v := .bool true) rfl rfl rfl ?_
  refine r_doneN (x_then ?_)
  refine c_true rfl ?_
  refine c_seq (c_reg ?_)
  refine r_assign (v := .bool false) rfl rfl rfl ?_
  refine r_doneN (x_then (c_ret (x_thenR (x_end ?_))))
  exfalso
  have hr := chkE_pos (e := x) (by omega)
  have hk := right_kind hr
  have k1 := kinds_1 (text := text) hr
  have k2 := kinds_2 (c := c) hr
  have k3 := kinds_3 hr
  · first | omega | (simp_all; done) | (simp_all; omega)
  refine r_bin (v := .bool false) (vx := .int .i64 ((chkE (⟨x.kind, x.client, x.seq, text, x.head, x.claim⟩ : Entry)))) (vy := .int .i64 60) rfl rfl rfl rfl (neq_f (by omega)) ?_
  refine r_pick (v := .bool false) rfl rfl rfl ?_
  refine r_doneN (x_then ?_)
  refine c_false rfl ?_
  refine c_skip (x_then (c_seq (c_seq (c_reg ?_))))
  refine r_fieldAddr (b := 0) (o := 0) (n := 0) (o' := 0) rfl rfl rfl rfl rfl ?_
  refine r_load (p := pt 0 0) (v := .int .i64 x.kind) rfl rfl rfl (by kernel_rfl) ?_
  by_cases h21 : x.kind ≠ 3
  refine r_bin (v := .bool true) (vx := .int .i64 x.kind) (vy := .int .i64 3) rfl rfl rfl rfl (neq_t (by omega)) ?_
  refine r_move (v := .bool true) rfl rfl rfl ?_
  refine r_load (p := pt 1 0) (v := claimV c) rfl rfl rfl (by kernel_rfl) ?_
  refine r_build (vs := []) (v := claimV (⟨0, 0, 0, 0, dz⟩ : Claim)) rfl rfl rfl (by kernel_rfl) ?_
  rcases Bool.eq_false_or_eq_true (eqClaim c (⟨0, 0, 0, 0, dz⟩ : Claim)) with h22 | h22
  refine r_bin (v := .bool false) (vx := claimV c) (vy := claimV (⟨0, 0, 0, 0, dz⟩ : Claim)) rfl rfl rfl rfl (Eq.trans (neq_Claim c (⟨0, 0, 0, 0, dz⟩ : Claim)) (by rw [h22] <;> rfl)) ?_
  refine r_pick (v := .bool false) rfl rfl rfl ?_
  refine r_move (v := .bool false) rfl rfl rfl ?_
  refine r_skip rfl rfl ?_
  refine r_skip rfl rfl ?_
  refine r_skip rfl rfl ?_
  refine r_pick (v := .bool false) rfl rfl rfl ?_
  refine r_doneN (x_then ?_)
  refine c_false rfl ?_
  refine c_skip (x_then (c_seq (c_reg ?_)))
  refine r_callP (items_ok (G := G) kk hG) (vals := []) (res' := .bool true) rfl rfl rfl rfl rfl rfl ?_
  refine r_move (v := .bool true) rfl rfl rfl ?_
  refine r_fieldAddr (b := 0) (o := 0) (n := 0) (o' := 0) rfl rfl rfl rfl rfl ?_
  refine r_load (p := pt 0 0) (v := .int .i64 x.kind) rfl rfl rfl (by kernel_rfl) ?_
  refine r_bin (v := .bool false) (vx := .int .i64 x.kind) (vy := .int .i64 1) rfl rfl rfl rfl (eql_f (by omega)) ?_
  refine r_move (v := .bool false) rfl rfl rfl ?_
  refine r_fieldAddr (b := 0) (o := 0) (n := 1) (o' := 1) rfl rfl rfl rfl rfl ?_
  refine r_load (p := pt 0 1) (v := .int .i64 x.client) rfl rfl rfl (by kernel_rfl) ?_
  by_cases h23 : x.client = 0
  refine r_bin (v := .bool true) (vx := .int .i64 x.client) (vy := .int .i64 0) rfl rfl rfl rfl (eql_t (by omega)) ?_
  refine r_move (v := .bool true) rfl rfl rfl ?_
  refine r_fieldAddr (b := 0) (o := 0) (n := 2) (o' := 2) rfl rfl rfl rfl rfl ?_
  refine r_load (p := pt 0 2) (v := .int .i64 x.seq) rfl rfl rfl (by kernel_rfl) ?_
  by_cases h24 : x.seq = 0
  refine r_bin (v := .bool true) (vx := .int .i64 x.seq) (vy := .int .i64 0) rfl rfl rfl rfl (eql_t (by omega)) ?_
  refine r_pick (v := .bool true) rfl rfl rfl ?_
  refine r_pick (v := .bool true) rfl rfl rfl ?_
  refine r_pick (v := .bool true) rfl rfl rfl ?_
  refine r_move (v := .bool true) rfl rfl rfl ?_
  refine r_fieldAddr (b := 0) (o := 0) (n := 0) (o' := 0) rfl rfl rfl rfl rfl ?_
  refine r_load (p := pt 0 0) (v := .int .i64 x.kind) rfl rfl rfl (by kernel_rfl) ?_
  by_cases h25 : x.kind = 2
  refine r_bin (v := .bool true) (vx := .int .i64 x.kind) (vy := .int .i64 2) rfl rfl rfl rfl (eql_t (by omega)) ?_
  refine r_move (v := .bool true) rfl rfl rfl ?_
  refine r_skip rfl rfl ?_
  refine r_skip rfl rfl ?_
  refine r_skip rfl rfl ?_
  refine r_skip rfl rfl ?_
  refine r_pick (v := .bool true) rfl rfl rfl ?_
  refine r_pick (v := .bool true) rfl rfl rfl ?_
  refine r_assign (v := .bool true) rfl rfl rfl ?_
  refine r_doneN (x_then (c_ret (x_end ?_)))
  exact end_pv (v := .bool true) rfl rfl rfl
  refine r_bin (v := .bool false) (vx := .int .i64 x.kind) (vy := .int .i64 2) rfl rfl rfl rfl (eql_f (by omega)) ?_
  refine r_move (v := .bool false) rfl rfl rfl ?_
  refine r_fieldAddr (b := 0) (o := 0) (n := 4) (o' := 4) rfl rfl rfl rfl rfl ?_
  refine r_load (p := pt 0 4) (v := signedV x.head) rfl rfl rfl (by kernel_rfl) ?_
  refine r_build (vs := []) (v := signedV (⟨(⟨0, 0, 0, dz, 0⟩ : Head), 0, dz⟩ : Signed)) rfl rfl rfl (by kernel_rfl) ?_
  rcases Bool.eq_false_or_eq_true (eqSigned x.head (⟨(⟨0, 0, 0, dz, 0⟩ : Head), 0, dz⟩ : Signed)) with h26 | h26
  refine r_bin (v := .bool true) (vx := signedV x.head) (vy := signedV (⟨(⟨0, 0, 0, dz, 0⟩ : Head), 0, dz⟩ : Signed)) rfl rfl rfl rfl (Eq.trans (eql_Signed x.head (⟨(⟨0, 0, 0, dz, 0⟩ : Head), 0, dz⟩ : Signed)) (by rw [h26] <;> rfl)) ?_
  refine r_pick (v := .bool true) rfl rfl rfl ?_
  refine r_pick (v := .bool true) rfl rfl rfl ?_
  refine r_assign (v := .bool true) rfl rfl rfl ?_
  refine r_doneN (x_then (c_ret (x_end ?_)))
  exact end_pv (v := .bool true) rfl rfl rfl
  refine r_bin (v := .bool false) (vx := signedV x.head) (vy := signedV (⟨(⟨0, 0, 0, dz, 0⟩ : Head), 0, dz⟩ : Signed)) rfl rfl rfl rfl (Eq.trans (eql_Signed x.head (⟨(⟨0, 0, 0, dz, 0⟩ : Head), 0, dz⟩ : Signed)) (by rw [h26] <;> rfl)) ?_
  refine r_pick (v := .bool false) rfl rfl rfl ?_
  refine r_pick (v := .bool false) rfl rfl rfl ?_
  refine r_assign (v := .bool false) rfl rfl rfl ?_
  refine r_doneN (x_then (c_ret (x_end ?_)))
  exfalso
  have hr := chkE_pos (e := x) (by omega)
  have hk := right_kind hr
  have k1 := kinds_1 (text := text) hr
  have k2 := kinds_2 (c := c) hr
  have k3 := kinds_3 hr
  · first | omega | (simp_all; done) | (simp_all; omega)
  refine r_bin (v := .bool false) (vx := .int .i64 x.seq) (vy := .int .i64 0) rfl rfl rfl rfl (eql_f (by omega)) ?_
  refine r_pick (v := .bool false) rfl rfl rfl ?_
  refine r_pick (v := .bool false) rfl rfl rfl ?_
  refine r_pick (v := .bool false) rfl rfl rfl ?_
  refine r_move (v := .bool false) rfl rfl rfl ?_
  refine r_skip rfl rfl ?_
  refine r_skip rfl rfl ?_
  refine r_skip rfl rfl ?_
  refine r_skip rfl rfl ?_
  refine r_skip rfl rfl ?_
  refine r_skip rfl rfl ?_
  refine r_skip rfl rfl ?_
  refine r_skip rfl rfl ?_
  refine r_skip rfl rfl ?_
  refine r_pick (v := .bool false) rfl rfl rfl ?_
  refine r_assign (v := .bool false) rfl rfl rfl ?_
  refine r_doneN (x_then (c_ret (x_end ?_)))
  exfalso
  have hr := chkE_pos (e := x) (by omega)
  have hk := right_kind hr
  have k1 := kinds_1 (text := text) hr
  have k2 := kinds_2 (c := c) hr
  have k3 := kinds_3 hr
  · first | omega | (simp_all; done) | (simp_all; omega)
  refine r_bin (v := .bool false) (vx := .int .i64 x.client) (vy := .int .i64 0) rfl rfl rfl rfl (eql_f (by omega)) ?_
  refine r_move (v := .bool false) rfl rfl rfl ?_
  refine r_skip rfl rfl ?_
  refine r_skip rfl rfl ?_
  refine r_skip rfl rfl ?_
  refine r_pick (v := .bool false) rfl rfl rfl ?_
  refine r_pick (v := .bool false) rfl rfl rfl ?_
  refine r_pick (v := .bool false) rfl rfl rfl ?_
  refine r_move (v := .bool false) rfl rfl rfl ?_
  refine r_skip rfl rfl ?_
  refine r_skip rfl rfl ?_
  refine r_skip rfl rfl ?_
  refine r_skip rfl rfl ?_
  refine r_skip rfl rfl ?_
  refine r_skip rfl rfl ?_
  refine r_skip rfl rfl ?_
  refine r_skip rfl rfl ?_
  refine r_skip rfl rfl ?_
  refine r_pick (v := .bool false) rfl rfl rfl ?_
  refine r_assign (v := .bool false) rfl rfl rfl ?_
  refine r_doneN (x_then (c_ret (x_end ?_)))
  exfalso
  have hr := chkE_pos (e := x) (by omega)
  have hk := right_kind hr
  have k1 := kinds_1 (text := text) hr
  have k2 := kinds_2 (c := c) hr
  have k3 := kinds_3 hr
  · first | omega | (simp_all; done) | (simp_all; omega)
  refine r_bin (v := .bool true) (vx := claimV c) (vy := claimV (⟨0, 0, 0, 0, dz⟩ : Claim)) rfl rfl rfl rfl (Eq.trans (neq_Claim c (⟨0, 0, 0, 0, dz⟩ : Claim)) (by rw [h22] <;> rfl)) ?_
  refine r_pick (v := .bool true) rfl rfl rfl ?_
  refine r_move (v := .bool true) rfl rfl rfl ?_
  refine r_load (p := pt 3 0) (v := entV (⟨x.kind, x.client, x.seq, x.text, x.head, c⟩ : Entry)) rfl rfl rfl (by kernel_rfl) ?_
  refine r_callP (EntCheck_ok (G := G) (⟨x.kind, x.client, x.seq, x.text, x.head, c⟩ : Entry)) (vals := [entV (⟨x.kind, x.client, x.seq, x.text, x.head, c⟩ : Entry)]) (res' := .int .i64 ((chkE (⟨x.kind, x.client, x.seq, x.text, x.head, c⟩ : Entry)))) rfl rfl rfl rfl rfl rfl ?_
  by_cases h27 : ((chkE (⟨x.kind, x.client, x.seq, x.text, x.head, c⟩ : Entry))) ≠ 60
  refine r_bin (v := .bool true) (vx := .int .i64 ((chkE (⟨x.kind, x.client, x.seq, x.text, x.head, c⟩ : Entry)))) (vy := .int .i64 60) rfl rfl rfl rfl (neq_t (by omega)) ?_
  refine r_pick (v := .bool true) rfl rfl rfl ?_
  refine r_doneN (x_then ?_)
  refine c_true rfl ?_
  refine c_seq (c_reg ?_)
  refine r_assign (v := .bool false) rfl rfl rfl ?_
  refine r_doneN (x_then (c_ret (x_thenR (x_end ?_))))
  exfalso
  have hr := chkE_pos (e := x) (by omega)
  have hk := right_kind hr
  have k1 := kinds_1 (text := text) hr
  have k2 := kinds_2 (c := c) hr
  have k3 := kinds_3 hr
  · first | omega | (simp_all; done) | (simp_all; omega)
  refine r_bin (v := .bool false) (vx := .int .i64 ((chkE (⟨x.kind, x.client, x.seq, x.text, x.head, c⟩ : Entry)))) (vy := .int .i64 60) rfl rfl rfl rfl (neq_f (by omega)) ?_
  refine r_pick (v := .bool false) rfl rfl rfl ?_
  refine r_doneN (x_then ?_)
  refine c_false rfl ?_
  refine c_skip (x_then (c_seq (c_reg ?_)))
  refine r_callP (items_ok (G := G) kk hG) (vals := []) (res' := .bool true) rfl rfl rfl rfl rfl rfl ?_
  refine r_move (v := .bool true) rfl rfl rfl ?_
  refine r_fieldAddr (b := 0) (o := 0) (n := 0) (o' := 0) rfl rfl rfl rfl rfl ?_
  refine r_load (p := pt 0 0) (v := .int .i64 x.kind) rfl rfl rfl (by kernel_rfl) ?_
  refine r_bin (v := .bool false) (vx := .int .i64 x.kind) (vy := .int .i64 1) rfl rfl rfl rfl (eql_f (by omega)) ?_
  refine r_move (v := .bool false) rfl rfl rfl ?_
  refine r_fieldAddr (b := 0) (o := 0) (n := 1) (o' := 1) rfl rfl rfl rfl rfl ?_
  refine r_load (p := pt 0 1) (v := .int .i64 x.client) rfl rfl rfl (by kernel_rfl) ?_
  by_cases h28 : x.client = 0
  refine r_bin (v := .bool true) (vx := .int .i64 x.client) (vy := .int .i64 0) rfl rfl rfl rfl (eql_t (by omega)) ?_
  refine r_move (v := .bool true) rfl rfl rfl ?_
  refine r_fieldAddr (b := 0) (o := 0) (n := 2) (o' := 2) rfl rfl rfl rfl rfl ?_
  refine r_load (p := pt 0 2) (v := .int .i64 x.seq) rfl rfl rfl (by kernel_rfl) ?_
  by_cases h29 : x.seq = 0
  refine r_bin (v := .bool true) (vx := .int .i64 x.seq) (vy := .int .i64 0) rfl rfl rfl rfl (eql_t (by omega)) ?_
  refine r_pick (v := .bool true) rfl rfl rfl ?_
  refine r_pick (v := .bool true) rfl rfl rfl ?_
  refine r_pick (v := .bool true) rfl rfl rfl ?_
  refine r_move (v := .bool true) rfl rfl rfl ?_
  refine r_fieldAddr (b := 0) (o := 0) (n := 0) (o' := 0) rfl rfl rfl rfl rfl ?_
  refine r_load (p := pt 0 0) (v := .int .i64 x.kind) rfl rfl rfl (by kernel_rfl) ?_
  by_cases h30 : x.kind = 2
  refine r_bin (v := .bool true) (vx := .int .i64 x.kind) (vy := .int .i64 2) rfl rfl rfl rfl (eql_t (by omega)) ?_
  refine r_move (v := .bool true) rfl rfl rfl ?_
  refine r_skip rfl rfl ?_
  refine r_skip rfl rfl ?_
  refine r_skip rfl rfl ?_
  refine r_skip rfl rfl ?_
  refine r_pick (v := .bool true) rfl rfl rfl ?_
  refine r_pick (v := .bool true) rfl rfl rfl ?_
  refine r_assign (v := .bool true) rfl rfl rfl ?_
  refine r_doneN (x_then (c_ret (x_end ?_)))
  exact end_pv (v := .bool true) rfl rfl rfl
  refine r_bin (v := .bool false) (vx := .int .i64 x.kind) (vy := .int .i64 2) rfl rfl rfl rfl (eql_f (by omega)) ?_
  refine r_move (v := .bool false) rfl rfl rfl ?_
  refine r_fieldAddr (b := 0) (o := 0) (n := 4) (o' := 4) rfl rfl rfl rfl rfl ?_
  refine r_load (p := pt 0 4) (v := signedV x.head) rfl rfl rfl (by kernel_rfl) ?_
  refine r_build (vs := []) (v := signedV (⟨(⟨0, 0, 0, dz, 0⟩ : Head), 0, dz⟩ : Signed)) rfl rfl rfl (by kernel_rfl) ?_
  rcases Bool.eq_false_or_eq_true (eqSigned x.head (⟨(⟨0, 0, 0, dz, 0⟩ : Head), 0, dz⟩ : Signed)) with h31 | h31
  refine r_bin (v := .bool true) (vx := signedV x.head) (vy := signedV (⟨(⟨0, 0, 0, dz, 0⟩ : Head), 0, dz⟩ : Signed)) rfl rfl rfl rfl (Eq.trans (eql_Signed x.head (⟨(⟨0, 0, 0, dz, 0⟩ : Head), 0, dz⟩ : Signed)) (by rw [h31] <;> rfl)) ?_
  refine r_pick (v := .bool true) rfl rfl rfl ?_
  refine r_pick (v := .bool true) rfl rfl rfl ?_
  refine r_assign (v := .bool true) rfl rfl rfl ?_
  refine r_doneN (x_then (c_ret (x_end ?_)))
  exact end_pv (v := .bool true) rfl rfl rfl
  refine r_bin (v := .bool false) (vx := signedV x.head) (vy := signedV (⟨(⟨0, 0, 0, dz, 0⟩ : Head), 0, dz⟩ : Signed)) rfl rfl rfl rfl (Eq.trans (eql_Signed x.head (⟨(⟨0, 0, 0, dz, 0⟩ : Head), 0, dz⟩ : Signed)) (by rw [h31] <;> rfl)) ?_
  refine r_pick (v := .bool false) rfl rfl rfl ?_
  refine r_pick (v := .bool false) rfl rfl rfl ?_
  refine r_assign (v := .bool false) rfl rfl rfl ?_
  refine r_doneN (x_then (c_ret (x_end ?_)))
  exfalso
  have hr := chkE_pos (e := x) (by omega)
  have hk := right_kind hr
  have k1 := kinds_1 (text := text) hr
  have k2 := kinds_2 (c := c) hr
  have k3 := kinds_3 hr
  · first | omega | (simp_all; done) | (simp_all; omega)
  refine r_bin (v := .bool false) (vx := .int .i64 x.seq) (vy := .int .i64 0) rfl rfl rfl rfl (eql_f (by omega)) ?_
  refine r_pick (v := .bool false) rfl rfl rfl ?_
  refine r_pick (v := .bool false) rfl rfl rfl ?_
  refine r_pick (v := .bool false) rfl rfl rfl ?_
  refine r_move (v := .bool false) rfl rfl rfl ?_
  refine r_skip rfl rfl ?_
  refine r_skip rfl rfl ?_
  refine r_skip rfl rfl ?_
  refine r_skip rfl rfl ?_
  refine r_skip rfl rfl ?_
  refine r_skip rfl rfl ?_
  refine r_skip rfl rfl ?_
  refine r_skip rfl rfl ?_
  refine r_skip rfl rfl ?_
  refine r_pick (v := .bool false) rfl rfl rfl ?_
  refine r_assign (v := .bool false) rfl rfl rfl ?_
  refine r_doneN (x_then (c_ret (x_end ?_)))
  exfalso
  have hr := chkE_pos (e := x) (by omega)
  have hk := right_kind hr
  have k1 := kinds_1 (text := text) hr
  have k2 := kinds_2 (c := c) hr
  have k3 := kinds_3 hr
  · first | omega | (simp_all; done) | (simp_all; omega)
  refine r_bin (v := .bool false) (vx := .int .i64 x.client) (vy := .int .i64 0) rfl rfl rfl rfl (eql_f (by omega)) ?_
  refine r_move (v := .bool false) rfl rfl rfl ?_
  refine r_skip rfl rfl ?_
  refine r_skip rfl rfl ?_
  refine r_skip rfl rfl ?_
  refine r_pick (v := .bool false) rfl rfl rfl ?_
  refine r_pick (v := .bool false) rfl rfl rfl ?_
  refine r_pick (v := .bool false) rfl rfl rfl ?_
  refine r_move (v := .bool false) rfl rfl rfl ?_
  refine r_skip rfl rfl ?_
  refine r_skip rfl rfl ?_
  refine r_skip rfl rfl ?_
  refine r_skip rfl rfl ?_
  refine r_skip rfl rfl ?_
  refine r_skip rfl rfl ?_
  refine r_skip rfl rfl ?_
  refine r_skip rfl rfl ?_
  refine r_skip rfl rfl ?_
  refine r_pick (v := .bool false) rfl rfl rfl ?_
  refine r_assign (v := .bool false) rfl rfl rfl ?_
  refine r_doneN (x_then (c_ret (x_end ?_)))
  exfalso
  have hr := chkE_pos (e := x) (by omega)
  have hk := right_kind hr
  have k1 := kinds_1 (text := text) hr
  have k2 := kinds_2 (c := c) hr
  have k3 := kinds_3 hr
  · first | omega | (simp_all; done) | (simp_all; omega)
  refine r_bin (v := .bool false) (vx := .int .i64 x.kind) (vy := .int .i64 3) rfl rfl rfl rfl (neq_f (by omega)) ?_
  refine r_move (v := .bool false) rfl rfl rfl ?_
  refine r_skip rfl rfl ?_
  refine r_skip rfl rfl ?_
  refine r_skip rfl rfl ?_
  refine r_pick (v := .bool false) rfl rfl rfl ?_
  refine r_move (v := .bool false) rfl rfl rfl ?_
  refine r_skip rfl rfl ?_
  refine r_skip rfl rfl ?_
  refine r_skip rfl rfl ?_
  refine r_pick (v := .bool false) rfl rfl rfl ?_
  refine r_doneN (x_then ?_)
  refine c_false rfl ?_
  refine c_skip (x_then (c_seq (c_reg ?_)))
  refine r_callP (items_ok (G := G) kk hG) (vals := []) (res' := .bool true) rfl rfl rfl rfl rfl rfl ?_
  refine r_move (v := .bool true) rfl rfl rfl ?_
  refine r_fieldAddr (b := 0) (o := 0) (n := 0) (o' := 0) rfl rfl rfl rfl rfl ?_
  refine r_load (p := pt 0 0) (v := .int .i64 x.kind) rfl rfl rfl (by kernel_rfl) ?_
  refine r_bin (v := .bool false) (vx := .int .i64 x.kind) (vy := .int .i64 1) rfl rfl rfl rfl (eql_f (by omega)) ?_
  refine r_move (v := .bool false) rfl rfl rfl ?_
  refine r_fieldAddr (b := 0) (o := 0) (n := 1) (o' := 1) rfl rfl rfl rfl rfl ?_
  refine r_load (p := pt 0 1) (v := .int .i64 x.client) rfl rfl rfl (by kernel_rfl) ?_
  by_cases h32 : x.client = 0
  refine r_bin (v := .bool true) (vx := .int .i64 x.client) (vy := .int .i64 0) rfl rfl rfl rfl (eql_t (by omega)) ?_
  refine r_move (v := .bool true) rfl rfl rfl ?_
  refine r_fieldAddr (b := 0) (o := 0) (n := 2) (o' := 2) rfl rfl rfl rfl rfl ?_
  refine r_load (p := pt 0 2) (v := .int .i64 x.seq) rfl rfl rfl (by kernel_rfl) ?_
  by_cases h33 : x.seq = 0
  refine r_bin (v := .bool true) (vx := .int .i64 x.seq) (vy := .int .i64 0) rfl rfl rfl rfl (eql_t (by omega)) ?_
  refine r_pick (v := .bool true) rfl rfl rfl ?_
  refine r_pick (v := .bool true) rfl rfl rfl ?_
  refine r_pick (v := .bool true) rfl rfl rfl ?_
  refine r_move (v := .bool true) rfl rfl rfl ?_
  refine r_fieldAddr (b := 0) (o := 0) (n := 0) (o' := 0) rfl rfl rfl rfl rfl ?_
  refine r_load (p := pt 0 0) (v := .int .i64 x.kind) rfl rfl rfl (by kernel_rfl) ?_
  refine r_bin (v := .bool false) (vx := .int .i64 x.kind) (vy := .int .i64 2) rfl rfl rfl rfl (eql_f (by omega)) ?_
  refine r_move (v := .bool false) rfl rfl rfl ?_
  refine r_fieldAddr (b := 0) (o := 0) (n := 4) (o' := 4) rfl rfl rfl rfl rfl ?_
  refine r_load (p := pt 0 4) (v := signedV x.head) rfl rfl rfl (by kernel_rfl) ?_
  refine r_build (vs := []) (v := signedV (⟨(⟨0, 0, 0, dz, 0⟩ : Head), 0, dz⟩ : Signed)) rfl rfl rfl (by kernel_rfl) ?_
  rcases Bool.eq_false_or_eq_true (eqSigned x.head (⟨(⟨0, 0, 0, dz, 0⟩ : Head), 0, dz⟩ : Signed)) with h34 | h34
  refine r_bin (v := .bool true) (vx := signedV x.head) (vy := signedV (⟨(⟨0, 0, 0, dz, 0⟩ : Head), 0, dz⟩ : Signed)) rfl rfl rfl rfl (Eq.trans (eql_Signed x.head (⟨(⟨0, 0, 0, dz, 0⟩ : Head), 0, dz⟩ : Signed)) (by rw [h34] <;> rfl)) ?_
  refine r_pick (v := .bool true) rfl rfl rfl ?_
  refine r_pick (v := .bool true) rfl rfl rfl ?_
  refine r_assign (v := .bool true) rfl rfl rfl ?_
  refine r_doneN (x_then (c_ret (x_end ?_)))
  exact end_pv (v := .bool true) rfl rfl rfl
  refine r_bin (v := .bool false) (vx := signedV x.head) (vy := signedV (⟨(⟨0, 0, 0, dz, 0⟩ : Head), 0, dz⟩ : Signed)) rfl rfl rfl rfl (Eq.trans (eql_Signed x.head (⟨(⟨0, 0, 0, dz, 0⟩ : Head), 0, dz⟩ : Signed)) (by rw [h34] <;> rfl)) ?_
  refine r_pick (v := .bool false) rfl rfl rfl ?_
  refine r_pick (v := .bool false) rfl rfl rfl ?_
  refine r_assign (v := .bool false) rfl rfl rfl ?_
  refine r_doneN (x_then (c_ret (x_end ?_)))
  exfalso
  have hr := chkE_pos (e := x) (by omega)
  have hk := right_kind hr
  have k1 := kinds_1 (text := text) hr
  have k2 := kinds_2 (c := c) hr
  have k3 := kinds_3 hr
  · first | omega | (simp_all; done) | (simp_all; omega)
  refine r_bin (v := .bool false) (vx := .int .i64 x.seq) (vy := .int .i64 0) rfl rfl rfl rfl (eql_f (by omega)) ?_
  refine r_pick (v := .bool false) rfl rfl rfl ?_
  refine r_pick (v := .bool false) rfl rfl rfl ?_
  refine r_pick (v := .bool false) rfl rfl rfl ?_
  refine r_move (v := .bool false) rfl rfl rfl ?_
  refine r_skip rfl rfl ?_
  refine r_skip rfl rfl ?_
  refine r_skip rfl rfl ?_
  refine r_skip rfl rfl ?_
  refine r_skip rfl rfl ?_
  refine r_skip rfl rfl ?_
  refine r_skip rfl rfl ?_
  refine r_skip rfl rfl ?_
  refine r_skip rfl rfl ?_
  refine r_pick (v := .bool false) rfl rfl rfl ?_
  refine r_assign (v := .bool false) rfl rfl rfl ?_
  refine r_doneN (x_then (c_ret (x_end ?_)))
  exfalso
  have hr := chkE_pos (e := x) (by omega)
  have hk := right_kind hr
  have k1 := kinds_1 (text := text) hr
  have k2 := kinds_2 (c := c) hr
  have k3 := kinds_3 hr
  · first | omega | (simp_all; done) | (simp_all; omega)
  refine r_bin (v := .bool false) (vx := .int .i64 x.client) (vy := .int .i64 0) rfl rfl rfl rfl (eql_f (by omega)) ?_
  refine r_move (v := .bool false) rfl rfl rfl ?_
  refine r_skip rfl rfl ?_
  refine r_skip rfl rfl ?_
  refine r_skip rfl rfl ?_
  refine r_pick (v := .bool false) rfl rfl rfl ?_
  refine r_pick (v := .bool false) rfl rfl rfl ?_
  refine r_pick (v := .bool false) rfl rfl rfl ?_
  refine r_move (v := .bool false) rfl rfl rfl ?_
  refine r_skip rfl rfl ?_
  refine r_skip rfl rfl ?_
  refine r_skip rfl rfl ?_
  refine r_skip rfl rfl ?_
  refine r_skip rfl rfl ?_
  refine r_skip rfl rfl ?_
  refine r_skip rfl rfl ?_
  refine r_skip rfl rfl ?_
  refine r_skip rfl rfl ?_
  refine r_pick (v := .bool false) rfl rfl rfl ?_
  refine r_assign (v := .bool false) rfl rfl rfl ?_
  refine r_doneN (x_then (c_ret (x_end ?_)))
  exfalso
  have hr := chkE_pos (e := x) (by omega)
  have hk := right_kind hr
  have k1 := kinds_1 (text := text) hr
  have k2 := kinds_2 (c := c) hr
  have k3 := kinds_3 hr
  · first | omega | (simp_all; done) | (simp_all; omega)
  refine r_bin (v := .bool false) (vx := .int .i64 x.kind) (vy := .int .i64 1) rfl rfl rfl rfl (neq_f (by omega)) ?_
  refine r_move (v := .bool false) rfl rfl rfl ?_
  refine r_skip rfl rfl ?_
  refine r_skip rfl rfl ?_
  refine r_pick (v := .bool false) rfl rfl rfl ?_
  refine r_move (v := .bool false) rfl rfl rfl ?_
  refine r_skip rfl rfl ?_
  refine r_skip rfl rfl ?_
  refine r_skip rfl rfl ?_
  refine r_pick (v := .bool false) rfl rfl rfl ?_
  refine r_doneN (x_then ?_)
  refine c_false rfl ?_
  refine c_skip (x_then (c_seq (c_seq (c_reg ?_))))
  refine r_fieldAddr (b := 0) (o := 0) (n := 0) (o' := 0) rfl rfl rfl rfl rfl ?_
  refine r_load (p := pt 0 0) (v := .int .i64 x.kind) rfl rfl rfl (by kernel_rfl) ?_
  refine r_bin (v := .bool true) (vx := .int .i64 x.kind) (vy := .int .i64 3) rfl rfl rfl rfl (neq_t (by omega)) ?_
  refine r_move (v := .bool true) rfl rfl rfl ?_
  refine r_load (p := pt 1 0) (v := claimV c) rfl rfl rfl (by kernel_rfl) ?_
  refine r_build (vs := []) (v := claimV (⟨0, 0, 0, 0, dz⟩ : Claim)) rfl rfl rfl (by kernel_rfl) ?_
  rcases Bool.eq_false_or_eq_true (eqClaim c (⟨0, 0, 0, 0, dz⟩ : Claim)) with h35 | h35
  refine r_bin (v := .bool false) (vx := claimV c) (vy := claimV (⟨0, 0, 0, 0, dz⟩ : Claim)) rfl rfl rfl rfl (Eq.trans (neq_Claim c (⟨0, 0, 0, 0, dz⟩ : Claim)) (by rw [h35] <;> rfl)) ?_
  refine r_pick (v := .bool false) rfl rfl rfl ?_
  refine r_move (v := .bool false) rfl rfl rfl ?_
  refine r_skip rfl rfl ?_
  refine r_skip rfl rfl ?_
  refine r_skip rfl rfl ?_
  refine r_pick (v := .bool false) rfl rfl rfl ?_
  refine r_doneN (x_then ?_)
  refine c_false rfl ?_
  refine c_skip (x_then (c_seq (c_reg ?_)))
  refine r_callP (items_ok (G := G) kk hG) (vals := []) (res' := .bool true) rfl rfl rfl rfl rfl rfl ?_
  refine r_move (v := .bool true) rfl rfl rfl ?_
  refine r_fieldAddr (b := 0) (o := 0) (n := 0) (o' := 0) rfl rfl rfl rfl rfl ?_
  refine r_load (p := pt 0 0) (v := .int .i64 x.kind) rfl rfl rfl (by kernel_rfl) ?_
  refine r_bin (v := .bool true) (vx := .int .i64 x.kind) (vy := .int .i64 1) rfl rfl rfl rfl (eql_t (by omega)) ?_
  refine r_move (v := .bool true) rfl rfl rfl ?_
  refine r_skip rfl rfl ?_
  refine r_skip rfl rfl ?_
  refine r_skip rfl rfl ?_
  refine r_skip rfl rfl ?_
  refine r_skip rfl rfl ?_
  refine r_skip rfl rfl ?_
  refine r_skip rfl rfl ?_
  refine r_skip rfl rfl ?_
  refine r_pick (v := .bool true) rfl rfl rfl ?_
  refine r_pick (v := .bool true) rfl rfl rfl ?_
  refine r_move (v := .bool true) rfl rfl rfl ?_
  refine r_fieldAddr (b := 0) (o := 0) (n := 0) (o' := 0) rfl rfl rfl rfl rfl ?_
  refine r_load (p := pt 0 0) (v := .int .i64 x.kind) rfl rfl rfl (by kernel_rfl) ?_
  refine r_bin (v := .bool false) (vx := .int .i64 x.kind) (vy := .int .i64 2) rfl rfl rfl rfl (eql_f (by omega)) ?_
  refine r_move (v := .bool false) rfl rfl rfl ?_
  refine r_fieldAddr (b := 0) (o := 0) (n := 4) (o' := 4) rfl rfl rfl rfl rfl ?_
  refine r_load (p := pt 0 4) (v := signedV x.head) rfl rfl rfl (by kernel_rfl) ?_
  refine r_build (vs := []) (v := signedV (⟨(⟨0, 0, 0, dz, 0⟩ : Head), 0, dz⟩ : Signed)) rfl rfl rfl (by kernel_rfl) ?_
  rcases Bool.eq_false_or_eq_true (eqSigned x.head (⟨(⟨0, 0, 0, dz, 0⟩ : Head), 0, dz⟩ : Signed)) with h36 | h36
  refine r_bin (v := .bool true) (vx := signedV x.head) (vy := signedV (⟨(⟨0, 0, 0, dz, 0⟩ : Head), 0, dz⟩ : Signed)) rfl rfl rfl rfl (Eq.trans (eql_Signed x.head (⟨(⟨0, 0, 0, dz, 0⟩ : Head), 0, dz⟩ : Signed)) (by rw [h36] <;> rfl)) ?_
  refine r_pick (v := .bool true) rfl rfl rfl ?_
  refine r_pick (v := .bool true) rfl rfl rfl ?_
  refine r_assign (v := .bool true) rfl rfl rfl ?_
  refine r_doneN (x_then (c_ret (x_end ?_)))
  exact end_pv (v := .bool true) rfl rfl rfl
  refine r_bin (v := .bool false) (vx := signedV x.head) (vy := signedV (⟨(⟨0, 0, 0, dz, 0⟩ : Head), 0, dz⟩ : Signed)) rfl rfl rfl rfl (Eq.trans (eql_Signed x.head (⟨(⟨0, 0, 0, dz, 0⟩ : Head), 0, dz⟩ : Signed)) (by rw [h36] <;> rfl)) ?_
  refine r_pick (v := .bool false) rfl rfl rfl ?_
  refine r_pick (v := .bool false) rfl rfl rfl ?_
  refine r_assign (v := .bool false) rfl rfl rfl ?_
  refine r_doneN (x_then (c_ret (x_end ?_)))
  exfalso
  have hr := chkE_pos (e := x) (by omega)
  have hk := right_kind hr
  have k1 := kinds_1 (text := text) hr
  have k2 := kinds_2 (c := c) hr
  have k3 := kinds_3 hr
  · first | omega | (simp_all; done) | (simp_all; omega)
  refine r_bin (v := .bool true) (vx := claimV c) (vy := claimV (⟨0, 0, 0, 0, dz⟩ : Claim)) rfl rfl rfl rfl (Eq.trans (neq_Claim c (⟨0, 0, 0, 0, dz⟩ : Claim)) (by rw [h35] <;> rfl)) ?_
  refine r_pick (v := .bool true) rfl rfl rfl ?_
  refine r_move (v := .bool true) rfl rfl rfl ?_
  refine r_load (p := pt 3 0) (v := entV (⟨x.kind, x.client, x.seq, x.text, x.head, c⟩ : Entry)) rfl rfl rfl (by kernel_rfl) ?_
  refine r_callP (EntCheck_ok (G := G) (⟨x.kind, x.client, x.seq, x.text, x.head, c⟩ : Entry)) (vals := [entV (⟨x.kind, x.client, x.seq, x.text, x.head, c⟩ : Entry)]) (res' := .int .i64 ((chkE (⟨x.kind, x.client, x.seq, x.text, x.head, c⟩ : Entry)))) rfl rfl rfl rfl rfl rfl ?_
  by_cases h37 : ((chkE (⟨x.kind, x.client, x.seq, x.text, x.head, c⟩ : Entry))) ≠ 60
  refine r_bin (v := .bool true) (vx := .int .i64 ((chkE (⟨x.kind, x.client, x.seq, x.text, x.head, c⟩ : Entry)))) (vy := .int .i64 60) rfl rfl rfl rfl (neq_t (by omega)) ?_
  refine r_pick (v := .bool true) rfl rfl rfl ?_
  refine r_doneN (x_then ?_)
  refine c_true rfl ?_
  refine c_seq (c_reg ?_)
  refine r_assign (v := .bool false) rfl rfl rfl ?_
  refine r_doneN (x_then (c_ret (x_thenR (x_end ?_))))
  exfalso
  have hr := chkE_pos (e := x) (by omega)
  have hk := right_kind hr
  have k1 := kinds_1 (text := text) hr
  have k2 := kinds_2 (c := c) hr
  have k3 := kinds_3 hr
  · first | omega | (simp_all; done) | (simp_all; omega)
  refine r_bin (v := .bool false) (vx := .int .i64 ((chkE (⟨x.kind, x.client, x.seq, x.text, x.head, c⟩ : Entry)))) (vy := .int .i64 60) rfl rfl rfl rfl (neq_f (by omega)) ?_
  refine r_pick (v := .bool false) rfl rfl rfl ?_
  refine r_doneN (x_then ?_)
  refine c_false rfl ?_
  refine c_skip (x_then (c_seq (c_reg ?_)))
  refine r_callP (items_ok (G := G) kk hG) (vals := []) (res' := .bool true) rfl rfl rfl rfl rfl rfl ?_
  refine r_move (v := .bool true) rfl rfl rfl ?_
  refine r_fieldAddr (b := 0) (o := 0) (n := 0) (o' := 0) rfl rfl rfl rfl rfl ?_
  refine r_load (p := pt 0 0) (v := .int .i64 x.kind) rfl rfl rfl (by kernel_rfl) ?_
  refine r_bin (v := .bool true) (vx := .int .i64 x.kind) (vy := .int .i64 1) rfl rfl rfl rfl (eql_t (by omega)) ?_
  refine r_move (v := .bool true) rfl rfl rfl ?_
  refine r_skip rfl rfl ?_
  refine r_skip rfl rfl ?_
  refine r_skip rfl rfl ?_
  refine r_skip rfl rfl ?_
  refine r_skip rfl rfl ?_
  refine r_skip rfl rfl ?_
  refine r_skip rfl rfl ?_
  refine r_skip rfl rfl ?_
  refine r_pick (v := .bool true) rfl rfl rfl ?_
  refine r_pick (v := .bool true) rfl rfl rfl ?_
  refine r_move (v := .bool true) rfl rfl rfl ?_
  refine r_fieldAddr (b := 0) (o := 0) (n := 0) (o' := 0) rfl rfl rfl rfl rfl ?_
  refine r_load (p := pt 0 0) (v := .int .i64 x.kind) rfl rfl rfl (by kernel_rfl) ?_
  refine r_bin (v := .bool false) (vx := .int .i64 x.kind) (vy := .int .i64 2) rfl rfl rfl rfl (eql_f (by omega)) ?_
  refine r_move (v := .bool false) rfl rfl rfl ?_
  refine r_fieldAddr (b := 0) (o := 0) (n := 4) (o' := 4) rfl rfl rfl rfl rfl ?_
  refine r_load (p := pt 0 4) (v := signedV x.head) rfl rfl rfl (by kernel_rfl) ?_
  refine r_build (vs := []) (v := signedV (⟨(⟨0, 0, 0, dz, 0⟩ : Head), 0, dz⟩ : Signed)) rfl rfl rfl (by kernel_rfl) ?_
  rcases Bool.eq_false_or_eq_true (eqSigned x.head (⟨(⟨0, 0, 0, dz, 0⟩ : Head), 0, dz⟩ : Signed)) with h38 | h38
  refine r_bin (v := .bool true) (vx := signedV x.head) (vy := signedV (⟨(⟨0, 0, 0, dz, 0⟩ : Head), 0, dz⟩ : Signed)) rfl rfl rfl rfl (Eq.trans (eql_Signed x.head (⟨(⟨0, 0, 0, dz, 0⟩ : Head), 0, dz⟩ : Signed)) (by rw [h38] <;> rfl)) ?_
  refine r_pick (v := .bool true) rfl rfl rfl ?_
  refine r_pick (v := .bool true) rfl rfl rfl ?_
  refine r_assign (v := .bool true) rfl rfl rfl ?_
  refine r_doneN (x_then (c_ret (x_end ?_)))
  exact end_pv (v := .bool true) rfl rfl rfl
  refine r_bin (v := .bool false) (vx := signedV x.head) (vy := signedV (⟨(⟨0, 0, 0, dz, 0⟩ : Head), 0, dz⟩ : Signed)) rfl rfl rfl rfl (Eq.trans (eql_Signed x.head (⟨(⟨0, 0, 0, dz, 0⟩ : Head), 0, dz⟩ : Signed)) (by rw [h38] <;> rfl)) ?_
  refine r_pick (v := .bool false) rfl rfl rfl ?_
  refine r_pick (v := .bool false) rfl rfl rfl ?_
  refine r_assign (v := .bool false) rfl rfl rfl ?_
  refine r_doneN (x_then (c_ret (x_end ?_)))
  exfalso
  have hr := chkE_pos (e := x) (by omega)
  have hk := right_kind hr
  have k1 := kinds_1 (text := text) hr
  have k2 := kinds_2 (c := c) hr
  have k3 := kinds_3 hr
  · first | omega | (simp_all; done) | (simp_all; omega)
end Go.Flat
