/- Walks and plain laws: what each theorem says, within the bounds that it names. -/
import Derived.Test.YtnifcpffloojcaaDoorE4
set_option linter.unusedVariables false
set_option linter.unusedSimpArgs false
set_option maxRecDepth 20000
namespace Go.Flat
open Go.Proofs
variable {G : Glob}
def userI (client seq : Int) : Item := ⟨1, ⟨1, client, seq, ⟨#[]⟩, ⟨⟨0, 0, 0, dz, 0⟩, 0, dz⟩, ⟨0, 0, 0, 0, dz⟩⟩⟩
theorem bigB_len {l : List Item} (h : bigB l = false) : l.length ≤ 60 := by
  unfold bigB at h
  rw [Bool.or_eq_false_iff] at h
  have := of_decide_eq_false h.1; omega
theorem user_ok (client seq : Int) : CallL Tryd.prog G 36 [.int .i64 client, .int .i64 seq] [] (itemV (userI client seq)) [] := by
  refine walk (fn := Tryd.f36) (nt := 9) rfl rfl rfl rfl ?_
  refine c_hole 1 (H' := [hole]) rfl ?_
  refine c_seq (c_reg ?_)
  refine r_alloc (b := bxB 110 (itemC (⟨0, (⟨0, 0, 0, ⟨#[]⟩, (⟨(⟨0, 0, 0, dz, 0⟩ : Head), 0, dz⟩ : Signed), (⟨0, 0, 0, 0, dz⟩ : Claim)⟩ : Entry)⟩ : Item))) (nid := 0) (H' := [bxB 110 (itemC (⟨0, (⟨0, 0, 0, ⟨#[]⟩, (⟨(⟨0, 0, 0, dz, 0⟩ : Head), 0, dz⟩ : Signed), (⟨0, 0, 0, 0, dz⟩ : Claim)⟩ : Entry)⟩ : Item))]) rfl rfl (by kernel_rfl) (by kernel_rfl) ?_
  refine r_doneN (x_then (c_seq (c_reg ?_)))
  refine r_move (v := .int .i64 client) rfl rfl rfl ?_
  refine r_move (v := .int .i64 seq) rfl rfl rfl ?_
  refine r_build (vs := [(0, .int .i64 1), (1, .int .i64 client), (2, .int .i64 seq)]) (v := entV (⟨1, client, seq, ⟨#[]⟩, (⟨(⟨0, 0, 0, dz, 0⟩ : Head), 0, dz⟩ : Signed), (⟨0, 0, 0, 0, dz⟩ : Claim)⟩ : Entry)) rfl rfl rfl (by kernel_rfl) ?_
  refine r_build (vs := [(0, .int .i64 1), (1, entV (⟨1, client, seq, ⟨#[]⟩, (⟨(⟨0, 0, 0, dz, 0⟩ : Head), 0, dz⟩ : Signed), (⟨0, 0, 0, 0, dz⟩ : Claim)⟩ : Entry))]) (v := itemV (⟨1, (⟨1, client, seq, ⟨#[]⟩, (⟨(⟨0, 0, 0, dz, 0⟩ : Head), 0, dz⟩ : Signed), (⟨0, 0, 0, 0, dz⟩ : Claim)⟩ : Entry)⟩ : Item)) rfl rfl rfl (by kernel_rfl) ?_
  refine r_store (p := pt 0 0) (v := itemV (⟨1, (⟨1, client, seq, ⟨#[]⟩, (⟨(⟨0, 0, 0, dz, 0⟩ : Head), 0, dz⟩ : Signed), (⟨0, 0, 0, 0, dz⟩ : Claim)⟩ : Entry)⟩ : Item)) (b := 0) (blk := bxB 110 (itemC (⟨1, (⟨1, client, seq, ⟨#[]⟩, (⟨(⟨0, 0, 0, dz, 0⟩ : Head), 0, dz⟩ : Signed), (⟨0, 0, 0, 0, dz⟩ : Claim)⟩ : Entry)⟩ : Item))) (H' := [bxB 110 (itemC (⟨1, (⟨1, client, seq, ⟨#[]⟩, (⟨(⟨0, 0, 0, dz, 0⟩ : Head), 0, dz⟩ : Signed), (⟨0, 0, 0, 0, dz⟩ : Claim)⟩ : Entry)⟩ : Item))]) rfl rfl rfl (by kernel_rfl) (by kernel_rfl) ?_
  refine r_doneN (x_then (c_ret (x_end ?_)))
  exact end_same (v := itemV (⟨1, (⟨1, client, seq, ⟨#[]⟩, (⟨(⟨0, 0, 0, dz, 0⟩ : Head), 0, dz⟩ : Signed), (⟨0, 0, 0, 0, dz⟩ : Claim)⟩ : Entry)⟩ : Item)) (by kernel_rfl) rfl rfl (by kernel_rfl) (argV_pure (by kernel_rfl) rfl)
theorem find_c (l : List Item) (n c : Nat) (hn : l.length = n) (hc : n ≤ c) (hb : n ≤ 1048576) (client seq : Int) {i : Int} {b : Bool} (h : findL l client seq = (i, b)) : CallL Tryd.prog G 26 [slv 0 0 n c, .int .i64 client, .int .i64 seq] [rwR cItem l] (.tuple #[.int .i64 i, .bool b]) [rwR cItem l] := by
  have q := Find_ok (G := G) l n c hn hc hb client seq
  rw [h] at q; exact q
theorem check_c (l : List Item) (n c : Nat) (hn : l.length = n) (hc : n ≤ c) (hb : n ≤ 1048576) {z : Int} (h : chkL l = z) : CallL Tryd.prog G 23 [slv 0 0 n c] [rwR cItem l] (.int .i64 z) [rwR cItem l] := by
  have q := LCheck_ok (G := G) l n c hn hc hb
  rw [h] at q; exact q
theorem may_c (l : List Item) (n c : Nat) (hn : l.length = n) (hc : n ≤ c) (hb : n ≤ 1048576) (x : Item) {z : Int} (h : mayF l n x = z) : CallL Tryd.prog G 25 [slv 0 0 n c, itemV x] [rwR cItem l] (.int .i64 z) [rwR cItem l] := by
  have q := May_ok (G := G) l n c hn hc hb x
  rw [h] at q; exact q
theorem finds_ok  : CallL Tryd.prog G 24 [] [] (.bool true) [] := by
  refine walk (fn := Tryd.f24) (nt := 62) rfl rfl rfl rfl ?_
  refine c_hole 4 (H' := [hole, hole, hole, hole]) rfl ?_
  refine c_seq (c_reg ?_)
  refine r_assign (v := .bool false) rfl rfl rfl ?_
  refine r_doneN (x_then (c_seq (c_reg ?_)))
  refine r_callP (user_ok (G := G) 1 1) (vals := [.int .i64 1, .int .i64 1]) (res' := itemV (userI 1 1)) rfl rfl rfl rfl rfl (by kernel_rfl) ?_
  refine r_callP (user_ok (G := G) 2 5) (vals := [.int .i64 2, .int .i64 5]) (res' := itemV (userI 2 5)) rfl rfl rfl rfl rfl (by kernel_rfl) ?_
  refine r_callP (user_ok (G := G) 1 3) (vals := [.int .i64 1, .int .i64 3]) (res' := itemV (userI 1 3)) rfl rfl rfl rfl rfl (by kernel_rfl) ?_
  refine r_lit (vs := [(0, itemV (userI 1 1)), (1, itemV (userI 2 5)), (2, itemV (userI 1 3))]) (v := slv 0 0 3 3) (blk := rwB cItem [(userI 1 1), (userI 2 5), (userI 1 3)]) (nid := 0) (H' := [rwB cItem [(userI 1 1), (userI 2 5), (userI 1 3)], hole, hole, hole]) rfl rfl rfl (by kernel_rfl) (by kernel_rfl) ?_
  refine r_assign (v := slv 0 0 3 3) rfl rfl rfl ?_
  refine r_doneN (x_then (c_seq (c_reg ?_)))
  refine r_move (v := slv 0 0 3 3) rfl rfl rfl ?_
  refine r_callN (e := [some (0, 0)]) (nid := 0) (find_c (G := G) [(userI 1 1), (userI 2 5), (userI 1 3)] 3 3 (rfl : _ = 3) (by omega) (by omega) 1 3 (show findL [(userI 1 1), (userI 2 5), (userI 1 3)] 1 3 = (2, true) from by kernel_rfl)) (vals := [slv 0 0 3 3, .int .i64 1, .int .i64 3]) (v := .tuple #[.int .i64 2, .bool true]) (H' := [rwB cItem [(userI 1 1), (userI 2 5), (userI 1 3)], hole, hole, hole]) rfl rfl rfl rfl rfl rfl rfl ⟨⟨⟨rfl, rfl, rfl, by first | omega | exact Nat.le_refl _, by first | omega | exact Nat.le_refl _⟩, rfl, rfl, trivial⟩, ⟨(emb_rwB rfl), trivial⟩, rfl, rfl, rfl⟩ (by kernel_rfl) (by kernel_rfl) ?_
  refine r_move (v := .tuple #[.int .i64 2, .bool true]) rfl rfl rfl ?_
  refine r_extract (vs := #[.int .i64 2, .bool true]) (v := .int .i64 2) rfl rfl rfl rfl ?_
  refine r_extract (vs := #[.int .i64 2, .bool true]) (v := .bool true) rfl rfl rfl rfl ?_
  refine r_assign (v := .int .i64 2) rfl rfl rfl ?_
  refine r_assign (v := .bool true) rfl rfl rfl ?_
  refine r_doneN (x_then (c_seq (c_reg ?_)))
  refine r_move (v := slv 0 0 3 3) rfl rfl rfl ?_
  refine r_callN (e := [some (0, 0)]) (nid := 0) (find_c (G := G) [(userI 1 1), (userI 2 5), (userI 1 3)] 3 3 (rfl : _ = 3) (by omega) (by omega) 1 2 (show findL [(userI 1 1), (userI 2 5), (userI 1 3)] 1 2 = (0, false) from by kernel_rfl)) (vals := [slv 0 0 3 3, .int .i64 1, .int .i64 2]) (v := .tuple #[.int .i64 0, .bool false]) (H' := [rwB cItem [(userI 1 1), (userI 2 5), (userI 1 3)], hole, hole, hole]) rfl rfl rfl rfl rfl rfl rfl ⟨⟨⟨rfl, rfl, rfl, by first | omega | exact Nat.le_refl _, by first | omega | exact Nat.le_refl _⟩, rfl, rfl, trivial⟩, ⟨(emb_rwB rfl), trivial⟩, rfl, rfl, rfl⟩ (by kernel_rfl) (by kernel_rfl) ?_
  refine r_move (v := .tuple #[.int .i64 0, .bool false]) rfl rfl rfl ?_
  refine r_extract (vs := #[.int .i64 0, .bool false]) (v := .int .i64 0) rfl rfl rfl rfl ?_
  refine r_extract (vs := #[.int .i64 0, .bool false]) (v := .bool false) rfl rfl rfl rfl ?_
  refine r_assign (v := .int .i64 0) rfl rfl rfl ?_
  refine r_assign (v := .bool false) rfl rfl rfl ?_
  refine r_doneN (x_then (c_seq (c_reg ?_)))
  refine r_callP (user_ok (G := G) 3 1) (vals := [.int .i64 3, .int .i64 1]) (res' := itemV (userI 3 1)) rfl rfl rfl rfl rfl (by kernel_rfl) ?_
  refine r_alloc (b := bxB 110 (itemC (⟨0, (⟨0, 0, 0, ⟨#[]⟩, (⟨(⟨0, 0, 0, dz, 0⟩ : Head), 0, dz⟩ : Signed), (⟨0, 0, 0, 0, dz⟩ : Claim)⟩ : Entry)⟩ : Item))) (nid := 1) (H' := [rwB cItem [(userI 1 1), (userI 2 5), (userI 1 3)], bxB 110 (itemC (⟨0, (⟨0, 0, 0, ⟨#[]⟩, (⟨(⟨0, 0, 0, dz, 0⟩ : Head), 0, dz⟩ : Signed), (⟨0, 0, 0, 0, dz⟩ : Claim)⟩ : Entry)⟩ : Item)), hole, hole]) rfl rfl (by kernel_rfl) (by kernel_rfl) ?_
  refine r_store (p := pt 1 0) (v := itemV (userI 3 1)) (b := 1) (blk := bxB 110 (itemC (userI 3 1))) (H' := [rwB cItem [(userI 1 1), (userI 2 5), (userI 1 3)], bxB 110 (itemC (userI 3 1)), hole, hole]) rfl rfl rfl (by kernel_rfl) (by kernel_rfl) ?_
  refine r_doneN (x_then (c_seq (c_reg ?_)))
  refine r_fieldAddr (b := 1) (o := 0) (n := 0) (o' := 0) rfl rfl rfl rfl rfl ?_
  refine r_store (p := pt 1 0) (v := .int .i64 2) (b := 1) (blk := bxB 110 (itemC (⟨2, (userI 3 1).entry⟩ : Item))) (H' := [rwB cItem [(userI 1 1), (userI 2 5), (userI 1 3)], bxB 110 (itemC (⟨2, (userI 3 1).entry⟩ : Item)), hole, hole]) rfl rfl rfl (by kernel_rfl) (by kernel_rfl) ?_
  refine r_doneN (x_then (c_seq ?_))
  refine c_draw (by kernel_rfl) ?_
  refine r_move (v := .int .i64 2) rfl rfl rfl ?_
  refine r_bin (v := .bool true) (vx := .int .i64 2) (vy := .int .i64 2) rfl rfl rfl rfl (eql_t (by omega)) ?_
  refine r_move (v := .bool true) rfl rfl rfl ?_
  refine r_move (v := .bool true) rfl rfl rfl ?_
  refine r_pick (v := .bool true) rfl rfl rfl ?_
  refine r_move (v := .bool true) rfl rfl rfl ?_
  refine r_move (v := .bool false) rfl rfl rfl ?_
  refine r_un (v := .bool true) (vx := .bool false) rfl rfl rfl un_not ?_
  refine r_pick (v := .bool true) rfl rfl rfl ?_
  refine r_move (v := .bool true) rfl rfl rfl ?_
  refine r_move (v := slv 0 0 3 3) rfl rfl rfl ?_
  refine r_callN (e := [some (0, 0)]) (nid := 0) (check_c (G := G) [(userI 1 1), (userI 2 5), (userI 1 3)] 3 3 (rfl : _ = 3) (by omega) (by omega) (show chkL [(userI 1 1), (userI 2 5), (userI 1 3)] = 0 from by kernel_rfl)) (vals := [slv 0 0 3 3]) (v := .int .i64 0) (H' := [rwB cItem [(userI 1 1), (userI 2 5), (userI 1 3)], bxB 110 (itemC (⟨2, (userI 3 1).entry⟩ : Item)), hole, hole]) rfl rfl rfl rfl rfl rfl rfl ⟨⟨⟨rfl, rfl, rfl, by first | omega | exact Nat.le_refl _, by first | omega | exact Nat.le_refl _⟩, trivial⟩, ⟨(emb_rwB rfl), trivial⟩, rfl, rfl, rfl⟩ rfl (by kernel_rfl) ?_
  refine r_bin (v := .bool true) (vx := .int .i64 0) (vy := .int .i64 0) rfl rfl rfl rfl (eql_t (by omega)) ?_
  refine r_pick (v := .bool true) rfl rfl rfl ?_
  refine r_move (v := .bool true) rfl rfl rfl ?_
  refine r_move (v := slv 0 0 3 3) rfl rfl rfl ?_
  refine r_callP (user_ok (G := G) 1 3) (vals := [.int .i64 1, .int .i64 3]) (res' := itemV (userI 1 3)) rfl rfl rfl rfl rfl (by kernel_rfl) ?_
  refine r_callN (e := [some (0, 0)]) (nid := 0) (may_c (G := G) [(userI 1 1), (userI 2 5), (userI 1 3)] 3 3 (rfl : _ = 3) (by omega) (by omega) (userI 1 3) (show mayF [(userI 1 1), (userI 2 5), (userI 1 3)] 3 (userI 1 3) = 101 from by kernel_rfl)) (vals := [slv 0 0 3 3, itemV (userI 1 3)]) (v := .int .i64 101) (H' := [rwB cItem [(userI 1 1), (userI 2 5), (userI 1 3)], bxB 110 (itemC (⟨2, (userI 3 1).entry⟩ : Item)), hole, hole]) rfl rfl rfl rfl rfl rfl rfl ⟨⟨⟨rfl, rfl, rfl, by first | omega | exact Nat.le_refl _, by first | omega | exact Nat.le_refl _⟩, rfl, trivial⟩, ⟨(emb_rwB rfl), trivial⟩, rfl, rfl, rfl⟩ rfl (by kernel_rfl) ?_
  refine r_bin (v := .bool true) (vx := .int .i64 101) (vy := .int .i64 101) rfl rfl rfl rfl (eql_t (by omega)) ?_
  refine r_pick (v := .bool true) rfl rfl rfl ?_
  refine r_move (v := .bool true) rfl rfl rfl ?_
  refine r_move (v := slv 0 0 3 3) rfl rfl rfl ?_
  refine r_callP (user_ok (G := G) 1 4) (vals := [.int .i64 1, .int .i64 4]) (res' := itemV (userI 1 4)) rfl rfl rfl rfl rfl (by kernel_rfl) ?_
  refine r_callN (e := [some (0, 0)]) (nid := 0) (may_c (G := G) [(userI 1 1), (userI 2 5), (userI 1 3)] 3 3 (rfl : _ = 3) (by omega) (by omega) (userI 1 4) (show mayF [(userI 1 1), (userI 2 5), (userI 1 3)] 3 (userI 1 4) = 0 from by kernel_rfl)) (vals := [slv 0 0 3 3, itemV (userI 1 4)]) (v := .int .i64 0) (H' := [rwB cItem [(userI 1 1), (userI 2 5), (userI 1 3)], bxB 110 (itemC (⟨2, (userI 3 1).entry⟩ : Item)), hole, hole]) rfl rfl rfl rfl rfl rfl rfl ⟨⟨⟨rfl, rfl, rfl, by first | omega | exact Nat.le_refl _, by first | omega | exact Nat.le_refl _⟩, rfl, trivial⟩, ⟨(emb_rwB rfl), trivial⟩, rfl, rfl, rfl⟩ rfl (by kernel_rfl) ?_
  refine r_bin (v := .bool true) (vx := .int .i64 0) (vy := .int .i64 0) rfl rfl rfl rfl (eql_t (by omega)) ?_
  refine r_pick (v := .bool true) rfl rfl rfl ?_
  refine r_move (v := .bool true) rfl rfl rfl ?_
  refine r_load (p := pt 1 0) (v := itemV (⟨2, (userI 3 1).entry⟩ : Item)) rfl rfl rfl (by kernel_rfl) ?_
  refine r_lit (vs := [(0, itemV (⟨2, (userI 3 1).entry⟩ : Item))]) (v := slv 2 0 1 1) (blk := rwB cItem [(⟨2, (userI 3 1).entry⟩ : Item)]) (nid := 2) (H' := [rwB cItem [(userI 1 1), (userI 2 5), (userI 1 3)], bxB 110 (itemC (⟨2, (userI 3 1).entry⟩ : Item)), rwB cItem [(⟨2, (userI 3 1).entry⟩ : Item)], hole]) rfl rfl rfl (by kernel_rfl) (by kernel_rfl) ?_
  refine r_callP (user_ok (G := G) 1 1) (vals := [.int .i64 1, .int .i64 1]) (res' := itemV (userI 1 1)) rfl rfl rfl rfl rfl (by kernel_rfl) ?_
  refine r_callN (e := [some (2, 0)]) (nid := 0) (may_c (G := G) [(⟨2, (userI 3 1).entry⟩ : Item)] 1 1 (rfl : _ = 1) (by omega) (by omega) (userI 1 1) (show mayF [(⟨2, (userI 3 1).entry⟩ : Item)] 1 (userI 1 1) = 102 from by kernel_rfl)) (vals := [slv 2 0 1 1, itemV (userI 1 1)]) (v := .int .i64 102) (H' := [rwB cItem [(userI 1 1), (userI 2 5), (userI 1 3)], bxB 110 (itemC (⟨2, (userI 3 1).entry⟩ : Item)), rwB cItem [(⟨2, (userI 3 1).entry⟩ : Item)], hole]) rfl rfl rfl rfl rfl rfl rfl ⟨⟨⟨rfl, rfl, rfl, by first | omega | exact Nat.le_refl _, by first | omega | exact Nat.le_refl _⟩, rfl, trivial⟩, ⟨(emb_rwB rfl), trivial⟩, rfl, rfl, rfl⟩ rfl (by kernel_rfl) ?_
  refine r_bin (v := .bool true) (vx := .int .i64 102) (vy := .int .i64 102) rfl rfl rfl rfl (eql_t (by omega)) ?_
  refine r_pick (v := .bool true) rfl rfl rfl ?_
  refine r_move (v := .bool true) rfl rfl rfl ?_
  refine r_build (vs := []) (v := itemV (⟨0, (⟨0, 0, 0, ⟨#[]⟩, (⟨(⟨0, 0, 0, dz, 0⟩ : Head), 0, dz⟩ : Signed), (⟨0, 0, 0, 0, dz⟩ : Claim)⟩ : Entry)⟩ : Item)) rfl rfl rfl (by kernel_rfl) ?_
  refine r_lit (vs := [(0, itemV (⟨0, (⟨0, 0, 0, ⟨#[]⟩, (⟨(⟨0, 0, 0, dz, 0⟩ : Head), 0, dz⟩ : Signed), (⟨0, 0, 0, 0, dz⟩ : Claim)⟩ : Entry)⟩ : Item))]) (v := slv 3 0 1 1) (blk := rwB cItem [(⟨0, (⟨0, 0, 0, ⟨#[]⟩, (⟨(⟨0, 0, 0, dz, 0⟩ : Head), 0, dz⟩ : Signed), (⟨0, 0, 0, 0, dz⟩ : Claim)⟩ : Entry)⟩ : Item)]) (nid := 3) (H' := [rwB cItem [(userI 1 1), (userI 2 5), (userI 1 3)], bxB 110 (itemC (⟨2, (userI 3 1).entry⟩ : Item)), rwB cItem [(⟨2, (userI 3 1).entry⟩ : Item)], rwB cItem [(⟨0, (⟨0, 0, 0, ⟨#[]⟩, (⟨(⟨0, 0, 0, dz, 0⟩ : Head), 0, dz⟩ : Signed), (⟨0, 0, 0, 0, dz⟩ : Claim)⟩ : Entry)⟩ : Item)]]) rfl rfl rfl (by kernel_rfl) (by kernel_rfl) ?_
  refine r_callN (e := [some (3, 0)]) (nid := 0) (check_c (G := G) [(⟨0, (⟨0, 0, 0, ⟨#[]⟩, (⟨(⟨0, 0, 0, dz, 0⟩ : Head), 0, dz⟩ : Signed), (⟨0, 0, 0, 0, dz⟩ : Claim)⟩ : Entry)⟩ : Item)] 1 1 (rfl : _ = 1) (by omega) (by omega) (show chkL [(⟨0, (⟨0, 0, 0, ⟨#[]⟩, (⟨(⟨0, 0, 0, dz, 0⟩ : Head), 0, dz⟩ : Signed), (⟨0, 0, 0, 0, dz⟩ : Claim)⟩ : Entry)⟩ : Item)] = 100 from by kernel_rfl)) (vals := [slv 3 0 1 1]) (v := .int .i64 100) (H' := [rwB cItem [(userI 1 1), (userI 2 5), (userI 1 3)], bxB 110 (itemC (⟨2, (userI 3 1).entry⟩ : Item)), rwB cItem [(⟨2, (userI 3 1).entry⟩ : Item)], rwB cItem [(⟨0, (⟨0, 0, 0, ⟨#[]⟩, (⟨(⟨0, 0, 0, dz, 0⟩ : Head), 0, dz⟩ : Signed), (⟨0, 0, 0, 0, dz⟩ : Claim)⟩ : Entry)⟩ : Item)]]) rfl rfl rfl rfl rfl rfl rfl ⟨⟨⟨rfl, rfl, rfl, by first | omega | exact Nat.le_refl _, by first | omega | exact Nat.le_refl _⟩, trivial⟩, ⟨(emb_rwB rfl), trivial⟩, rfl, rfl, rfl⟩ rfl (by kernel_rfl) ?_
  refine r_bin (v := .bool true) (vx := .int .i64 100) (vy := .int .i64 100) rfl rfl rfl rfl (eql_t (by omega)) ?_
  refine r_pick (v := .bool true) rfl rfl rfl ?_
  refine r_assign (v := .bool true) rfl rfl rfl ?_
  refine r_doneD (drawnT_ok [[], [0], [0, 1], [0, 1, 2], [0, 1, 2, 3], [0, 1, 2, 3, 4], [0, 1, 2, 3, 4, 5], [0, 1, 2, 3, 4, 5, 6], [0, 1, 2, 3, 4, 5, 6, 7], [0, 1, 2, 3, 4, 5, 6, 7, 8], [0, 1, 2, 3, 4, 5, 6, 7, 8, 9], [0, 1, 2, 3, 4, 5, 6, 7, 8, 9, 10], [0, 1, 2, 3, 4, 5, 6, 7, 8, 9, 10, 11], [0, 1, 2, 3, 4, 5, 6, 7, 8, 9, 10, 11, 12], [0, 1, 2, 3, 4, 5, 6, 7, 8, 9, 10, 11, 12, 13], [0, 1, 2, 3, 4, 5, 6, 7, 8, 9, 10, 11, 12, 13, 14], [0, 1, 2, 3, 4, 5, 6, 7, 8, 9, 10, 11, 12, 13, 14], [0, 1, 2, 3, 4, 5, 6, 7, 8, 9, 10, 11, 12, 13, 14, 15, 16], [0, 1, 2, 3, 4, 5, 6, 7, 8, 9, 10, 11, 12, 13, 14, 15, 16, 17], [0, 1, 2, 3, 4, 5, 6, 7, 8, 9, 10, 11, 12, 13, 14, 15, 16, 17, 18], [0, 1, 2, 3, 4, 5, 6, 7, 8, 9, 10, 11, 12, 13, 14, 15, 16, 17, 18, 19], [0, 1, 2, 3, 4, 5, 6, 7, 8, 9, 10, 11, 12, 13, 14, 15, 16, 17, 18, 19, 20], [0, 1, 2, 3, 4, 5, 6, 7, 8, 9, 10, 11, 12, 13, 14, 15, 16, 17, 18, 19, 20], [0, 1, 2, 3, 4, 5, 6, 7, 8, 9, 10, 11, 12, 13, 14, 15, 16, 17, 18, 19, 20, 21, 22], [0, 1, 2, 3, 4, 5, 6, 7, 8, 9, 10, 11, 12, 13, 14, 15, 16, 17, 18, 19, 20, 21, 22, 23], [0, 1, 2, 3, 4, 5, 6, 7, 8, 9, 10, 11, 12, 13, 14, 15, 16, 17, 18, 19, 20, 21, 22, 23, 24], [0, 1, 2, 3, 4, 5, 6, 7, 8, 9, 10, 11, 12, 13, 14, 15, 16, 17, 18, 19, 20, 21, 22, 23, 24, 25], [0, 1, 2, 3, 4, 5, 6, 7, 8, 9, 10, 11, 12, 13, 14, 15, 16, 17, 18, 19, 20, 21, 22, 23, 24, 25, 26], [0, 1, 2, 3, 4, 5, 6, 7, 8, 9, 10, 11, 12, 13, 14, 15, 16, 17, 18, 19, 20, 21, 22, 23, 24, 25, 26, 27], [0, 1, 2, 3, 4, 5, 6, 7, 8, 9, 10, 11, 12, 13, 14, 15, 16, 17, 18, 19, 20, 21, 22, 23, 24, 25, 26], [0, 1, 2, 3, 4, 5, 6, 7, 8, 9, 10, 11, 12, 13, 14, 15, 16, 17, 18, 19, 20, 21, 22, 23, 24, 25, 26, 27, 28, 29], [0, 1, 2, 3, 4, 5, 6, 7, 8, 9, 10, 11, 12, 13, 14, 15, 16, 17, 18, 19, 20, 21, 22, 23, 24, 25, 26, 27, 28, 29, 30], [0, 1, 2, 3, 4, 5, 6, 7, 8, 9, 10, 11, 12, 13, 14, 15, 16, 17, 18, 19, 20, 21, 22, 23, 24, 25, 26, 27, 28, 29, 30, 31], [0, 1, 2, 3, 4, 5, 6, 7, 8, 9, 10, 11, 12, 13, 14, 15, 16, 17, 18, 19, 20, 21, 22, 23, 24, 25, 26, 27, 28, 29, 30, 31, 32], [0, 1, 2, 3, 4, 5, 6, 7, 8, 9, 10, 11, 12, 13, 14, 15, 16, 17, 18, 19, 20, 21, 22, 23, 24, 25, 26, 27, 28, 29, 30, 31, 32, 33], [0, 1, 2, 3, 4, 5, 6, 7, 8, 9, 10, 11, 12, 13, 14, 15, 16, 17, 18, 19, 20, 21, 22, 23, 24, 25, 26, 27, 28, 29, 30, 31, 32, 33, 34], [0, 1, 2, 3, 4, 5, 6, 7, 8, 9, 10, 11, 12, 13, 14, 15, 16, 17, 18, 19, 20, 21, 22, 23, 24, 25, 26, 27, 28, 29, 30, 31, 32, 33, 34, 35], [0, 1, 2, 3, 4, 5, 6, 7, 8, 9, 10, 11, 12, 13, 14, 15, 16, 17, 18, 19, 20, 21, 22, 23, 24, 25, 26, 27, 28, 29, 30, 31, 32, 33, 34, 35, 36], [0, 1, 2, 3, 4, 5, 6, 7, 8, 9, 10, 11, 12, 13, 14, 15, 16, 17, 18, 19, 20, 21, 22, 23, 24, 25, 26, 27, 28, 29, 30, 31, 32, 33, 34, 35, 36, 37], [0, 1, 2, 3, 4, 5, 6, 7, 8, 9, 10, 11, 12, 13, 14, 15, 16, 17, 18, 19, 20, 21, 22, 23, 24, 25, 26, 27, 28, 29, 30, 31, 32, 33, 34, 35, 36, 37, 38]] (by kernel_rfl) (by kernel_rfl)) ?_
  refine x_then (c_ret (x_end ?_))
  exact end_pv (v := .bool true) rfl rfl rfl
end Go.Flat
