/- Walks and plain laws: what each theorem says, within the bounds that it names. -/
import Derived.Test.YtajjalickpkkkaaDoorX15
set_option linter.unusedVariables false
set_option linter.unusedSimpArgs false
namespace Go.Flat
open Go.Proofs
variable {G : Glob}
theorem Root3_ok (kk : Nat → BitVec 32) (hG : G 1 = some (rowE w32 64 kk)) (hG1 : G 3 = some (rowE u8N 64 dbF)) : CallL Tryd.prog G 21 [slv 0 0 3 3] [dsR [dg1 1, dg1 2, dg1 3]] (dgV (knotF kk (knotF kk (dg1 1) (dg1 2)) (dg1 3))) [dsR [dg1 1, dg1 2, dg1 3]] := root3 kk (dg1 1) (dg1 2) (dg1 3) ▸ Root_ok (G := G) kk hG hG1 [dg1 1, dg1 2, dg1 3] 3 (by decide) (by decide)
theorem sp_3 : splitN 3 = 2 := by decide
theorem sp_2 : splitN 2 = 1 := by decide
theorem way30 (x y : D) : wayF 3 0 [x, y] = some [(y, false), (x, false)] := by
  rw [wayF_lo (by decide) (by show 0 < 2; decide) (by rw [sp_3]; decide), sp_3, wayF_lo (by decide) (by show 0 < 1; decide) (by rw [sp_2]; decide), sp_2, wayF_one _ _ (by decide)]; rfl
theorem way32 (x : D) : wayF 3 2 [x] = some [(x, true)] := by
  rw [wayF_hi (by decide) (by show 0 < 1; decide) (by rw [sp_3]; decide), sp_3, wayF_one _ _ (by decide)]; rfl
theorem way3x (x : D) : wayF 3 0 [x] = none := by
  rw [wayF_lo (by decide) (by show 0 < 1; decide) (by rw [sp_3]; decide), sp_3, wayF_nil _ (by decide) rfl]; rfl
variable (kk : Nat → BitVec 32)
theorem three_i1 {a b c : D} : inclE kk (knotF kk (knotF kk a b) c) a 3 0 [b, c] = 0 := by
  unfold inclE
  rw [if_neg (by decide), show (3 : Int).toNat = 3 from rfl, show (0 : Int).toNat = 0 from rfl, way30]
  simp [knA, sameB_refl]
theorem three_i2 {a b c : D} : inclE kk (knotF kk (knotF kk a b) c) c 3 2 [knotF kk a b] = 0 := by
  unfold inclE
  rw [if_neg (by decide), show (3 : Int).toNat = 3 from rfl, show (2 : Int).toNat = 2 from rfl, way32]
  simp [knA, sameB_refl]
theorem three_i3 {kk : Nat → BitVec 32} {a b c : D} (hne : sameB 32 (knotF kk (knotF kk b b) c) (knotF kk (knotF kk a b) c) = false) : inclE kk (knotF kk (knotF kk a b) c) b 3 0 [b, c] = 41 := by
  unfold inclE
  rw [if_neg (by decide), show (3 : Int).toNat = 3 from rfl, show (0 : Int).toNat = 0 from rfl, way30]
  simp [knA, hne]
theorem three_i4 {r a b : D} : inclE kk r a 3 0 [b] = 40 := by
  unfold inclE
  rw [if_neg (by decide), show (3 : Int).toNat = 3 from rfl, show (0 : Int).toNat = 0 from rfl, way3x]
theorem three_c1 {a b c : D} : goesE kk 1 a 3 (knotF kk (knotF kk a b) c) [b, c] = 0 := by
  unfold goesE
  rw [if_neg (by simp), if_neg (by decide), show (3 : Int).toNat = 3 from rfl, show (1 : Int).toNat = 1 from rfl, bothF_lo kk a true (by decide) (by decide) (by simp) (by rw [sp_3]; decide), sp_3, bothF_lo kk a true (by decide) (by decide) (by simp) (by rw [sp_2]; decide), sp_2, bothF_self]
  simp [sameB_refl]
theorem three_c2 {r : D} : goesE kk 0 (shaOf kk []) 3 r [] = 0 := by
  unfold goesE
  rw [if_neg (by simp), if_pos rfl]
  simp [sameB_refl]
theorem three_c3 {r : D} : goesE kk 3 r 3 r [] = 0 := by
  unfold goesE
  rw [if_neg (by simp), if_neg (by decide), show (3 : Int).toNat = 3 from rfl, bothF_self]
  simp [sameB_refl]
theorem three_c4 {r : D} : goesE kk 2 r 1 r [] = 40 := by
  unfold goesE
  rw [if_pos (by decide)]
theorem three_k {r a : D} {p q : List D} : clashE kk r 3 0 a p a q = none := by
  unfold clashE; rw [if_pos (.inl (sameB_refl _ _))]
set_option maxRecDepth 20000 in
theorem three05_ok (kk : Nat → BitVec 32) (hG : G 1 = some (rowE w32 64 kk)) (hG1 : G 3 = some (rowE u8N 64 dbF)) (hne : sameB 32 (knotF kk (knotF kk (dg1 2) (dg1 2)) (dg1 3)) (knotF kk (knotF kk (dg1 1) (dg1 2)) (dg1 3)) = false) : CallL Tryd.prog G 12 [] [] (.bool true) [] := by
  refine walk (fn := Tryd.f12) (nt := 99) rfl rfl rfl rfl ?_
  refine c_hole 12 (H' := [hole, hole, hole, hole, hole, hole, hole, hole, hole, hole, hole, hole]) rfl ?_
  refine c_seq ?_
  refine c_reg ?_
  refine r_assign (v := .bool false) rfl rfl rfl ?_
  refine r_doneN ?_
  refine x_then ?_
  refine c_seq ?_
  refine c_reg ?_
  refine r_build (vs := [(0, w8 (1#8))]) (v := dgV (dg1 1)) rfl rfl rfl (by kernel_rfl) ?_
  refine r_alloc (b := dgB dz) (nid := 0) (H' := [dgB dz, hole, hole, hole, hole, hole, hole, hole, hole, hole, hole, hole]) rfl rfl (by kernel_rfl) (by kernel_rfl) ?_
  refine r_store (p := pt 0 0) (v := dgV (dg1 1)) (b := 0) (blk := dgB (dg1 1)) (H' := [dgB (dg1 1), hole, hole, hole, hole, hole, hole, hole, hole, hole, hole, hole]) rfl rfl rfl (by kernel_rfl) (by kernel_rfl) ?_
  refine r_doneN ?_
  refine x_then ?_
  refine c_seq ?_
  refine c_reg ?_
  refine r_build (vs := [(0, w8 (2#8))]) (v := dgV (dg1 2)) rfl rfl rfl (by kernel_rfl) ?_
  refine r_alloc (b := dgB dz) (nid := 1) (H' := [dgB (dg1 1), dgB dz, hole, hole, hole, hole, hole, hole, hole, hole, hole, hole]) rfl rfl (by kernel_rfl) (by kernel_rfl) ?_
  refine r_store (p := pt 1 0) (v := dgV (dg1 2)) (b := 1) (blk := dgB (dg1 2)) (H' := [dgB (dg1 1), dgB (dg1 2), hole, hole, hole, hole, hole, hole, hole, hole, hole, hole]) rfl rfl rfl (by kernel_rfl) (by kernel_rfl) ?_
  refine r_doneN ?_
  refine x_then ?_
  refine c_seq ?_
  refine c_reg ?_
  refine r_build (vs := [(0, w8 (3#8))]) (v := dgV (dg1 3)) rfl rfl rfl (by kernel_rfl) ?_
  refine r_alloc (b := dgB dz) (nid := 2) (H' := [dgB (dg1 1), dgB (dg1 2), dgB dz, hole, hole, hole, hole, hole, hole, hole, hole, hole]) rfl rfl (by kernel_rfl) (by kernel_rfl) ?_
  refine r_store (p := pt 2 0) (v := dgV (dg1 3)) (b := 2) (blk := dgB (dg1 3)) (H' := [dgB (dg1 1), dgB (dg1 2), dgB (dg1 3), hole, hole, hole, hole, hole, hole, hole, hole, hole]) rfl rfl rfl (by kernel_rfl) (by kernel_rfl) ?_
  refine r_doneN ?_
  refine x_then ?_
  refine c_seq ?_
  refine c_reg ?_
  refine r_load (p := pt 0 0) (v := dgV (dg1 1)) rfl rfl rfl (by kernel_rfl) ?_
  refine r_load (p := pt 1 0) (v := dgV (dg1 2)) rfl rfl rfl (by kernel_rfl) ?_
  refine r_load (p := pt 2 0) (v := dgV (dg1 3)) rfl rfl rfl (by kernel_rfl) ?_
  refine r_lit (vs := [(0, dgV (dg1 1)), (1, dgV (dg1 2)), (2, dgV (dg1 3))]) (v := slv 3 0 3 3) (blk := dsB [(dg1 1), (dg1 2), (dg1 3)]) (nid := 3) (H' := [dgB (dg1 1), dgB (dg1 2), dgB (dg1 3), dsB [(dg1 1), (dg1 2), (dg1 3)], hole, hole, hole, hole, hole, hole, hole, hole]) rfl rfl rfl (by kernel_rfl) (by kernel_rfl) ?_
  refine r_callN (e := [some (3, 0)]) (nid := 0) (Root3_ok (G := G) kk hG hG1) (vals := [slv 3 0 3 3]) (v := dgV (knotF kk (knotF kk (dg1 1) (dg1 2)) (dg1 3))) (H' := [dgB (dg1 1), dgB (dg1 2), dgB (dg1 3), dsB [(dg1 1), (dg1 2), (dg1 3)], hole, hole, hole, hole, hole, hole, hole, hole]) rfl rfl rfl rfl rfl rfl rfl ⟨⟨⟨rfl, rfl, rfl, by omega, by omega⟩, trivial⟩, ⟨(emb_dsB rfl), trivial⟩, rfl, rfl, rfl⟩ (by kernel_rfl) (by kernel_rfl) ?_
  refine r_alloc (b := dgB dz) (nid := 4) (H' := [dgB (dg1 1), dgB (dg1 2), dgB (dg1 3), dsB [(dg1 1), (dg1 2), (dg1 3)], dgB dz, hole, hole, hole, hole, hole, hole, hole]) rfl rfl (by kernel_rfl) (by kernel_rfl) ?_
  refine r_store (p := pt 4 0) (v := dgV (knotF kk (knotF kk (dg1 1) (dg1 2)) (dg1 3))) (b := 4) (blk := dgB (knotF kk (knotF kk (dg1 1) (dg1 2)) (dg1 3))) (H' := [dgB (dg1 1), dgB (dg1 2), dgB (dg1 3), dsB [(dg1 1), (dg1 2), (dg1 3)], dgB (knotF kk (knotF kk (dg1 1) (dg1 2)) (dg1 3)), hole, hole, hole, hole, hole, hole, hole]) rfl rfl rfl (by kernel_rfl) (by kernel_rfl) ?_
  refine r_doneN ?_
  refine x_then ?_
  refine c_seq ?_
  refine c_draw (by kernel_rfl) ?_
  refine r_load (p := pt 4 0) (v := dgV (knotF kk (knotF kk (dg1 1) (dg1 2)) (dg1 3))) rfl rfl rfl (by kernel_rfl) ?_
  refine r_load (p := pt 0 0) (v := dgV (dg1 1)) rfl rfl rfl (by kernel_rfl) ?_
  refine r_load (p := pt 1 0) (v := dgV (dg1 2)) rfl rfl rfl (by kernel_rfl) ?_
  refine r_load (p := pt 2 0) (v := dgV (dg1 3)) rfl rfl rfl (by kernel_rfl) ?_
  refine r_lit (vs := [(0, dgV (dg1 2)), (1, dgV (dg1 3))]) (v := slv 5 0 2 2) (blk := dsB [(dg1 2), (dg1 3)]) (nid := 5) (H' := [dgB (dg1 1), dgB (dg1 2), dgB (dg1 3), dsB [(dg1 1), (dg1 2), (dg1 3)], dgB (knotF kk (knotF kk (dg1 1) (dg1 2)) (dg1 3)), dsB [(dg1 2), (dg1 3)], hole, hole, hole, hole, hole, hole]) rfl rfl rfl (by kernel_rfl) (by kernel_rfl) ?_
  refine r_callN (e := [some (5, 0)]) (nid := 0) ((Included_ok (G := G) kk hG (knotF kk (knotF kk (dg1 1) (dg1 2)) (dg1 3)) (dg1 1) 3 0 [(dg1 2), (dg1 3)] 2 2 rfl (by decide) (by decide) (by decide) (by decide) (by decide) (by decide)).res (congrArg (Value.int .i64) (three_i1 kk))) (vals := [dgV (knotF kk (knotF kk (dg1 1) (dg1 2)) (dg1 3)), .int .i64 3, .int .i64 0, dgV (dg1 1), slv 5 0 2 2]) (v := .int .i64 0) (H' := [dgB (dg1 1), dgB (dg1 2), dgB (dg1 3), dsB [(dg1 1), (dg1 2), (dg1 3)], dgB (knotF kk (knotF kk (dg1 1) (dg1 2)) (dg1 3)), dsB [(dg1 2), (dg1 3)], hole, hole, hole, hole, hole, hole]) rfl rfl rfl rfl rfl rfl rfl ⟨⟨rfl, rfl, rfl, rfl, ⟨rfl, rfl, rfl, by omega, by omega⟩, trivial⟩, ⟨(emb_dsB rfl), trivial⟩, rfl, rfl, rfl⟩ rfl (by kernel_rfl) ?_
  refine r_bin (v := .bool true) (vx := .int .i64 0) (vy := .int .i64 0) rfl rfl rfl rfl (eql_t (by omega)) ?_
  refine r_move (v := .bool true) rfl rfl rfl ?_
  refine r_load (p := pt 4 0) (v := dgV (knotF kk (knotF kk (dg1 1) (dg1 2)) (dg1 3))) rfl rfl rfl (by kernel_rfl) ?_
  refine r_load (p := pt 2 0) (v := dgV (dg1 3)) rfl rfl rfl (by kernel_rfl) ?_
  refine r_load (p := pt 0 0) (v := dgV (dg1 1)) rfl rfl rfl (by kernel_rfl) ?_
  refine r_load (p := pt 1 0) (v := dgV (dg1 2)) rfl rfl rfl (by kernel_rfl) ?_
  refine r_callP (Knot_ok (G := G) kk hG (dg1 1) (dg1 2)) (vals := [dgV (dg1 1), dgV (dg1 2)]) (res' := dgV (knotF kk (dg1 1) (dg1 2))) rfl rfl rfl rfl rfl (by kernel_rfl) ?_
  refine r_lit (vs := [(0, dgV (knotF kk (dg1 1) (dg1 2)))]) (v := slv 6 0 1 1) (blk := dsB [(knotF kk (dg1 1) (dg1 2))]) (nid := 6) (H' := [dgB (dg1 1), dgB (dg1 2), dgB (dg1 3), dsB [(dg1 1), (dg1 2), (dg1 3)], dgB (knotF kk (knotF kk (dg1 1) (dg1 2)) (dg1 3)), dsB [(dg1 2), (dg1 3)], dsB [(knotF kk (dg1 1) (dg1 2))], hole, hole, hole, hole, hole]) rfl rfl rfl (by kernel_rfl) (by kernel_rfl) ?_
  refine r_callN (e := [some (6, 0)]) (nid := 0) ((Included_ok (G := G) kk hG (knotF kk (knotF kk (dg1 1) (dg1 2)) (dg1 3)) (dg1 3) 3 2 [(knotF kk (dg1 1) (dg1 2))] 1 1 rfl (by decide) (by decide) (by decide) (by decide) (by decide) (by decide)).res (congrArg (Value.int .i64) (three_i2 kk))) (vals := [dgV (knotF kk (knotF kk (dg1 1) (dg1 2)) (dg1 3)), .int .i64 3, .int .i64 2, dgV (dg1 3), slv 6 0 1 1]) (v := .int .i64 0) (H' := [dgB (dg1 1), dgB (dg1 2), dgB (dg1 3), dsB [(dg1 1), (dg1 2), (dg1 3)], dgB (knotF kk (knotF kk (dg1 1) (dg1 2)) (dg1 3)), dsB [(dg1 2), (dg1 3)], dsB [(knotF kk (dg1 1) (dg1 2))], hole, hole, hole, hole, hole]) rfl rfl rfl rfl rfl rfl rfl ⟨⟨rfl, rfl, rfl, rfl, ⟨rfl, rfl, rfl, by omega, by omega⟩, trivial⟩, ⟨(emb_dsB rfl), trivial⟩, rfl, rfl, rfl⟩ rfl (by kernel_rfl) ?_
  refine r_bin (v := .bool true) (vx := .int .i64 0) (vy := .int .i64 0) rfl rfl rfl rfl (eql_t (by omega)) ?_
  refine r_pick (v := .bool true) rfl rfl rfl ?_
  refine r_move (v := .bool true) rfl rfl rfl ?_
  refine r_load (p := pt 4 0) (v := dgV (knotF kk (knotF kk (dg1 1) (dg1 2)) (dg1 3))) rfl rfl rfl (by kernel_rfl) ?_
  refine r_load (p := pt 1 0) (v := dgV (dg1 2)) rfl rfl rfl (by kernel_rfl) ?_
  refine r_load (p := pt 1 0) (v := dgV (dg1 2)) rfl rfl rfl (by kernel_rfl) ?_
  refine r_load (p := pt 2 0) (v := dgV (dg1 3)) rfl rfl rfl (by kernel_rfl) ?_
  refine r_lit (vs := [(0, dgV (dg1 2)), (1, dgV (dg1 3))]) (v := slv 7 0 2 2) (blk := dsB [(dg1 2), (dg1 3)]) (nid := 7) (H' := [dgB (dg1 1), dgB (dg1 2), dgB (dg1 3), dsB [(dg1 1), (dg1 2), (dg1 3)], dgB (knotF kk (knotF kk (dg1 1) (dg1 2)) (dg1 3)), dsB [(dg1 2), (dg1 3)], dsB [(knotF kk (dg1 1) (dg1 2))], dsB [(dg1 2), (dg1 3)], hole, hole, hole, hole]) rfl rfl rfl (by kernel_rfl) (by kernel_rfl) ?_
  refine r_callN (e := [some (7, 0)]) (nid := 0) ((Included_ok (G := G) kk hG (knotF kk (knotF kk (dg1 1) (dg1 2)) (dg1 3)) (dg1 2) 3 0 [(dg1 2), (dg1 3)] 2 2 rfl (by decide) (by decide) (by decide) (by decide) (by decide) (by decide)).res (congrArg (Value.int .i64) (three_i3 hne))) (vals := [dgV (knotF kk (knotF kk (dg1 1) (dg1 2)) (dg1 3)), .int .i64 3, .int .i64 0, dgV (dg1 2), slv 7 0 2 2]) (v := .int .i64 41) (H' := [dgB (dg1 1), dgB (dg1 2), dgB (dg1 3), dsB [(dg1 1), (dg1 2), (dg1 3)], dgB (knotF kk (knotF kk (dg1 1) (dg1 2)) (dg1 3)), dsB [(dg1 2), (dg1 3)], dsB [(knotF kk (dg1 1) (dg1 2))], dsB [(dg1 2), (dg1 3)], hole, hole, hole, hole]) rfl rfl rfl rfl rfl rfl rfl ⟨⟨rfl, rfl, rfl, rfl, ⟨rfl, rfl, rfl, by omega, by omega⟩, trivial⟩, ⟨(emb_dsB rfl), trivial⟩, rfl, rfl, rfl⟩ rfl (by kernel_rfl) ?_
  refine r_bin (v := .bool true) (vx := .int .i64 41) (vy := .int .i64 41) rfl rfl rfl rfl (eql_t (by omega)) ?_
  refine r_pick (v := .bool true) rfl rfl rfl ?_
  refine r_move (v := .bool true) rfl rfl rfl ?_
  refine r_load (p := pt 4 0) (v := dgV (knotF kk (knotF kk (dg1 1) (dg1 2)) (dg1 3))) rfl rfl rfl (by kernel_rfl) ?_
  refine r_load (p := pt 0 0) (v := dgV (dg1 1)) rfl rfl rfl (by kernel_rfl) ?_
  refine r_load (p := pt 1 0) (v := dgV (dg1 2)) rfl rfl rfl (by kernel_rfl) ?_
  refine r_lit (vs := [(0, dgV (dg1 2))]) (v := slv 8 0 1 1) (blk := dsB [(dg1 2)]) (nid := 8) (H' := [dgB (dg1 1), dgB (dg1 2), dgB (dg1 3), dsB [(dg1 1), (dg1 2), (dg1 3)], dgB (knotF kk (knotF kk (dg1 1) (dg1 2)) (dg1 3)), dsB [(dg1 2), (dg1 3)], dsB [(knotF kk (dg1 1) (dg1 2))], dsB [(dg1 2), (dg1 3)], dsB [(dg1 2)], hole, hole, hole]) rfl rfl rfl (by kernel_rfl) (by kernel_rfl) ?_
  refine r_callN (e := [some (8, 0)]) (nid := 0) ((Included_ok (G := G) kk hG (knotF kk (knotF kk (dg1 1) (dg1 2)) (dg1 3)) (dg1 1) 3 0 [(dg1 2)] 1 1 rfl (by decide) (by decide) (by decide) (by decide) (by decide) (by decide)).res (congrArg (Value.int .i64) (three_i4 kk))) (vals := [dgV (knotF kk (knotF kk (dg1 1) (dg1 2)) (dg1 3)), .int .i64 3, .int .i64 0, dgV (dg1 1), slv 8 0 1 1]) (v := .int .i64 40) (H' := [dgB (dg1 1), dgB (dg1 2), dgB (dg1 3), dsB [(dg1 1), (dg1 2), (dg1 3)], dgB (knotF kk (knotF kk (dg1 1) (dg1 2)) (dg1 3)), dsB [(dg1 2), (dg1 3)], dsB [(knotF kk (dg1 1) (dg1 2))], dsB [(dg1 2), (dg1 3)], dsB [(dg1 2)], hole, hole, hole]) rfl rfl rfl rfl rfl rfl rfl ⟨⟨rfl, rfl, rfl, rfl, ⟨rfl, rfl, rfl, by omega, by omega⟩, trivial⟩, ⟨(emb_dsB rfl), trivial⟩, rfl, rfl, rfl⟩ rfl (by kernel_rfl) ?_
  refine r_bin (v := .bool true) (vx := .int .i64 40) (vy := .int .i64 40) rfl rfl rfl rfl (eql_t (by omega)) ?_
  refine r_pick (v := .bool true) rfl rfl rfl ?_
  refine r_assign (v := .bool true) rfl rfl rfl ?_
  refine r_doneD (by kernel_rfl) ?_
  refine x_then ?_
  refine c_seq ?_
  refine c_draw (by kernel_rfl) ?_
  refine r_load (p := pt 0 0) (v := dgV (dg1 1)) rfl rfl rfl (by kernel_rfl) ?_
  refine r_load (p := pt 4 0) (v := dgV (knotF kk (knotF kk (dg1 1) (dg1 2)) (dg1 3))) rfl rfl rfl (by kernel_rfl) ?_
  refine r_load (p := pt 1 0) (v := dgV (dg1 2)) rfl rfl rfl (by kernel_rfl) ?_
  refine r_load (p := pt 2 0) (v := dgV (dg1 3)) rfl rfl rfl (by kernel_rfl) ?_
  refine r_lit (vs := [(0, dgV (dg1 2)), (1, dgV (dg1 3))]) (v := slv 9 0 2 2) (blk := dsB [(dg1 2), (dg1 3)]) (nid := 9) (H' := [dgB (dg1 1), dgB (dg1 2), dgB (dg1 3), dsB [(dg1 1), (dg1 2), (dg1 3)], dgB (knotF kk (knotF kk (dg1 1) (dg1 2)) (dg1 3)), dsB [(dg1 2), (dg1 3)], dsB [(knotF kk (dg1 1) (dg1 2))], dsB [(dg1 2), (dg1 3)], dsB [(dg1 2)], dsB [(dg1 2), (dg1 3)], hole, hole]) rfl rfl rfl (by kernel_rfl) (by kernel_rfl) ?_
  refine r_callN (e := [some (9, 0)]) (nid := 0) ((Consistent_ok (G := G) kk hG 1 (dg1 1) 3 (knotF kk (knotF kk (dg1 1) (dg1 2)) (dg1 3)) [(dg1 2), (dg1 3)] 2 2 rfl (by decide) (by decide) (by decide) (by decide) (by decide) (by decide)).res (congrArg (Value.int .i64) (three_c1 kk))) (vals := [.int .i64 1, dgV (dg1 1), .int .i64 3, dgV (knotF kk (knotF kk (dg1 1) (dg1 2)) (dg1 3)), slv 9 0 2 2]) (v := .int .i64 0) (H' := [dgB (dg1 1), dgB (dg1 2), dgB (dg1 3), dsB [(dg1 1), (dg1 2), (dg1 3)], dgB (knotF kk (knotF kk (dg1 1) (dg1 2)) (dg1 3)), dsB [(dg1 2), (dg1 3)], dsB [(knotF kk (dg1 1) (dg1 2))], dsB [(dg1 2), (dg1 3)], dsB [(dg1 2)], dsB [(dg1 2), (dg1 3)], hole, hole]) rfl rfl rfl rfl rfl rfl rfl ⟨⟨rfl, rfl, rfl, rfl, ⟨rfl, rfl, rfl, by omega, by omega⟩, trivial⟩, ⟨(emb_dsB rfl), trivial⟩, rfl, rfl, rfl⟩ rfl (by kernel_rfl) ?_
  refine r_bin (v := .bool true) (vx := .int .i64 0) (vy := .int .i64 0) rfl rfl rfl rfl (eql_t (by omega)) ?_
  refine r_move (v := .bool true) rfl rfl rfl ?_
  refine r_callP (Empty_ok (G := G) kk hG) (vals := []) (res' := dgV (shaOf kk [])) rfl rfl rfl rfl rfl (by kernel_rfl) ?_
  refine r_load (p := pt 4 0) (v := dgV (knotF kk (knotF kk (dg1 1) (dg1 2)) (dg1 3))) rfl rfl rfl (by kernel_rfl) ?_
  refine r_callN (e := [none]) (nid := 0) ((Consistent_ok (G := G) kk hG 0 (shaOf kk []) 3 (knotF kk (knotF kk (dg1 1) (dg1 2)) (dg1 3)) [] 0 0 rfl (by decide) (by decide) (by decide) (by decide) (by decide) (by decide)).res (congrArg (Value.int .i64) (three_c2 kk))) (vals := [.int .i64 0, dgV (shaOf kk []), .int .i64 3, dgV (knotF kk (knotF kk (dg1 1) (dg1 2)) (dg1 3)), .slice none 0 0]) (v := .int .i64 0) (H' := [dgB (dg1 1), dgB (dg1 2), dgB (dg1 3), dsB [(dg1 1), (dg1 2), (dg1 3)], dgB (knotF kk (knotF kk (dg1 1) (dg1 2)) (dg1 3)), dsB [(dg1 2), (dg1 3)], dsB [(knotF kk (dg1 1) (dg1 2))], dsB [(dg1 2), (dg1 3)], dsB [(dg1 2)], dsB [(dg1 2), (dg1 3)], hole, hole]) rfl rfl rfl rfl rfl rfl rfl ⟨⟨rfl, rfl, rfl, rfl, ⟨rfl, rfl, rfl, rfl⟩, trivial⟩, ⟨⟨rfl, rfl, by show 0 < _; decide⟩, trivial⟩, rfl, rfl, rfl⟩ rfl (by kernel_rfl) ?_
  refine r_bin (v := .bool true) (vx := .int .i64 0) (vy := .int .i64 0) rfl rfl rfl rfl (eql_t (by omega)) ?_
  refine r_pick (v := .bool true) rfl rfl rfl ?_
  refine r_move (v := .bool true) rfl rfl rfl ?_
  refine r_load (p := pt 4 0) (v := dgV (knotF kk (knotF kk (dg1 1) (dg1 2)) (dg1 3))) rfl rfl rfl (by kernel_rfl) ?_
  refine r_load (p := pt 4 0) (v := dgV (knotF kk (knotF kk (dg1 1) (dg1 2)) (dg1 3))) rfl rfl rfl (by kernel_rfl) ?_
  refine r_callN (e := [none]) (nid := 0) ((Consistent_ok (G := G) kk hG 3 (knotF kk (knotF kk (dg1 1) (dg1 2)) (dg1 3)) 3 (knotF kk (knotF kk (dg1 1) (dg1 2)) (dg1 3)) [] 0 0 rfl (by decide) (by decide) (by decide) (by decide) (by decide) (by decide)).res (congrArg (Value.int .i64) (three_c3 kk))) (vals := [.int .i64 3, dgV (knotF kk (knotF kk (dg1 1) (dg1 2)) (dg1 3)), .int .i64 3, dgV (knotF kk (knotF kk (dg1 1) (dg1 2)) (dg1 3)), .slice none 0 0]) (v := .int .i64 0) (H' := [dgB (dg1 1), dgB (dg1 2), dgB (dg1 3), dsB [(dg1 1), (dg1 2), (dg1 3)], dgB (knotF kk (knotF kk (dg1 1) (dg1 2)) (dg1 3)), dsB [(dg1 2), (dg1 3)], dsB [(knotF kk (dg1 1) (dg1 2))], dsB [(dg1 2), (dg1 3)], dsB [(dg1 2)], dsB [(dg1 2), (dg1 3)], hole, hole]) rfl rfl rfl rfl rfl rfl rfl ⟨⟨rfl, rfl, rfl, rfl, ⟨rfl, rfl, rfl, rfl⟩, trivial⟩, ⟨⟨rfl, rfl, by show 0 < _; decide⟩, trivial⟩, rfl, rfl, rfl⟩ rfl (by kernel_rfl) ?_
  refine r_bin (v := .bool true) (vx := .int .i64 0) (vy := .int .i64 0) rfl rfl rfl rfl (eql_t (by omega)) ?_
  refine r_pick (v := .bool true) rfl rfl rfl ?_
  refine r_move (v := .bool true) rfl rfl rfl ?_
  refine r_load (p := pt 4 0) (v := dgV (knotF kk (knotF kk (dg1 1) (dg1 2)) (dg1 3))) rfl rfl rfl (by kernel_rfl) ?_
  refine r_load (p := pt 4 0) (v := dgV (knotF kk (knotF kk (dg1 1) (dg1 2)) (dg1 3))) rfl rfl rfl (by kernel_rfl) ?_
  refine r_callN (e := [none]) (nid := 0) ((Consistent_ok (G := G) kk hG 2 (knotF kk (knotF kk (dg1 1) (dg1 2)) (dg1 3)) 1 (knotF kk (knotF kk (dg1 1) (dg1 2)) (dg1 3)) [] 0 0 rfl (by decide) (by decide) (by decide) (by decide) (by decide) (by decide)).res (congrArg (Value.int .i64) (three_c4 kk))) (vals := [.int .i64 2, dgV (knotF kk (knotF kk (dg1 1) (dg1 2)) (dg1 3)), .int .i64 1, dgV (knotF kk (knotF kk (dg1 1) (dg1 2)) (dg1 3)), .slice none 0 0]) (v := .int .i64 40) (H' := [dgB (dg1 1), dgB (dg1 2), dgB (dg1 3), dsB [(dg1 1), (dg1 2), (dg1 3)], dgB (knotF kk (knotF kk (dg1 1) (dg1 2)) (dg1 3)), dsB [(dg1 2), (dg1 3)], dsB [(knotF kk (dg1 1) (dg1 2))], dsB [(dg1 2), (dg1 3)], dsB [(dg1 2)], dsB [(dg1 2), (dg1 3)], hole, hole]) rfl rfl rfl rfl rfl rfl rfl ⟨⟨rfl, rfl, rfl, rfl, ⟨rfl, rfl, rfl, rfl⟩, trivial⟩, ⟨⟨rfl, rfl, by show 0 < _; decide⟩, trivial⟩, rfl, rfl, rfl⟩ rfl (by kernel_rfl) ?_
  refine r_bin (v := .bool true) (vx := .int .i64 40) (vy := .int .i64 40) rfl rfl rfl rfl (eql_t (by omega)) ?_
  refine r_pick (v := .bool true) rfl rfl rfl ?_
  refine r_assign (v := .bool true) rfl rfl rfl ?_
  refine r_doneD (by kernel_rfl) ?_
  refine x_then ?_
  refine c_seq ?_
  refine c_reg ?_
  refine r_load (p := pt 4 0) (v := dgV (knotF kk (knotF kk (dg1 1) (dg1 2)) (dg1 3))) rfl rfl rfl (by kernel_rfl) ?_
  refine r_load (p := pt 0 0) (v := dgV (dg1 1)) rfl rfl rfl (by kernel_rfl) ?_
  refine r_load (p := pt 1 0) (v := dgV (dg1 2)) rfl rfl rfl (by kernel_rfl) ?_
  refine r_load (p := pt 2 0) (v := dgV (dg1 3)) rfl rfl rfl (by kernel_rfl) ?_
  refine r_lit (vs := [(0, dgV (dg1 2)), (1, dgV (dg1 3))]) (v := slv 10 0 2 2) (blk := dsB [(dg1 2), (dg1 3)]) (nid := 10) (H' := [dgB (dg1 1), dgB (dg1 2), dgB (dg1 3), dsB [(dg1 1), (dg1 2), (dg1 3)], dgB (knotF kk (knotF kk (dg1 1) (dg1 2)) (dg1 3)), dsB [(dg1 2), (dg1 3)], dsB [(knotF kk (dg1 1) (dg1 2))], dsB [(dg1 2), (dg1 3)], dsB [(dg1 2)], dsB [(dg1 2), (dg1 3)], dsB [(dg1 2), (dg1 3)], hole]) rfl rfl rfl (by kernel_rfl) (by kernel_rfl) ?_
  refine r_load (p := pt 0 0) (v := dgV (dg1 1)) rfl rfl rfl (by kernel_rfl) ?_
  refine r_load (p := pt 1 0) (v := dgV (dg1 2)) rfl rfl rfl (by kernel_rfl) ?_
  refine r_load (p := pt 2 0) (v := dgV (dg1 3)) rfl rfl rfl (by kernel_rfl) ?_
  refine r_lit (vs := [(0, dgV (dg1 2)), (1, dgV (dg1 3))]) (v := slv 11 0 2 2) (blk := dsB [(dg1 2), (dg1 3)]) (nid := 11) (H' := [dgB (dg1 1), dgB (dg1 2), dgB (dg1 3), dsB [(dg1 1), (dg1 2), (dg1 3)], dgB (knotF kk (knotF kk (dg1 1) (dg1 2)) (dg1 3)), dsB [(dg1 2), (dg1 3)], dsB [(knotF kk (dg1 1) (dg1 2))], dsB [(dg1 2), (dg1 3)], dsB [(dg1 2)], dsB [(dg1 2), (dg1 3)], dsB [(dg1 2), (dg1 3)], dsB [(dg1 2), (dg1 3)]]) rfl rfl rfl (by kernel_rfl) (by kernel_rfl) ?_
  refine r_callN (e := [some (10, 0), some (11, 0)]) (nid := 0) ((Clash_ok (G := G) kk hG (knotF kk (knotF kk (dg1 1) (dg1 2)) (dg1 3)) 3 0 (dg1 1) [(dg1 2), (dg1 3)] (dg1 1) [(dg1 2), (dg1 3)] 2 2 2 2 rfl rfl (by decide) (by decide) (by decide) (by decide) (by decide) (by decide) (by decide) (by decide)).res (congrArg clashV (three_k kk))) (vals := [dgV (knotF kk (knotF kk (dg1 1) (dg1 2)) (dg1 3)), .int .i64 3, .int .i64 0, dgV (dg1 1), slv 10 0 2 2, dgV (dg1 1), slv 11 0 2 2]) (v := .tuple #[.string ⟨#[]⟩, .string ⟨#[]⟩, .bool false]) (H' := [dgB (dg1 1), dgB (dg1 2), dgB (dg1 3), dsB [(dg1 1), (dg1 2), (dg1 3)], dgB (knotF kk (knotF kk (dg1 1) (dg1 2)) (dg1 3)), dsB [(dg1 2), (dg1 3)], dsB [(knotF kk (dg1 1) (dg1 2))], dsB [(dg1 2), (dg1 3)], dsB [(dg1 2)], dsB [(dg1 2), (dg1 3)], dsB [(dg1 2), (dg1 3)], dsB [(dg1 2), (dg1 3)]]) rfl rfl rfl rfl rfl rfl rfl ⟨⟨rfl, rfl, rfl, rfl, ⟨rfl, rfl, rfl, by omega, by omega⟩, rfl, ⟨rfl, rfl, rfl, by omega, by omega⟩, trivial⟩, ⟨(emb_dsB rfl), (emb_dsB rfl), trivial⟩, rfl, rfl, rfl⟩ (by kernel_rfl) (by kernel_rfl) ?_
  refine r_move (v := .tuple #[.string ⟨#[]⟩, .string ⟨#[]⟩, .bool false]) rfl rfl rfl ?_
  refine r_extract (vs := #[.string ⟨#[]⟩, .string ⟨#[]⟩, .bool false]) (v := .string ⟨#[]⟩) rfl rfl rfl rfl ?_
  refine r_extract (vs := #[.string ⟨#[]⟩, .string ⟨#[]⟩, .bool false]) (v := .string ⟨#[]⟩) rfl rfl rfl rfl ?_
  refine r_extract (vs := #[.string ⟨#[]⟩, .string ⟨#[]⟩, .bool false]) (v := .bool false) rfl rfl rfl rfl ?_
  refine r_assign (v := .string ⟨#[]⟩) rfl rfl rfl ?_
  refine r_assign (v := .string ⟨#[]⟩) rfl rfl rfl ?_
  refine r_assign (v := .bool false) rfl rfl rfl ?_
  refine r_doneN ?_
  refine x_then ?_
  refine c_seq ?_
  refine c_reg ?_
  refine r_move (v := .bool true) rfl rfl rfl ?_
  refine r_move (v := .bool true) rfl rfl rfl ?_
  refine r_move (v := .bool true) rfl rfl rfl ?_
  refine r_pick (v := .bool true) rfl rfl rfl ?_
  refine r_move (v := .bool true) rfl rfl rfl ?_
  refine r_move (v := .bool false) rfl rfl rfl ?_
  refine r_un (v := .bool true) (vx := .bool false) rfl rfl rfl un_not ?_
  refine r_pick (v := .bool true) rfl rfl rfl ?_
  refine r_assign (v := .bool true) rfl rfl rfl ?_
  refine r_doneN ?_
  refine x_then ?_
  refine c_ret ?_
  refine x_end ?_
  exact end_pv (v := .bool true) rfl rfl rfl
end Go.Flat
