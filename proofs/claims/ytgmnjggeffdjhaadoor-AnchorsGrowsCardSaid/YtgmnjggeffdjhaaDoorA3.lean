/- Walks and plain laws: what each theorem says, within the bounds that it names. -/
import Derived.Test.YtgmnjggeffdjhaaDoorA2
set_option linter.unusedVariables false
set_option linter.unusedSimpArgs false
set_option maxRecDepth 20000
namespace Go.Flat
open Go.Proofs
variable {G : Glob}
theorem signR_p {kk : Nat → BitVec 32} {m : D} {h : Head} {n : Int} (q : rightH h ∧ 1 ≤ n ∧ n ≤ 3) : signR kk m h n = (⟨h, n, tagT kk m h n⟩, 0) := if_pos q
def sgH (kk : Nat → BitVec 32) (ep : Int) : Head := ⟨2, ep, 0, shaOf kk [], 0⟩
def sg (kk : Nat → BitVec 32) (ep : Int) : Signed := ⟨sgH kk ep, 1, tagT kk dz (sgH kk ep) 1⟩
theorem sgH_right (kk : Nat → BitVec 32) {ep : Int} (h1 : 1 ≤ ep) (h2 : ep ≤ 900000000) : rightH (sgH kk ep) := by
  show (1 ≤ (2 : Int) ∧ (2 : Int) ≤ 5) ∧ (1 ≤ ep ∧ ep ≤ 900000000) ∧ (0 ≤ (0 : Int) ∧ (0 : Int) ≤ 100000) ∧ (0 ≤ (0 : Int) ∧ (0 : Int) ≤ 900000000)
  omega
theorem sg_sign (kk : Nat → BitVec 32) {ep : Int} (h1 : 1 ≤ ep) (h2 : ep ≤ 900000000) : (signR kk dz ⟨2, ep, 0, shaOf kk [], 0⟩ 1).1 = sg kk ep := by
  rw [signR_p (h := ⟨2, ep, 0, shaOf kk [], 0⟩) ⟨sgH_right kk h1 h2, by omega, by omega⟩]; rfl
theorem sg_ver (kk : Nat → BitVec 32) {ep : Int} (h1 : 1 ≤ ep) (h2 : ep ≤ 900000000) : verifyR kk dz (sg kk ep) = 0 := by
  unfold verifyR
  rw [if_pos (show mayS (sg kk ep) from ⟨sgH_right kk h1 h2, by show (1 : Int) ≤ 1; omega, by show (1 : Int) ≤ 3; omega⟩)]
  exact if_pos (sameB_refl 32 _)
def anI (ep : Int) (s : Signed) : Item := ⟨ep, ⟨2, 0, 0, ⟨#[]⟩, s, ⟨0, 0, 0, 0, dz⟩⟩⟩
theorem anI_right {ep : Int} {s : Signed} (h1 : 1 ≤ ep) (h2 : ep ≤ 900000000) (hs : mayS s) : rightI (anI ep s) := ⟨h1, h2, .inr (.inl ⟨rfl, rfl, rfl, rfl, hs, eqClaim_refl _⟩)⟩
theorem goes_0 (kk : Nat → BitVec 32) : goesE kk 0 (shaOf kk []) 0 (shaOf kk []) [] = 0 := by
  unfold goesE
  rw [if_neg (by simp), if_pos rfl, if_neg (by rw [sameB_refl]; simp)]
theorem adm_0 (kk : Nat → BitVec 32) : admE kk dz [] (sg kk 1) 0 [] = 0 := by
  unfold admE
  rw [if_neg (by show ¬ (chkL [] ≠ 0); exact fun q => q (if_pos ⟨Nat.zero_le _, rfl⟩)), if_neg (by rw [sg_ver kk (by omega) (by omega)]; simp)]
  rw [show latL [] (sg kk 1).head.region = (⟨⟨0, 0, 0, dz, 0⟩, 0, dz⟩, false) from rfl]
  rw [show (sg kk 1).head.size = 0 from rfl, show (sg kk 1).head.root = shaOf kk [] from rfl, show (sg kk 1).head.epoch = 1 from rfl]
  simp [goes_0]
theorem adm_1 (kk : Nat → BitVec 32) : admE kk dz [] (sg kk 1) 1 [] = 122 := by
  unfold admE
  rw [if_neg (by show ¬ (chkL [] ≠ 0); exact fun q => q (if_pos ⟨Nat.zero_le _, rfl⟩)), if_neg (by rw [sg_ver kk (by omega) (by omega)]; simp)]
  rw [show latL [] (sg kk 1).head.region = (⟨⟨0, 0, 0, dz, 0⟩, 0, dz⟩, false) from rfl]
  rw [show (sg kk 1).head.size = 0 from rfl, show (sg kk 1).head.epoch = 1 from rfl]
  simp
theorem adm_2 (kk : Nat → BitVec 32) : admE kk dz [anI 1 (sg kk 2)] (sg kk 1) 0 [] = 122 := by
  have hr : rightL [anI 1 (sg kk 2)] := ⟨by show 1 ≤ 2000; omega, by
    show (decide (rightI (anI 1 (sg kk 2))) && decide ((0 : Int) ≤ 1) && true) = true
    rw [decide_eq_true (anI_right (by omega) (by omega) (verify_may (sg_ver kk (by omega) (by omega))))]; rfl⟩
  unfold admE
  rw [if_neg (by show ¬ (chkL _ ≠ 0); exact fun q => q (if_pos hr)), if_neg (by rw [sg_ver kk (by omega) (by omega)]; simp)]
  rw [show latL [anI 1 (sg kk 2)] (sg kk 1).head.region = (sg kk 2, true) from by kernel_rfl]
  rw [show (sg kk 2).head.epoch = 2 from rfl, show (sg kk 1).head.epoch = 1 from rfl]
  simp
theorem apE_self (kk : Nat → BitVec 32) (m : D) (a : Signed) : apE kk m a a = false := by simp [apE, sameB_refl]
theorem bigB_len {l : List Item} (h : bigB l = false) : l.length ≤ 60 := by
  unfold bigB at h
  rw [Bool.or_eq_false_iff] at h
  have := of_decide_eq_false h.1; omega
theorem lat_c (l : List Item) (n c : Nat) (hn : l.length = n) (hc : n ≤ c) (hb : n ≤ 1048576) (region : Int) {s : Signed} {b : Bool} (h : latL l region = (s, b)) : CallL Tryd.prog G 11 [slv 0 0 n c, .int .i64 region] [rwR cItem l] (.tuple #[signedV s, .bool b]) [rwR cItem l] := by
  have q := Latest_ok (G := G) l n c hn hc hb region
  rw [h] at q; exact q
theorem pl_c (l : List Item) (n c : Nat) (hn : l.length = n) (hc : n ≤ c) (hb : n ≤ 1048576) (region size : Int) {i : Int} {b : Bool} (h : plL l region size = (i, b)) : CallL Tryd.prog G 13 [slv 0 0 n c, .int .i64 region, .int .i64 size] [rwR cItem l] (.tuple #[.int .i64 i, .bool b]) [rwR cItem l] := by
  have q := Place_ok (G := G) l n c hn hc hb region size
  rw [h] at q; exact q
theorem adm_c (kk : Nat → BitVec 32) (hG : G 1 = some (rowE w32 64 kk)) (master : D) (l : List Item) (n c : Nat) (hn : l.length = n) (hc : n ≤ c) (hb : n ≤ 1048576) (s : Signed) (m : Int) (ds : List D) (p d : Nat) (hp : ds.length = p) (hd : p ≤ d) (hb2 : p ≤ 1000) (hm1 : -9223372036854775808 ≤ m) (hm2 : m ≤ 9223372036854775807) {z : Int} (h : admE kk master l s m ds = z) : CallL Tryd.prog G 18 [dgV master, slv 0 0 n c, signedV s, .int .i64 m, slv 1 0 p d] [rwR cItem l, dsR ds] (.int .i64 z) [rwR cItem l, dsR ds] := by
  have q := Admit_ok (G := G) kk hG master l n c hn hc hb s m ds p d hp hd hb2 hm1 hm2
  rw [h] at q; exact q
theorem signed_ok (kk : Nat → BitVec 32) (hG : G 1 = some (rowE w32 64 kk)) (ep : Int) (h1 : 1 ≤ ep) (h2 : ep ≤ 900000000) : CallL Tryd.prog G 34 [.int .i64 ep] [] (signedV (sg kk ep)) [] := by
  refine walk (fn := Tryd.f34) (nt := 14) rfl rfl rfl rfl ?_
  refine c_hole 2 (H' := [hole, hole]) rfl ?_
  refine c_seq (c_reg ?_)
  refine r_alloc (b := bxB 69 (signedC (⟨(⟨0, 0, 0, dz, 0⟩ : Head), 0, dz⟩ : Signed))) (nid := 0) (H' := [bxB 69 (signedC (⟨(⟨0, 0, 0, dz, 0⟩ : Head), 0, dz⟩ : Signed)), hole]) rfl rfl (by kernel_rfl) (by kernel_rfl) ?_
  refine r_doneN (x_then (c_seq (c_reg ?_)))
  refine r_build (vs := []) (v := dgV dz) rfl rfl rfl (by kernel_rfl) ?_
  refine r_move (v := .int .i64 ep) rfl rfl rfl ?_
  refine r_callP (Empty_ok (G := G) kk hG) (vals := []) (res' := dgV (shaOf kk [])) rfl rfl rfl rfl rfl (by kernel_rfl) ?_
  refine r_build (vs := [(0, .int .i64 2), (1, .int .i64 ep), (3, dgV (shaOf kk []))]) (v := headV (⟨2, ep, 0, (shaOf kk []), 0⟩ : Head)) rfl rfl rfl (by kernel_rfl) ?_
  refine r_callP (Sign_ok' (G := G) kk hG dz (⟨2, ep, 0, (shaOf kk []), 0⟩ : Head) 1) (vals := [dgV dz, headV (⟨2, ep, 0, (shaOf kk []), 0⟩ : Head), .int .i64 1]) (res' := .tuple #[signedV ((signR kk dz (⟨2, ep, 0, (shaOf kk []), 0⟩ : Head) 1).1), .int .i64 (((signR kk dz (⟨2, ep, 0, (shaOf kk []), 0⟩ : Head) 1).2))]) rfl rfl rfl rfl rfl (by kernel_rfl) ?_
  refine r_move (v := .tuple #[signedV ((signR kk dz (⟨2, ep, 0, (shaOf kk []), 0⟩ : Head) 1).1), .int .i64 (((signR kk dz (⟨2, ep, 0, (shaOf kk []), 0⟩ : Head) 1).2))]) rfl rfl rfl ?_
  refine r_extract (vs := #[signedV ((signR kk dz (⟨2, ep, 0, (shaOf kk []), 0⟩ : Head) 1).1), .int .i64 (((signR kk dz (⟨2, ep, 0, (shaOf kk []), 0⟩ : Head) 1).2))]) (v := signedV ((signR kk dz (⟨2, ep, 0, (shaOf kk []), 0⟩ : Head) 1).1)) rfl rfl rfl rfl ?_
  refine r_extract (vs := #[signedV ((signR kk dz (⟨2, ep, 0, (shaOf kk []), 0⟩ : Head) 1).1), .int .i64 (((signR kk dz (⟨2, ep, 0, (shaOf kk []), 0⟩ : Head) 1).2))]) (v := .int .i64 (((signR kk dz (⟨2, ep, 0, (shaOf kk []), 0⟩ : Head) 1).2))) rfl rfl rfl rfl ?_
  refine r_alloc (b := bxB 69 (signedC (⟨(⟨0, 0, 0, dz, 0⟩ : Head), 0, dz⟩ : Signed))) (nid := 1) (H' := [bxB 69 (signedC (⟨(⟨0, 0, 0, dz, 0⟩ : Head), 0, dz⟩ : Signed)), bxB 69 (signedC (⟨(⟨0, 0, 0, dz, 0⟩ : Head), 0, dz⟩ : Signed))]) rfl rfl (by kernel_rfl) (by kernel_rfl) ?_
  refine r_store (p := pt 1 0) (v := signedV ((signR kk dz (⟨2, ep, 0, (shaOf kk []), 0⟩ : Head) 1).1)) (b := 1) (blk := bxB 69 (signedC ((signR kk dz (⟨2, ep, 0, (shaOf kk []), 0⟩ : Head) 1).1))) (H' := [bxB 69 (signedC (⟨(⟨0, 0, 0, dz, 0⟩ : Head), 0, dz⟩ : Signed)), bxB 69 (signedC ((signR kk dz (⟨2, ep, 0, (shaOf kk []), 0⟩ : Head) 1).1))]) rfl rfl rfl (by kernel_rfl) (by kernel_rfl) ?_
  refine r_assign (v := .int .i64 (((signR kk dz (⟨2, ep, 0, (shaOf kk []), 0⟩ : Head) 1).2))) rfl rfl rfl ?_
  refine r_doneN (x_then (c_seq (c_reg ?_)))
  refine r_load (p := pt 1 0) (v := signedV ((signR kk dz (⟨2, ep, 0, (shaOf kk []), 0⟩ : Head) 1).1)) rfl rfl rfl (by kernel_rfl) ?_
  refine r_store (p := pt 0 0) (v := signedV ((signR kk dz (⟨2, ep, 0, (shaOf kk []), 0⟩ : Head) 1).1)) (b := 0) (blk := bxB 69 (signedC ((signR kk dz (⟨2, ep, 0, (shaOf kk []), 0⟩ : Head) 1).1))) (H' := [bxB 69 (signedC ((signR kk dz (⟨2, ep, 0, (shaOf kk []), 0⟩ : Head) 1).1)), bxB 69 (signedC ((signR kk dz (⟨2, ep, 0, (shaOf kk []), 0⟩ : Head) 1).1))]) rfl rfl rfl (by kernel_rfl) (by kernel_rfl) ?_
  refine r_doneN (x_then (c_ret (x_end ?_)))
  rw [← sg_sign kk h1 h2]
  exact end_same (v := signedV ((signR kk dz (⟨2, ep, 0, (shaOf kk []), 0⟩ : Head) 1).1)) (by kernel_rfl) rfl rfl (by kernel_rfl) (argV_pure (by kernel_rfl) rfl)
theorem item_ok (ep : Int) (s : Signed) : CallL Tryd.prog G 24 [.int .i64 ep, signedV s] [] (itemV (anI ep s)) [] := by
  refine walk (fn := Tryd.f24) (nt := 9) rfl rfl rfl rfl ?_
  refine c_hole 2 (H' := [hole, hole]) rfl ?_
  refine c_seq (c_reg ?_)
  refine r_box (v := signedV s) (b := bxB 69 (signedC s)) (nid := 0) (H' := [bxB 69 (signedC s), hole]) rfl rfl rfl (by kernel_rfl) (by kernel_rfl) ?_
  refine r_alloc (b := bxB 110 (itemC (⟨0, (⟨0, 0, 0, ⟨#[]⟩, (⟨(⟨0, 0, 0, dz, 0⟩ : Head), 0, dz⟩ : Signed), (⟨0, 0, 0, 0, dz⟩ : Claim)⟩ : Entry)⟩ : Item))) (nid := 1) (H' := [bxB 69 (signedC s), bxB 110 (itemC (⟨0, (⟨0, 0, 0, ⟨#[]⟩, (⟨(⟨0, 0, 0, dz, 0⟩ : Head), 0, dz⟩ : Signed), (⟨0, 0, 0, 0, dz⟩ : Claim)⟩ : Entry)⟩ : Item))]) rfl rfl (by kernel_rfl) (by kernel_rfl) ?_
  refine r_doneN (x_then (c_seq (c_reg ?_)))
  refine r_move (v := .int .i64 ep) rfl rfl rfl ?_
  refine r_load (p := pt 0 0) (v := signedV s) rfl rfl rfl (by kernel_rfl) ?_
  refine r_build (vs := [(0, .int .i64 2), (4, signedV s)]) (v := entV (⟨2, 0, 0, ⟨#[]⟩, s, (⟨0, 0, 0, 0, dz⟩ : Claim)⟩ : Entry)) rfl rfl rfl (by kernel_rfl) ?_
  refine r_build (vs := [(0, .int .i64 ep), (1, entV (⟨2, 0, 0, ⟨#[]⟩, s, (⟨0, 0, 0, 0, dz⟩ : Claim)⟩ : Entry))]) (v := itemV (⟨ep, (⟨2, 0, 0, ⟨#[]⟩, s, (⟨0, 0, 0, 0, dz⟩ : Claim)⟩ : Entry)⟩ : Item)) rfl rfl rfl (by kernel_rfl) ?_
  refine r_store (p := pt 1 0) (v := itemV (⟨ep, (⟨2, 0, 0, ⟨#[]⟩, s, (⟨0, 0, 0, 0, dz⟩ : Claim)⟩ : Entry)⟩ : Item)) (b := 1) (blk := bxB 110 (itemC (⟨ep, (⟨2, 0, 0, ⟨#[]⟩, s, (⟨0, 0, 0, 0, dz⟩ : Claim)⟩ : Entry)⟩ : Item))) (H' := [bxB 69 (signedC s), bxB 110 (itemC (⟨ep, (⟨2, 0, 0, ⟨#[]⟩, s, (⟨0, 0, 0, 0, dz⟩ : Claim)⟩ : Entry)⟩ : Item))]) rfl rfl rfl (by kernel_rfl) (by kernel_rfl) ?_
  refine r_doneN (x_then (c_ret (x_end ?_)))
  exact end_same (v := itemV (⟨ep, (⟨2, 0, 0, ⟨#[]⟩, s, (⟨0, 0, 0, 0, dz⟩ : Claim)⟩ : Entry)⟩ : Item)) (by kernel_rfl) rfl rfl (by kernel_rfl) (argV_pure (by kernel_rfl) rfl)
theorem admits_ok (kk : Nat → BitVec 32) (hG : G 1 = some (rowE w32 64 kk))  : CallL Tryd.prog G 15 [] [] (.bool true) [] := by
  refine walk (fn := Tryd.f15) (nt := 70) rfl rfl rfl rfl ?_
  refine c_hole 5 (H' := [hole, hole, hole, hole, hole]) rfl ?_
  refine c_seq (c_reg ?_)
  refine r_assign (v := .bool false) rfl rfl rfl ?_
  refine r_doneN (x_then (c_seq (c_reg ?_)))
  refine r_callP (signed_ok (G := G) kk hG 1 (by omega) (by omega)) (vals := [.int .i64 1]) (res' := signedV (sg kk 1)) rfl rfl rfl rfl rfl (by kernel_rfl) ?_
  refine r_alloc (b := bxB 69 (signedC (⟨(⟨0, 0, 0, dz, 0⟩ : Head), 0, dz⟩ : Signed))) (nid := 0) (H' := [bxB 69 (signedC (⟨(⟨0, 0, 0, dz, 0⟩ : Head), 0, dz⟩ : Signed)), hole, hole, hole, hole]) rfl rfl (by kernel_rfl) (by kernel_rfl) ?_
  refine r_store (p := pt 0 0) (v := signedV (sg kk 1)) (b := 0) (blk := bxB 69 (signedC (sg kk 1))) (H' := [bxB 69 (signedC (sg kk 1)), hole, hole, hole, hole]) rfl rfl rfl (by kernel_rfl) (by kernel_rfl) ?_
  refine r_doneN (x_then (c_seq (c_reg ?_)))
  refine r_load (p := pt 0 0) (v := signedV (sg kk 1)) rfl rfl rfl (by kernel_rfl) ?_
  refine r_callP (item_ok (G := G) 1 (sg kk 1)) (vals := [.int .i64 1, signedV (sg kk 1)]) (res' := itemV (anI 1 (sg kk 1))) rfl rfl rfl rfl rfl (by kernel_rfl) ?_
  refine r_lit (vs := [(0, itemV (anI 1 (sg kk 1)))]) (v := slv 1 0 1 1) (blk := rwB cItem [(anI 1 (sg kk 1))]) (nid := 1) (H' := [bxB 69 (signedC (sg kk 1)), rwB cItem [(anI 1 (sg kk 1))], hole, hole, hole]) rfl rfl rfl (by kernel_rfl) (by kernel_rfl) ?_
  refine r_assign (v := slv 1 0 1 1) rfl rfl rfl ?_
  refine r_doneN (x_then (c_seq (c_reg ?_)))
  refine r_move (v := slv 1 0 1 1) rfl rfl rfl ?_
  refine r_callN (e := [some (1, 0)]) (nid := 0) (lat_c (G := G) [(anI 1 (sg kk 1))] 1 1 (rfl : _ = 1) (by omega) (by omega) 2 (show latL [(anI 1 (sg kk 1))] 2 = ((sg kk 1), true) from by kernel_rfl)) (vals := [slv 1 0 1 1, .int .i64 2]) (v := .tuple #[signedV (sg kk 1), .bool true]) (H' := [bxB 69 (signedC (sg kk 1)), rwB cItem [(anI 1 (sg kk 1))], hole, hole, hole]) rfl rfl rfl rfl rfl rfl rfl ⟨⟨⟨rfl, rfl, rfl, by first | omega | exact Nat.le_refl _, by first | omega | exact Nat.le_refl _⟩, rfl, trivial⟩, ⟨(emb_rwB rfl), trivial⟩, rfl, rfl, rfl⟩ (by kernel_rfl) (by kernel_rfl) ?_
  refine r_move (v := .tuple #[signedV (sg kk 1), .bool true]) rfl rfl rfl ?_
  refine r_extract (vs := #[signedV (sg kk 1), .bool true]) (v := signedV (sg kk 1)) rfl rfl rfl rfl ?_
  refine r_extract (vs := #[signedV (sg kk 1), .bool true]) (v := .bool true) rfl rfl rfl rfl ?_
  refine r_alloc (b := bxB 69 (signedC (⟨(⟨0, 0, 0, dz, 0⟩ : Head), 0, dz⟩ : Signed))) (nid := 2) (H' := [bxB 69 (signedC (sg kk 1)), rwB cItem [(anI 1 (sg kk 1))], bxB 69 (signedC (⟨(⟨0, 0, 0, dz, 0⟩ : Head), 0, dz⟩ : Signed)), hole, hole]) rfl rfl (by kernel_rfl) (by kernel_rfl) ?_
  refine r_store (p := pt 2 0) (v := signedV (sg kk 1)) (b := 2) (blk := bxB 69 (signedC (sg kk 1))) (H' := [bxB 69 (signedC (sg kk 1)), rwB cItem [(anI 1 (sg kk 1))], bxB 69 (signedC (sg kk 1)), hole, hole]) rfl rfl rfl (by kernel_rfl) (by kernel_rfl) ?_
  refine r_assign (v := .bool true) rfl rfl rfl ?_
  refine r_doneN (x_then (c_seq (c_reg ?_)))
  refine r_move (v := slv 1 0 1 1) rfl rfl rfl ?_
  refine r_callN (e := [some (1, 0)]) (nid := 0) (lat_c (G := G) [(anI 1 (sg kk 1))] 1 1 (rfl : _ = 1) (by omega) (by omega) 3 (show latL [(anI 1 (sg kk 1))] 3 = (⟨⟨0, 0, 0, dz, 0⟩, 0, dz⟩, false) from by kernel_rfl)) (vals := [slv 1 0 1 1, .int .i64 3]) (v := .tuple #[signedV (⟨(⟨0, 0, 0, dz, 0⟩ : Head), 0, dz⟩ : Signed), .bool false]) (H' := [bxB 69 (signedC (sg kk 1)), rwB cItem [(anI 1 (sg kk 1))], bxB 69 (signedC (sg kk 1)), hole, hole]) rfl rfl rfl rfl rfl rfl rfl ⟨⟨⟨rfl, rfl, rfl, by first | omega | exact Nat.le_refl _, by first | omega | exact Nat.le_refl _⟩, rfl, trivial⟩, ⟨(emb_rwB rfl), trivial⟩, rfl, rfl, rfl⟩ (by kernel_rfl) (by kernel_rfl) ?_
  refine r_move (v := .tuple #[signedV (⟨(⟨0, 0, 0, dz, 0⟩ : Head), 0, dz⟩ : Signed), .bool false]) rfl rfl rfl ?_
  refine r_extract (vs := #[signedV (⟨(⟨0, 0, 0, dz, 0⟩ : Head), 0, dz⟩ : Signed), .bool false]) (v := signedV (⟨(⟨0, 0, 0, dz, 0⟩ : Head), 0, dz⟩ : Signed)) rfl rfl rfl rfl ?_
  refine r_extract (vs := #[signedV (⟨(⟨0, 0, 0, dz, 0⟩ : Head), 0, dz⟩ : Signed), .bool false]) (v := .bool false) rfl rfl rfl rfl ?_
  refine r_alloc (b := bxB 69 (signedC (⟨(⟨0, 0, 0, dz, 0⟩ : Head), 0, dz⟩ : Signed))) (nid := 3) (H' := [bxB 69 (signedC (sg kk 1)), rwB cItem [(anI 1 (sg kk 1))], bxB 69 (signedC (sg kk 1)), bxB 69 (signedC (⟨(⟨0, 0, 0, dz, 0⟩ : Head), 0, dz⟩ : Signed)), hole]) rfl rfl (by kernel_rfl) (by kernel_rfl) ?_
  refine r_store (p := pt 3 0) (v := signedV (⟨(⟨0, 0, 0, dz, 0⟩ : Head), 0, dz⟩ : Signed)) (b := 3) (blk := bxB 69 (signedC (⟨(⟨0, 0, 0, dz, 0⟩ : Head), 0, dz⟩ : Signed))) (H' := [bxB 69 (signedC (sg kk 1)), rwB cItem [(anI 1 (sg kk 1))], bxB 69 (signedC (sg kk 1)), bxB 69 (signedC (⟨(⟨0, 0, 0, dz, 0⟩ : Head), 0, dz⟩ : Signed)), hole]) rfl rfl rfl (by kernel_rfl) (by kernel_rfl) ?_
  refine r_assign (v := .bool false) rfl rfl rfl ?_
  refine r_doneN (x_then (c_seq (c_reg ?_)))
  refine r_move (v := slv 1 0 1 1) rfl rfl rfl ?_
  refine r_callN (e := [some (1, 0)]) (nid := 0) (pl_c (G := G) [(anI 1 (sg kk 1))] 1 1 (rfl : _ = 1) (by omega) (by omega) 2 0 (show plL [(anI 1 (sg kk 1))] 2 0 = (0, false) from by kernel_rfl)) (vals := [slv 1 0 1 1, .int .i64 2, .int .i64 0]) (v := .tuple #[.int .i64 0, .bool false]) (H' := [bxB 69 (signedC (sg kk 1)), rwB cItem [(anI 1 (sg kk 1))], bxB 69 (signedC (sg kk 1)), bxB 69 (signedC (⟨(⟨0, 0, 0, dz, 0⟩ : Head), 0, dz⟩ : Signed)), hole]) rfl rfl rfl rfl rfl rfl rfl ⟨⟨⟨rfl, rfl, rfl, by first | omega | exact Nat.le_refl _, by first | omega | exact Nat.le_refl _⟩, rfl, rfl, trivial⟩, ⟨(emb_rwB rfl), trivial⟩, rfl, rfl, rfl⟩ (by kernel_rfl) (by kernel_rfl) ?_
  refine r_move (v := .tuple #[.int .i64 0, .bool false]) rfl rfl rfl ?_
  refine r_extract (vs := #[.int .i64 0, .bool false]) (v := .int .i64 0) rfl rfl rfl rfl ?_
  refine r_extract (vs := #[.int .i64 0, .bool false]) (v := .bool false) rfl rfl rfl rfl ?_
  refine r_assign (v := .int .i64 0) rfl rfl rfl ?_
  refine r_assign (v := .bool false) rfl rfl rfl ?_
  refine r_doneN (x_then (c_seq ?_))
  refine c_draw (by kernel_rfl) ?_
  refine r_build (vs := []) (v := dgV dz) rfl rfl rfl (by kernel_rfl) ?_
  refine r_load (p := pt 0 0) (v := signedV (sg kk 1)) rfl rfl rfl (by kernel_rfl) ?_
  refine r_callN (e := [none, none]) (nid := 0) (adm_c (G := G) kk hG dz [] 0 0 rfl (by omega) (by omega) (sg kk 1) 0 [] 0 0 rfl (by omega) (by omega) (by omega) (by omega) (adm_0 kk)) (vals := [dgV dz, .slice none 0 0, signedV (sg kk 1), .int .i64 0, .slice none 0 0]) (v := .int .i64 0) (H' := [bxB 69 (signedC (sg kk 1)), rwB cItem [(anI 1 (sg kk 1))], bxB 69 (signedC (sg kk 1)), bxB 69 (signedC (⟨(⟨0, 0, 0, dz, 0⟩ : Head), 0, dz⟩ : Signed)), hole]) rfl rfl rfl rfl rfl rfl rfl ⟨⟨rfl, ⟨rfl, rfl, rfl, rfl⟩, rfl, rfl, ⟨rfl, rfl, rfl, rfl⟩, trivial⟩, ⟨⟨rfl, rfl, by show 0 < _; decide⟩, ⟨rfl, rfl, by show 0 < _; decide⟩, trivial⟩, rfl, rfl, rfl⟩ rfl (by kernel_rfl) ?_
  refine r_bin (v := .bool true) (vx := .int .i64 0) (vy := .int .i64 0) rfl rfl rfl rfl (eql_t (by omega)) ?_
  refine r_move (v := .bool true) rfl rfl rfl ?_
  refine r_build (vs := []) (v := dgV dz) rfl rfl rfl (by kernel_rfl) ?_
  refine r_load (p := pt 0 0) (v := signedV (sg kk 1)) rfl rfl rfl (by kernel_rfl) ?_
  refine r_callN (e := [none, none]) (nid := 0) (adm_c (G := G) kk hG dz [] 0 0 rfl (by omega) (by omega) (sg kk 1) 1 [] 0 0 rfl (by omega) (by omega) (by omega) (by omega) (adm_1 kk)) (vals := [dgV dz, .slice none 0 0, signedV (sg kk 1), .int .i64 1, .slice none 0 0]) (v := .int .i64 122) (H' := [bxB 69 (signedC (sg kk 1)), rwB cItem [(anI 1 (sg kk 1))], bxB 69 (signedC (sg kk 1)), bxB 69 (signedC (⟨(⟨0, 0, 0, dz, 0⟩ : Head), 0, dz⟩ : Signed)), hole]) rfl rfl rfl rfl rfl rfl rfl ⟨⟨rfl, ⟨rfl, rfl, rfl, rfl⟩, rfl, rfl, ⟨rfl, rfl, rfl, rfl⟩, trivial⟩, ⟨⟨rfl, rfl, by show 0 < _; decide⟩, ⟨rfl, rfl, by show 0 < _; decide⟩, trivial⟩, rfl, rfl, rfl⟩ rfl (by kernel_rfl) ?_
  refine r_bin (v := .bool true) (vx := .int .i64 122) (vy := .int .i64 122) rfl rfl rfl rfl (eql_t (by omega)) ?_
  refine r_pick (v := .bool true) rfl rfl rfl ?_
  refine r_move (v := .bool true) rfl rfl rfl ?_
  refine r_move (v := .bool true) rfl rfl rfl ?_
  refine r_pick (v := .bool true) rfl rfl rfl ?_
  refine r_move (v := .bool true) rfl rfl rfl ?_
  refine r_load (p := pt 2 0) (v := signedV (sg kk 1)) rfl rfl rfl (by kernel_rfl) ?_
  refine r_load (p := pt 0 0) (v := signedV (sg kk 1)) rfl rfl rfl (by kernel_rfl) ?_
  refine r_bin (v := .bool true) (vx := signedV (sg kk 1)) (vy := signedV (sg kk 1)) rfl rfl rfl rfl (Eq.trans (eql_Signed (sg kk 1) (sg kk 1)) (by rw [(eqSigned_refl _)] <;> rfl)) ?_
  refine r_pick (v := .bool true) rfl rfl rfl ?_
  refine r_move (v := .bool true) rfl rfl rfl ?_
  refine r_move (v := .bool false) rfl rfl rfl ?_
  refine r_un (v := .bool true) (vx := .bool false) rfl rfl rfl un_not ?_
  refine r_pick (v := .bool true) rfl rfl rfl ?_
  refine r_move (v := .bool true) rfl rfl rfl ?_
  refine r_move (v := .bool false) rfl rfl rfl ?_
  refine r_un (v := .bool true) (vx := .bool false) rfl rfl rfl un_not ?_
  refine r_pick (v := .bool true) rfl rfl rfl ?_
  refine r_move (v := .bool true) rfl rfl rfl ?_
  refine r_build (vs := []) (v := dgV dz) rfl rfl rfl (by kernel_rfl) ?_
  refine r_callP (signed_ok (G := G) kk hG 2 (by omega) (by omega)) (vals := [.int .i64 2]) (res' := signedV (sg kk 2)) rfl rfl rfl rfl rfl (by kernel_rfl) ?_
  refine r_callP (item_ok (G := G) 1 (sg kk 2)) (vals := [.int .i64 1, signedV (sg kk 2)]) (res' := itemV (anI 1 (sg kk 2))) rfl rfl rfl rfl rfl (by kernel_rfl) ?_
  refine r_lit (vs := [(0, itemV (anI 1 (sg kk 2)))]) (v := slv 4 0 1 1) (blk := rwB cItem [(anI 1 (sg kk 2))]) (nid := 4) (H' := [bxB 69 (signedC (sg kk 1)), rwB cItem [(anI 1 (sg kk 1))], bxB 69 (signedC (sg kk 1)), bxB 69 (signedC (⟨(⟨0, 0, 0, dz, 0⟩ : Head), 0, dz⟩ : Signed)), rwB cItem [(anI 1 (sg kk 2))]]) rfl rfl rfl (by kernel_rfl) (by kernel_rfl) ?_
  refine r_load (p := pt 0 0) (v := signedV (sg kk 1)) rfl rfl rfl (by kernel_rfl) ?_
  refine r_callN (e := [some (4, 0), none]) (nid := 0) (adm_c (G := G) kk hG dz [(anI 1 (sg kk 2))] 1 1 (rfl : _ = 1) (by omega) (by omega) (sg kk 1) 0 [] 0 0 rfl (by omega) (by omega) (by omega) (by omega) (adm_2 kk)) (vals := [dgV dz, slv 4 0 1 1, signedV (sg kk 1), .int .i64 0, .slice none 0 0]) (v := .int .i64 122) (H' := [bxB 69 (signedC (sg kk 1)), rwB cItem [(anI 1 (sg kk 1))], bxB 69 (signedC (sg kk 1)), bxB 69 (signedC (⟨(⟨0, 0, 0, dz, 0⟩ : Head), 0, dz⟩ : Signed)), rwB cItem [(anI 1 (sg kk 2))]]) rfl rfl rfl rfl rfl rfl rfl ⟨⟨rfl, ⟨rfl, rfl, rfl, by first | omega | exact Nat.le_refl _, by first | omega | exact Nat.le_refl _⟩, rfl, rfl, ⟨rfl, rfl, rfl, rfl⟩, trivial⟩, ⟨(emb_rwB rfl), ⟨rfl, rfl, by show 0 < _; decide⟩, trivial⟩, rfl, rfl, rfl⟩ rfl (by kernel_rfl) ?_
  refine r_bin (v := .bool true) (vx := .int .i64 122) (vy := .int .i64 122) rfl rfl rfl rfl (eql_t (by omega)) ?_
  refine r_pick (v := .bool true) rfl rfl rfl ?_
  refine r_move (v := .bool true) rfl rfl rfl ?_
  refine r_build (vs := []) (v := dgV dz) rfl rfl rfl (by kernel_rfl) ?_
  refine r_load (p := pt 0 0) (v := signedV (sg kk 1)) rfl rfl rfl (by kernel_rfl) ?_
  refine r_load (p := pt 0 0) (v := signedV (sg kk 1)) rfl rfl rfl (by kernel_rfl) ?_
  refine r_callP ((Apart_ok (G := G) kk hG dz (sg kk 1) (sg kk 1)).res (congrArg Value.bool (apE_self kk dz (sg kk 1)))) (vals := [dgV dz, signedV (sg kk 1), signedV (sg kk 1)]) (res' := .bool false) rfl rfl rfl rfl rfl rfl ?_
  refine r_un (v := .bool true) (vx := .bool false) rfl rfl rfl un_not ?_
  refine r_pick (v := .bool true) rfl rfl rfl ?_
  refine r_assign (v := .bool true) rfl rfl rfl ?_
  refine r_doneD (drawnT_ok [[], [], [0, 1], [0, 1, 2], [0, 1, 2, 3], [0, 1, 2, 3, 4], [0, 1, 2, 3, 4], [0, 1, 2, 3, 4, 5, 6], [0, 1, 2, 3, 4, 5, 6, 7], [0, 1, 2, 3, 4, 5, 6, 7, 8], [0, 1, 2, 3, 4, 5, 6, 7, 8, 9], [0, 1, 2, 3, 4, 5, 6, 7, 8, 9, 10], [0, 1, 2, 3, 4, 5, 6, 7, 8, 9, 10, 11], [0, 1, 2, 3, 4, 5, 6, 7, 8, 9, 10, 11, 12], [0, 1, 2, 3, 4, 5, 6, 7, 8, 9, 10, 11, 12, 13], [0, 1, 2, 3, 4, 5, 6, 7, 8, 9, 10, 11, 12, 13], [0, 1, 2, 3, 4, 5, 6, 7, 8, 9, 10, 11, 12, 13, 14, 15], [0, 1, 2, 3, 4, 5, 6, 7, 8, 9, 10, 11, 12, 13, 14, 15, 16], [0, 1, 2, 3, 4, 5, 6, 7, 8, 9, 10, 11, 12, 13, 14, 15, 16, 17], [0, 1, 2, 3, 4, 5, 6, 7, 8, 9, 10, 11, 12, 13, 14, 15, 16, 17, 18], [0, 1, 2, 3, 4, 5, 6, 7, 8, 9, 10, 11, 12, 13, 14, 15, 16, 17, 18, 19], [0, 1, 2, 3, 4, 5, 6, 7, 8, 9, 10, 11, 12, 13, 14, 15, 16, 17, 18, 19, 20], [0, 1, 2, 3, 4, 5, 6, 7, 8, 9, 10, 11, 12, 13, 14, 15, 16, 17, 18, 19, 20, 21], [0, 1, 2, 3, 4, 5, 6, 7, 8, 9, 10, 11, 12, 13, 14, 15, 16, 17, 18, 19, 20, 21, 22], [0, 1, 2, 3, 4, 5, 6, 7, 8, 9, 10, 11, 12, 13, 14, 15, 16, 17, 18, 19, 20, 21, 22, 23], [0, 1, 2, 3, 4, 5, 6, 7, 8, 9, 10, 11, 12, 13, 14, 15, 16, 17, 18, 19, 20, 21, 22, 23, 24], [0, 1, 2, 3, 4, 5, 6, 7, 8, 9, 10, 11, 12, 13, 14, 15, 16, 17, 18, 19, 20, 21, 22, 23, 24, 25], [0, 1, 2, 3, 4, 5, 6, 7, 8, 9, 10, 11, 12, 13, 14, 15, 16, 17, 18, 19, 20, 21, 22, 23, 24, 25, 26], [0, 1, 2, 3, 4, 5, 6, 7, 8, 9, 10, 11, 12, 13, 14, 15, 16, 17, 18, 19, 20, 21, 22, 23, 24, 25, 26], [0, 1, 2, 3, 4, 5, 6, 7, 8, 9, 10, 11, 12, 13, 14, 15, 16, 17, 18, 19, 20, 21, 22, 23, 24, 25, 26, 28], [0, 1, 2, 3, 4, 5, 6, 7, 8, 9, 10, 11, 12, 13, 14, 15, 16, 17, 18, 19, 20, 21, 22, 23, 24, 25, 26, 28, 29], [0, 1, 2, 3, 4, 5, 6, 7, 8, 9, 10, 11, 12, 13, 14, 15, 16, 17, 18, 19, 20, 21, 22, 23, 24, 25, 26], [0, 1, 2, 3, 4, 5, 6, 7, 8, 9, 10, 11, 12, 13, 14, 15, 16, 17, 18, 19, 20, 21, 22, 23, 24, 25, 26, 27, 28, 29, 30, 31], [0, 1, 2, 3, 4, 5, 6, 7, 8, 9, 10, 11, 12, 13, 14, 15, 16, 17, 18, 19, 20, 21, 22, 23, 24, 25, 26, 27, 28, 29, 30, 31, 32], [0, 1, 2, 3, 4, 5, 6, 7, 8, 9, 10, 11, 12, 13, 14, 15, 16, 17, 18, 19, 20, 21, 22, 23, 24, 25, 26, 27, 28, 29, 30, 31, 32, 33], [0, 1, 2, 3, 4, 5, 6, 7, 8, 9, 10, 11, 12, 13, 14, 15, 16, 17, 18, 19, 20, 21, 22, 23, 24, 25, 26, 27, 28, 29, 30, 31, 32, 33, 34], [0, 1, 2, 3, 4, 5, 6, 7, 8, 9, 10, 11, 12, 13, 14, 15, 16, 17, 18, 19, 20, 21, 22, 23, 24, 25, 26, 27, 28, 29, 30, 31, 32, 33, 34, 35], [0, 1, 2, 3, 4, 5, 6, 7, 8, 9, 10, 11, 12, 13, 14, 15, 16, 17, 18, 19, 20, 21, 22, 23, 24, 25, 26, 27, 28, 29, 30, 31, 32, 33, 34, 35], [0, 1, 2, 3, 4, 5, 6, 7, 8, 9, 10, 11, 12, 13, 14, 15, 16, 17, 18, 19, 20, 21, 22, 23, 24, 25, 26, 27, 28, 29, 30, 31, 32, 33, 34, 35], [0, 1, 2, 3, 4, 5, 6, 7, 8, 9, 10, 11, 12, 13, 14, 15, 16, 17, 18, 19, 20, 21, 22, 23, 24, 25, 26, 27, 28, 29, 30, 31, 32, 33, 34, 35, 36, 37, 38], [0, 1, 2, 3, 4, 5, 6, 7, 8, 9, 10, 11, 12, 13, 14, 15, 16, 17, 18, 19, 20, 21, 22, 23, 24, 25, 26, 27, 28, 29, 30, 31, 32, 33, 34, 35, 36, 37, 38, 39], [0, 1, 2, 3, 4, 5, 6, 7, 8, 9, 10, 11, 12, 13, 14, 15, 16, 17, 18, 19, 20, 21, 22, 23, 24, 25, 26, 27, 28, 29, 30, 31, 32, 33, 34, 35, 36, 37, 38, 39, 40], [0, 1, 2, 3, 4, 5, 6, 7, 8, 9, 10, 11, 12, 13, 14, 15, 16, 17, 18, 19, 20, 21, 22, 23, 24, 25, 26, 27, 28, 29, 30, 31, 32, 33, 34, 35, 36, 37, 38, 39, 40, 41]] (by kernel_rfl) (by kernel_rfl)) ?_
  refine x_then (c_ret (x_end ?_))
  exact end_pv (v := .bool true) rfl rfl rfl
end Go.Flat
