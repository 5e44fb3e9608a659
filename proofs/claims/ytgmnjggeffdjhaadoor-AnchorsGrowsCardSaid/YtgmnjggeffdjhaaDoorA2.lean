/- Walks and plain laws: what each theorem says, within the bounds that it names. -/
import Derived.Test.YtgmnjggeffdjhaaDoorA1
import Derived.Test.YtgmnjggeffdjhaaDoorK10
set_option linter.unusedVariables false
set_option linter.unusedSimpArgs false
set_option maxRecDepth 20000
namespace Go.Flat
open Go.Proofs
variable {G : Glob}
theorem verify_may {kk : Nat → BitVec 32} {m : D} {s : Signed} (h : verifyR kk m s = 0) : mayS s := by
  unfold verifyR at h
  split at h
  · assumption
  · omega
def apE (kk : Nat → BitVec 32) (m : D) (a b : Signed) : Bool :=
  decide (verifyR kk m a = 0) && decide (verifyR kk m b = 0) && eqHead ⟨a.head.region, a.head.epoch, a.head.size, dz, 0⟩ ⟨b.head.region, b.head.epoch, b.head.size, dz, 0⟩ && !(sameB 32 a.head.root b.head.root)
def admE (kk : Nat → BitVec 32) (master : D) (l : List Item) (s : Signed) (m : Int) (ds : List D) : Int :=
  if ((chkL l)) ≠ 0 then 120 else
  if ((verifyR kk master s)) ≠ 0 then ((verifyR kk master s)) else
  if (latL l s.head.region).2 = true then (if s.head.epoch < (((((latL l s.head.region).1).head).epoch)) then 122 else
  if s.head.size < (((((latL l s.head.region).1).head).size)) then 122 else
  if m ≠ (((((latL l s.head.region).1).head).size)) then 122 else
  if ((goesE kk m ((((latL l s.head.region).1).head).root) s.head.size s.head.root ds)) ≠ 0 then 121 else
  0) else
  if s.head.epoch < 0 then 122 else
  if m ≠ 0 then 122 else
  if ((goesE kk m (shaOf kk []) s.head.size s.head.root ds)) ≠ 0 then 121 else
  0
theorem Admit_ok (kk : Nat → BitVec 32) (hG : G 1 = some (rowE w32 64 kk)) (master : D) (l : List Item) (n c : Nat) (hn : l.length = n) (hc : n ≤ c) (hb : n ≤ 1048576) (s : Signed) (m : Int) (ds : List D) (p d : Nat) (hp : ds.length = p) (hd : p ≤ d) (hb2 : p ≤ 1000) (hm1 : -9223372036854775808 ≤ m) (hm2 : m ≤ 9223372036854775807) : CallL Tryd.prog G 18 [dgV master, slv 0 0 n c, signedV s, .int .i64 m, slv 1 0 p d] [rwR cItem l, dsR ds] (.int .i64 (admE kk master l s m ds)) [rwR cItem l, dsR ds] := by
  refine walk (fn := Tryd.f18) (nt := 71) rfl rfl rfl rfl ?_
  refine c_hole 4 (H' := [rwR cItem l, dsR ds, hole, hole, hole, hole]) rfl ?_
  refine c_seq (c_reg ?_)
  refine r_box (v := dgV master) (b := dgB master) (nid := 2) (H' := [rwR cItem l, dsR ds, dgB master, hole, hole, hole]) rfl rfl rfl (by kernel_rfl) (by kernel_rfl) ?_
  refine r_box (v := signedV s) (b := bxB 69 (signedC s)) (nid := 3) (H' := [rwR cItem l, dsR ds, dgB master, bxB 69 (signedC s), hole, hole]) rfl rfl rfl (by kernel_rfl) (by kernel_rfl) ?_
  refine r_assign (v := .int .i64 0) rfl rfl rfl ?_
  refine r_doneN (x_then (c_seq (c_seq (c_reg ?_))))
  refine r_move (v := slv 0 0 n c) rfl rfl rfl ?_
  refine r_callN (e := [some (0, 0)]) (nid := 0) (LCheck_ok (G := G) l n c hn (by omega) (by omega)) (vals := [slv 0 0 n c]) (v := .int .i64 ((chkL l))) (H' := [rwR cItem l, dsR ds, dgB master, bxB 69 (signedC s), hole, hole]) rfl rfl rfl rfl rfl rfl rfl ⟨⟨⟨rfl, rfl, rfl, by first | omega | exact Nat.le_refl _, by first | omega | exact Nat.le_refl _⟩, trivial⟩, ⟨(emb_rwR rfl), trivial⟩, rfl, rfl, rfl⟩ rfl (by kernel_rfl) ?_
  by_cases h1 : ((chkL l)) ≠ 0
  refine r_bin (v := .bool true) (vx := .int .i64 ((chkL l))) (vy := .int .i64 0) rfl rfl rfl rfl (neq_t (by omega)) ?_
  refine r_doneN (x_then (c_true rfl (c_seq (c_reg ?_))))
  refine r_assign (v := .int .i64 120) rfl rfl rfl ?_
  refine r_doneN (x_then (c_ret (x_thenR (x_end ?_))))
  rw [show admE kk master l s m ds = 120 from by unfold admE; rw [if_pos h1]]
  exact end_same (v := .int .i64 120) rfl rfl rfl (by simp [keptB, rwR, cItem, dsR]) rfl
  refine r_bin (v := .bool false) (vx := .int .i64 ((chkL l))) (vy := .int .i64 0) rfl rfl rfl rfl (neq_f (by omega)) ?_
  refine r_doneN (x_then (c_false rfl (c_skip (x_then (c_seq (c_seq (c_reg ?_)))))))
  refine r_load (p := pt 2 0) (v := dgV master) rfl rfl rfl (by kernel_rfl) ?_
  refine r_load (p := pt 3 0) (v := signedV s) rfl rfl rfl (by kernel_rfl) ?_
  refine r_callP (Verify_ok' (G := G) kk hG master s) (vals := [dgV master, signedV s]) (res' := .int .i64 ((verifyR kk master s))) rfl rfl rfl rfl rfl rfl ?_
  refine r_assign (v := .int .i64 ((verifyR kk master s))) rfl rfl rfl ?_
  refine r_doneN (x_then (c_seq (c_reg ?_)))
  refine r_move (v := .int .i64 ((verifyR kk master s))) rfl rfl rfl ?_
  by_cases h2 : ((verifyR kk master s)) ≠ 0
  refine r_bin (v := .bool true) (vx := .int .i64 ((verifyR kk master s))) (vy := .int .i64 0) rfl rfl rfl rfl (neq_t (by omega)) ?_
  refine r_doneN (x_then (c_true rfl (c_seq (c_reg ?_))))
  refine r_move (v := .int .i64 ((verifyR kk master s))) rfl rfl rfl ?_
  refine r_assign (v := .int .i64 ((verifyR kk master s))) rfl rfl rfl ?_
  refine r_doneN (x_then (c_ret (x_thenR (x_end ?_))))
  rw [show admE kk master l s m ds = ((verifyR kk master s)) from by unfold admE; rw [if_neg h1, if_pos h2]]
  exact end_same (v := .int .i64 ((verifyR kk master s))) rfl rfl rfl (by simp [keptB, rwR, cItem, dsR]) rfl
  refine r_bin (v := .bool false) (vx := .int .i64 ((verifyR kk master s))) (vy := .int .i64 0) rfl rfl rfl rfl (neq_f (by omega)) ?_
  refine r_doneN (x_then (c_false rfl (c_skip (x_then (c_seq ?_)))))
  have hv := verify_may (by omega : verifyR kk master s = 0)
  have hv1 : 0 ≤ s.head.size ∧ s.head.size ≤ 100000 := hv.1.2.2.1
  refine c_reg ?_
  refine r_callP (Empty_ok (G := G) kk hG) (vals := []) (res' := dgV (shaOf kk [])) rfl rfl rfl rfl rfl (by kernel_rfl) ?_
  refine r_build (vs := [(3, dgV (shaOf kk []))]) (v := headV (⟨0, 0, 0, (shaOf kk []), 0⟩ : Head)) rfl rfl rfl (by kernel_rfl) ?_
  refine r_alloc (b := bxB 36 (headC (⟨0, 0, 0, dz, 0⟩ : Head))) (nid := 4) (H' := [rwR cItem l, dsR ds, dgB master, bxB 69 (signedC s), bxB 36 (headC (⟨0, 0, 0, dz, 0⟩ : Head)), hole]) rfl rfl (by kernel_rfl) (by kernel_rfl) ?_
  refine r_store (p := pt 4 0) (v := headV (⟨0, 0, 0, (shaOf kk []), 0⟩ : Head)) (b := 4) (blk := bxB 36 (headC (⟨0, 0, 0, (shaOf kk []), 0⟩ : Head))) (H' := [rwR cItem l, dsR ds, dgB master, bxB 69 (signedC s), bxB 36 (headC (⟨0, 0, 0, (shaOf kk []), 0⟩ : Head)), hole]) rfl rfl rfl (by kernel_rfl) (by kernel_rfl) ?_
  refine r_doneN (x_then (c_seq (c_seq (c_reg ?_))))
  refine r_move (v := slv 0 0 n c) rfl rfl rfl ?_
  refine r_fieldAddr (b := 3) (o := 0) (n := 0) (o' := 0) rfl rfl rfl rfl rfl ?_
  refine r_fieldAddr (b := 3) (o := 0) (n := 0) (o' := 0) rfl rfl rfl rfl rfl ?_
  refine r_load (p := pt 3 0) (v := .int .i64 s.head.region) rfl rfl rfl (by kernel_rfl) ?_
  refine r_callN (e := [some (0, 0)]) (nid := 0) (Latest_ok (G := G) l n c hn (by omega) (by omega) s.head.region) (vals := [slv 0 0 n c, .int .i64 s.head.region]) (v := .tuple #[signedV ((latL l s.head.region).1), .bool ((latL l s.head.region).2)]) (H' := [rwR cItem l, dsR ds, dgB master, bxB 69 (signedC s), bxB 36 (headC (⟨0, 0, 0, (shaOf kk []), 0⟩ : Head)), hole]) rfl rfl rfl rfl rfl rfl rfl ⟨⟨⟨rfl, rfl, rfl, by first | omega | exact Nat.le_refl _, by first | omega | exact Nat.le_refl _⟩, rfl, trivial⟩, ⟨(emb_rwR rfl), trivial⟩, rfl, rfl, rfl⟩ (by kernel_rfl) (by kernel_rfl) ?_
  refine r_move (v := .tuple #[signedV ((latL l s.head.region).1), .bool ((latL l s.head.region).2)]) rfl rfl rfl ?_
  refine r_extract (vs := #[signedV ((latL l s.head.region).1), .bool ((latL l s.head.region).2)]) (v := signedV ((latL l s.head.region).1)) rfl rfl rfl rfl ?_
  refine r_extract (vs := #[signedV ((latL l s.head.region).1), .bool ((latL l s.head.region).2)]) (v := .bool ((latL l s.head.region).2)) rfl rfl rfl rfl ?_
  refine r_alloc (b := bxB 69 (signedC (⟨(⟨0, 0, 0, dz, 0⟩ : Head), 0, dz⟩ : Signed))) (nid := 5) (H' := [rwR cItem l, dsR ds, dgB master, bxB 69 (signedC s), bxB 36 (headC (⟨0, 0, 0, (shaOf kk []), 0⟩ : Head)), bxB 69 (signedC (⟨(⟨0, 0, 0, dz, 0⟩ : Head), 0, dz⟩ : Signed))]) rfl rfl (by kernel_rfl) (by kernel_rfl) ?_
  refine r_store (p := pt 5 0) (v := signedV ((latL l s.head.region).1)) (b := 5) (blk := bxB 69 (signedC ((latL l s.head.region).1))) (H' := [rwR cItem l, dsR ds, dgB master, bxB 69 (signedC s), bxB 36 (headC (⟨0, 0, 0, (shaOf kk []), 0⟩ : Head)), bxB 69 (signedC ((latL l s.head.region).1))]) rfl rfl rfl (by kernel_rfl) (by kernel_rfl) ?_
  refine r_assign (v := .bool ((latL l s.head.region).2)) rfl rfl rfl ?_
  refine r_doneN (x_then (c_seq (c_reg ?_)))
  refine r_move (v := .bool ((latL l s.head.region).2)) rfl rfl rfl ?_
  refine r_doneN (x_then ?_)
  rcases Bool.eq_false_or_eq_true ((latL l s.head.region).2) with h3 | h3
  refine c_true (congrArg Value.bool h3) ?_
  refine c_reg ?_
  refine r_fieldAddr (b := 5) (o := 0) (n := 0) (o' := 0) rfl rfl rfl rfl rfl ?_
  refine r_load (p := pt 5 0) (v := headV (((latL l s.head.region).1).head)) rfl rfl rfl (by kernel_rfl) ?_
  refine r_store (p := pt 4 0) (v := headV (((latL l s.head.region).1).head)) (b := 4) (blk := bxB 36 (headC (((latL l s.head.region).1).head))) (H' := [rwR cItem l, dsR ds, dgB master, bxB 69 (signedC s), bxB 36 (headC (((latL l s.head.region).1).head)), bxB 69 (signedC ((latL l s.head.region).1))]) rfl rfl rfl (by kernel_rfl) (by kernel_rfl) ?_
  refine r_doneN (x_then (c_seq (c_block (c_seq (c_reg ?_)))))
  refine r_fieldAddr (b := 3) (o := 0) (n := 0) (o' := 0) rfl rfl rfl rfl rfl ?_
  refine r_fieldAddr (b := 3) (o := 0) (n := 1) (o' := 1) rfl rfl rfl rfl rfl ?_
  refine r_load (p := pt 3 1) (v := .int .i64 s.head.epoch) rfl rfl rfl (by kernel_rfl) ?_
  refine r_fieldAddr (b := 4) (o := 0) (n := 1) (o' := 1) rfl rfl rfl rfl rfl ?_
  refine r_load (p := pt 4 1) (v := .int .i64 (((((latL l s.head.region).1).head).epoch))) rfl rfl rfl (by kernel_rfl) ?_
  by_cases h4 : s.head.epoch < (((((latL l s.head.region).1).head).epoch))
  refine r_bin (v := .bool true) (vx := .int .i64 s.head.epoch) (vy := .int .i64 (((((latL l s.head.region).1).head).epoch))) rfl rfl rfl rfl (lss_t (by omega)) ?_
  refine r_move (v := .bool true) rfl rfl rfl ?_
  refine r_skip rfl rfl (r_skip rfl rfl (r_skip rfl rfl (r_skip rfl rfl (r_skip rfl rfl (r_skip rfl rfl ?_)))))
  refine r_pick (v := .bool true) rfl rfl rfl ?_
  refine r_move (v := .bool true) rfl rfl rfl ?_
  refine r_skip rfl rfl (r_skip rfl rfl (r_skip rfl rfl (r_skip rfl rfl ?_)))
  refine r_pick (v := .bool true) rfl rfl rfl ?_
  refine r_assign (v := .bool true) rfl rfl rfl ?_
  refine r_doneN (x_then (c_true rfl (c_seq (c_reg ?_))))
  refine r_assign (v := .int .i64 122) rfl rfl rfl ?_
  refine r_doneN (x_then (c_ret (x_blockR (x_thenR (x_end ?_)))))
  rw [show admE kk master l s m ds = 122 from by unfold admE; rw [if_neg h1, if_neg h2, if_pos h3, if_pos h4]]
  exact end_same (v := .int .i64 122) rfl rfl rfl (by simp [keptB, rwR, cItem, dsR]) rfl
  refine r_bin (v := .bool false) (vx := .int .i64 s.head.epoch) (vy := .int .i64 (((((latL l s.head.region).1).head).epoch))) rfl rfl rfl rfl (lss_f (by omega)) ?_
  refine r_move (v := .bool false) rfl rfl rfl ?_
  refine r_fieldAddr (b := 3) (o := 0) (n := 0) (o' := 0) rfl rfl rfl rfl rfl ?_
  refine r_fieldAddr (b := 3) (o := 0) (n := 2) (o' := 2) rfl rfl rfl rfl rfl ?_
  refine r_load (p := pt 3 2) (v := .int .i64 s.head.size) rfl rfl rfl (by kernel_rfl) ?_
  refine r_fieldAddr (b := 4) (o := 0) (n := 2) (o' := 2) rfl rfl rfl rfl rfl ?_
  refine r_load (p := pt 4 2) (v := .int .i64 (((((latL l s.head.region).1).head).size))) rfl rfl rfl (by kernel_rfl) ?_
  by_cases h5 : s.head.size < (((((latL l s.head.region).1).head).size))
  refine r_bin (v := .bool true) (vx := .int .i64 s.head.size) (vy := .int .i64 (((((latL l s.head.region).1).head).size))) rfl rfl rfl rfl (lss_t (by omega)) ?_
  refine r_pick (v := .bool true) rfl rfl rfl ?_
  refine r_move (v := .bool true) rfl rfl rfl ?_
  refine r_skip rfl rfl (r_skip rfl rfl (r_skip rfl rfl (r_skip rfl rfl ?_)))
  refine r_pick (v := .bool true) rfl rfl rfl ?_
  refine r_assign (v := .bool true) rfl rfl rfl ?_
  refine r_doneN (x_then (c_true rfl (c_seq (c_reg ?_))))
  refine r_assign (v := .int .i64 122) rfl rfl rfl ?_
  refine r_doneN (x_then (c_ret (x_blockR (x_thenR (x_end ?_)))))
  rw [show admE kk master l s m ds = 122 from by unfold admE; rw [if_neg h1, if_neg h2, if_pos h3, if_neg h4, if_pos h5]]
  exact end_same (v := .int .i64 122) rfl rfl rfl (by simp [keptB, rwR, cItem, dsR]) rfl
  refine r_bin (v := .bool false) (vx := .int .i64 s.head.size) (vy := .int .i64 (((((latL l s.head.region).1).head).size))) rfl rfl rfl rfl (lss_f (by omega)) ?_
  refine r_pick (v := .bool false) rfl rfl rfl ?_
  refine r_move (v := .bool false) rfl rfl rfl ?_
  refine r_move (v := .int .i64 m) rfl rfl rfl ?_
  refine r_fieldAddr (b := 4) (o := 0) (n := 2) (o' := 2) rfl rfl rfl rfl rfl ?_
  refine r_load (p := pt 4 2) (v := .int .i64 (((((latL l s.head.region).1).head).size))) rfl rfl rfl (by kernel_rfl) ?_
  by_cases h6 : m ≠ (((((latL l s.head.region).1).head).size))
  refine r_bin (v := .bool true) (vx := .int .i64 m) (vy := .int .i64 (((((latL l s.head.region).1).head).size))) rfl rfl rfl rfl (neq_t (by omega)) ?_
  refine r_pick (v := .bool true) rfl rfl rfl ?_
  refine r_assign (v := .bool true) rfl rfl rfl ?_
  refine r_doneN (x_then (c_true rfl (c_seq (c_reg ?_))))
  refine r_assign (v := .int .i64 122) rfl rfl rfl ?_
  refine r_doneN (x_then (c_ret (x_blockR (x_thenR (x_end ?_)))))
  rw [show admE kk master l s m ds = 122 from by unfold admE; rw [if_neg h1, if_neg h2, if_pos h3, if_neg h4, if_neg h5, if_pos h6]]
  exact end_same (v := .int .i64 122) rfl rfl rfl (by simp [keptB, rwR, cItem, dsR]) rfl
  refine r_bin (v := .bool false) (vx := .int .i64 m) (vy := .int .i64 (((((latL l s.head.region).1).head).size))) rfl rfl rfl rfl (neq_f (by omega)) ?_
  refine r_pick (v := .bool false) rfl rfl rfl ?_
  refine r_assign (v := .bool false) rfl rfl rfl ?_
  refine r_doneN (x_then (c_false rfl (c_seq (c_reg ?_))))
  refine r_move (v := .int .i64 m) rfl rfl rfl ?_
  refine r_fieldAddr (b := 4) (o := 0) (n := 3) (o' := 3) rfl rfl rfl rfl rfl ?_
  refine r_load (p := pt 4 3) (v := dgV ((((latL l s.head.region).1).head).root)) rfl rfl rfl (by kernel_rfl) ?_
  refine r_fieldAddr (b := 3) (o := 0) (n := 0) (o' := 0) rfl rfl rfl rfl rfl ?_
  refine r_fieldAddr (b := 3) (o := 0) (n := 2) (o' := 2) rfl rfl rfl rfl rfl ?_
  refine r_load (p := pt 3 2) (v := .int .i64 s.head.size) rfl rfl rfl (by kernel_rfl) ?_
  refine r_fieldAddr (b := 3) (o := 0) (n := 0) (o' := 0) rfl rfl rfl rfl rfl ?_
  refine r_fieldAddr (b := 3) (o := 0) (n := 3) (o' := 3) rfl rfl rfl rfl rfl ?_
  refine r_load (p := pt 3 3) (v := dgV s.head.root) rfl rfl rfl (by kernel_rfl) ?_
  refine r_move (v := slv 1 0 p d) rfl rfl rfl ?_
  refine r_callN (e := [some (1, 0)]) (nid := 0) (Consistent_ok (G := G) kk hG m ((((latL l s.head.region).1).head).root) s.head.size s.head.root ds p d hp (by omega) (by omega) (by omega) (by omega) (by omega) (by omega)) (vals := [.int .i64 m, dgV ((((latL l s.head.region).1).head).root), .int .i64 s.head.size, dgV s.head.root, slv 1 0 p d]) (v := .int .i64 ((goesE kk m ((((latL l s.head.region).1).head).root) s.head.size s.head.root ds))) (H' := [rwR cItem l, dsR ds, dgB master, bxB 69 (signedC s), bxB 36 (headC (((latL l s.head.region).1).head)), bxB 69 (signedC ((latL l s.head.region).1))]) rfl rfl rfl rfl rfl rfl rfl ⟨⟨rfl, rfl, rfl, rfl, ⟨rfl, rfl, rfl, by first | omega | exact Nat.le_refl _, by first | omega | exact Nat.le_refl _⟩, trivial⟩, ⟨(emb_dsR rfl), trivial⟩, rfl, rfl, rfl⟩ rfl (by kernel_rfl) ?_
  by_cases h7 : ((goesE kk m ((((latL l s.head.region).1).head).root) s.head.size s.head.root ds)) ≠ 0
  refine r_bin (v := .bool true) (vx := .int .i64 ((goesE kk m ((((latL l s.head.region).1).head).root) s.head.size s.head.root ds))) (vy := .int .i64 0) rfl rfl rfl rfl (neq_t (by omega)) ?_
  refine r_assign (v := .bool true) rfl rfl rfl ?_
  refine r_doneN (x_then (c_true rfl (c_seq (c_reg ?_))))
  refine r_assign (v := .int .i64 121) rfl rfl rfl ?_
  refine r_doneN (x_then (c_ret (x_blockR (x_thenR (x_end ?_)))))
  rw [show admE kk master l s m ds = 121 from by unfold admE; rw [if_neg h1, if_neg h2, if_pos h3, if_neg h4, if_neg h5, if_neg h6, if_pos h7]]
  exact end_same (v := .int .i64 121) rfl rfl rfl (by simp [keptB, rwR, cItem, dsR]) rfl
  refine r_bin (v := .bool false) (vx := .int .i64 ((goesE kk m ((((latL l s.head.region).1).head).root) s.head.size s.head.root ds))) (vy := .int .i64 0) rfl rfl rfl rfl (neq_f (by omega)) ?_
  refine r_assign (v := .bool false) rfl rfl rfl ?_
  refine r_doneN (x_then (c_false rfl (c_skip (x_blockN (x_then (c_seq (c_reg ?_)))))))
  refine r_assign (v := .int .i64 0) rfl rfl rfl ?_
  refine r_doneN (x_then (c_ret (x_end ?_)))
  rw [show admE kk master l s m ds = 0 from by unfold admE; rw [if_neg h1, if_neg h2, if_pos h3, if_neg h4, if_neg h5, if_neg h6, if_neg h7]]
  exact end_same (v := .int .i64 0) rfl rfl rfl (by simp [keptB, rwR, cItem, dsR]) rfl
  refine c_false (congrArg Value.bool h3) ?_
  refine c_skip (x_then (c_seq (c_block (c_seq (c_reg ?_)))))
  refine r_fieldAddr (b := 3) (o := 0) (n := 0) (o' := 0) rfl rfl rfl rfl rfl ?_
  refine r_fieldAddr (b := 3) (o := 0) (n := 1) (o' := 1) rfl rfl rfl rfl rfl ?_
  refine r_load (p := pt 3 1) (v := .int .i64 s.head.epoch) rfl rfl rfl (by kernel_rfl) ?_
  refine r_fieldAddr (b := 4) (o := 0) (n := 1) (o' := 1) rfl rfl rfl rfl rfl ?_
  refine r_load (p := pt 4 1) (v := .int .i64 0) rfl rfl rfl (by kernel_rfl) ?_
  by_cases h8 : s.head.epoch < 0
  refine r_bin (v := .bool true) (vx := .int .i64 s.head.epoch) (vy := .int .i64 0) rfl rfl rfl rfl (lss_t (by omega)) ?_
  refine r_move (v := .bool true) rfl rfl rfl ?_
  refine r_skip rfl rfl (r_skip rfl rfl (r_skip rfl rfl (r_skip rfl rfl (r_skip rfl rfl (r_skip rfl rfl ?_)))))
  refine r_pick (v := .bool true) rfl rfl rfl ?_
  refine r_move (v := .bool true) rfl rfl rfl ?_
  refine r_skip rfl rfl (r_skip rfl rfl (r_skip rfl rfl (r_skip rfl rfl ?_)))
  refine r_pick (v := .bool true) rfl rfl rfl ?_
  refine r_assign (v := .bool true) rfl rfl rfl ?_
  refine r_doneN (x_then (c_true rfl (c_seq (c_reg ?_))))
  refine r_assign (v := .int .i64 122) rfl rfl rfl ?_
  refine r_doneN (x_then (c_ret (x_blockR (x_thenR (x_end ?_)))))
  rw [show admE kk master l s m ds = 122 from by unfold admE; rw [if_neg h1, if_neg h2, if_neg (by rw [h3]; decide), if_pos h8]]
  exact end_same (v := .int .i64 122) rfl rfl rfl (by simp [keptB, rwR, cItem, dsR]) rfl
  refine r_bin (v := .bool false) (vx := .int .i64 s.head.epoch) (vy := .int .i64 0) rfl rfl rfl rfl (lss_f (by omega)) ?_
  refine r_move (v := .bool false) rfl rfl rfl ?_
  refine r_fieldAddr (b := 3) (o := 0) (n := 0) (o' := 0) rfl rfl rfl rfl rfl ?_
  refine r_fieldAddr (b := 3) (o := 0) (n := 2) (o' := 2) rfl rfl rfl rfl rfl ?_
  refine r_load (p := pt 3 2) (v := .int .i64 s.head.size) rfl rfl rfl (by kernel_rfl) ?_
  refine r_fieldAddr (b := 4) (o := 0) (n := 2) (o' := 2) rfl rfl rfl rfl rfl ?_
  refine r_load (p := pt 4 2) (v := .int .i64 0) rfl rfl rfl (by kernel_rfl) ?_
  refine r_bin (v := .bool false) (vx := .int .i64 s.head.size) (vy := .int .i64 0) rfl rfl rfl rfl (lss_f (by omega)) ?_
  refine r_pick (v := .bool false) rfl rfl rfl ?_
  refine r_move (v := .bool false) rfl rfl rfl ?_
  refine r_move (v := .int .i64 m) rfl rfl rfl ?_
  refine r_fieldAddr (b := 4) (o := 0) (n := 2) (o' := 2) rfl rfl rfl rfl rfl ?_
  refine r_load (p := pt 4 2) (v := .int .i64 0) rfl rfl rfl (by kernel_rfl) ?_
  by_cases h9 : m ≠ 0
  refine r_bin (v := .bool true) (vx := .int .i64 m) (vy := .int .i64 0) rfl rfl rfl rfl (neq_t (by omega)) ?_
  refine r_pick (v := .bool true) rfl rfl rfl ?_
  refine r_assign (v := .bool true) rfl rfl rfl ?_
  refine r_doneN (x_then (c_true rfl (c_seq (c_reg ?_))))
  refine r_assign (v := .int .i64 122) rfl rfl rfl ?_
  refine r_doneN (x_then (c_ret (x_blockR (x_thenR (x_end ?_)))))
  rw [show admE kk master l s m ds = 122 from by unfold admE; rw [if_neg h1, if_neg h2, if_neg (by rw [h3]; decide), if_neg h8, if_pos h9]]
  exact end_same (v := .int .i64 122) rfl rfl rfl (by simp [keptB, rwR, cItem, dsR]) rfl
  refine r_bin (v := .bool false) (vx := .int .i64 m) (vy := .int .i64 0) rfl rfl rfl rfl (neq_f (by omega)) ?_
  refine r_pick (v := .bool false) rfl rfl rfl ?_
  refine r_assign (v := .bool false) rfl rfl rfl ?_
  refine r_doneN (x_then (c_false rfl (c_seq (c_reg ?_))))
  refine r_move (v := .int .i64 m) rfl rfl rfl ?_
  refine r_fieldAddr (b := 4) (o := 0) (n := 3) (o' := 3) rfl rfl rfl rfl rfl ?_
  refine r_load (p := pt 4 3) (v := dgV (shaOf kk [])) rfl rfl rfl (by kernel_rfl) ?_
  refine r_fieldAddr (b := 3) (o := 0) (n := 0) (o' := 0) rfl rfl rfl rfl rfl ?_
  refine r_fieldAddr (b := 3) (o := 0) (n := 2) (o' := 2) rfl rfl rfl rfl rfl ?_
  refine r_load (p := pt 3 2) (v := .int .i64 s.head.size) rfl rfl rfl (by kernel_rfl) ?_
  refine r_fieldAddr (b := 3) (o := 0) (n := 0) (o' := 0) rfl rfl rfl rfl rfl ?_
  refine r_fieldAddr (b := 3) (o := 0) (n := 3) (o' := 3) rfl rfl rfl rfl rfl ?_
  refine r_load (p := pt 3 3) (v := dgV s.head.root) rfl rfl rfl (by kernel_rfl) ?_
  refine r_move (v := slv 1 0 p d) rfl rfl rfl ?_
  refine r_callN (e := [some (1, 0)]) (nid := 0) (Consistent_ok (G := G) kk hG m (shaOf kk []) s.head.size s.head.root ds p d hp (by omega) (by omega) (by omega) (by omega) (by omega) (by omega)) (vals := [.int .i64 m, dgV (shaOf kk []), .int .i64 s.head.size, dgV s.head.root, slv 1 0 p d]) (v := .int .i64 ((goesE kk m (shaOf kk []) s.head.size s.head.root ds))) (H' := [rwR cItem l, dsR ds, dgB master, bxB 69 (signedC s), bxB 36 (headC (⟨0, 0, 0, (shaOf kk []), 0⟩ : Head)), bxB 69 (signedC ((latL l s.head.region).1))]) rfl rfl rfl rfl rfl rfl rfl ⟨⟨rfl, rfl, rfl, rfl, ⟨rfl, rfl, rfl, by first | omega | exact Nat.le_refl _, by first | omega | exact Nat.le_refl _⟩, trivial⟩, ⟨(emb_dsR rfl), trivial⟩, rfl, rfl, rfl⟩ rfl (by kernel_rfl) ?_
  by_cases h10 : ((goesE kk m (shaOf kk []) s.head.size s.head.root ds)) ≠ 0
  refine r_bin (v := .bool true) (vx := .int .i64 ((goesE kk m (shaOf kk []) s.head.size s.head.root ds))) (vy := .int .i64 0) rfl rfl rfl rfl (neq_t (by omega)) ?_
  refine r_assign (v := .bool true) rfl rfl rfl ?_
  refine r_doneN (x_then (c_true rfl (c_seq (c_reg ?_))))
  refine r_assign (v := .int .i64 121) rfl rfl rfl ?_
  refine r_doneN (x_then (c_ret (x_blockR (x_thenR (x_end ?_)))))
  rw [show admE kk master l s m ds = 121 from by unfold admE; rw [if_neg h1, if_neg h2, if_neg (by rw [h3]; decide), if_neg h8, if_neg h9, if_pos h10]]
  exact end_same (v := .int .i64 121) rfl rfl rfl (by simp [keptB, rwR, cItem, dsR]) rfl
  refine r_bin (v := .bool false) (vx := .int .i64 ((goesE kk m (shaOf kk []) s.head.size s.head.root ds))) (vy := .int .i64 0) rfl rfl rfl rfl (neq_f (by omega)) ?_
  refine r_assign (v := .bool false) rfl rfl rfl ?_
  refine r_doneN (x_then (c_false rfl (c_skip (x_blockN (x_then (c_seq (c_reg ?_)))))))
  refine r_assign (v := .int .i64 0) rfl rfl rfl ?_
  refine r_doneN (x_then (c_ret (x_end ?_)))
  rw [show admE kk master l s m ds = 0 from by unfold admE; rw [if_neg h1, if_neg h2, if_neg (by rw [h3]; decide), if_neg h8, if_neg h9, if_neg h10]]
  exact end_same (v := .int .i64 0) rfl rfl rfl (by simp [keptB, rwR, cItem, dsR]) rfl
theorem Apart_ok (kk : Nat → BitVec 32) (hG : G 1 = some (rowE w32 64 kk)) (master : D) (a b : Signed) : CallL Tryd.prog G 20 [dgV master, signedV a, signedV b] [] (.bool (apE kk master a b)) [] := by
  refine walk (fn := Tryd.f20) (nt := 43) rfl rfl rfl rfl ?_
  refine c_hole 5 (H' := [hole, hole, hole, hole, hole]) rfl ?_
  refine c_seq (c_reg ?_)
  refine r_box (v := dgV master) (b := dgB master) (nid := 0) (H' := [dgB master, hole, hole, hole, hole]) rfl rfl rfl (by kernel_rfl) (by kernel_rfl) ?_
  refine r_box (v := signedV a) (b := bxB 69 (signedC a)) (nid := 1) (H' := [dgB master, bxB 69 (signedC a), hole, hole, hole]) rfl rfl rfl (by kernel_rfl) (by kernel_rfl) ?_
  refine r_box (v := signedV b) (b := bxB 69 (signedC b)) (nid := 2) (H' := [dgB master, bxB 69 (signedC a), bxB 69 (signedC b), hole, hole]) rfl rfl rfl (by kernel_rfl) (by kernel_rfl) ?_
  refine r_assign (v := .bool false) rfl rfl rfl ?_
  refine r_doneN (x_then (c_seq ?_))
  refine c_draw (by kernel_rfl) ?_
  refine r_fieldAddr (b := 1) (o := 0) (n := 0) (o' := 0) rfl rfl rfl rfl rfl ?_
  refine r_load (p := pt 1 0) (v := headV a.head) rfl rfl rfl (by kernel_rfl) ?_
  refine r_fieldAddr (b := 2) (o := 0) (n := 0) (o' := 0) rfl rfl rfl rfl rfl ?_
  refine r_load (p := pt 2 0) (v := headV b.head) rfl rfl rfl (by kernel_rfl) ?_
  refine r_alloc (b := bxB 36 (headC (⟨0, 0, 0, dz, 0⟩ : Head))) (nid := 3) (H' := [dgB master, bxB 69 (signedC a), bxB 69 (signedC b), bxB 36 (headC (⟨0, 0, 0, dz, 0⟩ : Head)), hole]) rfl rfl (by kernel_rfl) (by kernel_rfl) ?_
  refine r_alloc (b := bxB 36 (headC (⟨0, 0, 0, dz, 0⟩ : Head))) (nid := 4) (H' := [dgB master, bxB 69 (signedC a), bxB 69 (signedC b), bxB 36 (headC (⟨0, 0, 0, dz, 0⟩ : Head)), bxB 36 (headC (⟨0, 0, 0, dz, 0⟩ : Head))]) rfl rfl (by kernel_rfl) (by kernel_rfl) ?_
  refine r_store (p := pt 3 0) (v := headV a.head) (b := 3) (blk := bxB 36 (headC a.head)) (H' := [dgB master, bxB 69 (signedC a), bxB 69 (signedC b), bxB 36 (headC a.head), bxB 36 (headC (⟨0, 0, 0, dz, 0⟩ : Head))]) rfl rfl rfl (by kernel_rfl) (by kernel_rfl) ?_
  refine r_store (p := pt 4 0) (v := headV b.head) (b := 4) (blk := bxB 36 (headC b.head)) (H' := [dgB master, bxB 69 (signedC a), bxB 69 (signedC b), bxB 36 (headC a.head), bxB 36 (headC b.head)]) rfl rfl rfl (by kernel_rfl) (by kernel_rfl) ?_
  refine r_doneD (drawnT_ok [[], [0], [], [2], [], [], [0, 1, 4, 5], [0, 1, 2, 3, 4, 5, 6]] (by kernel_rfl) (by kernel_rfl)) ?_
  refine x_then (c_seq (c_reg ?_))
  refine r_fieldAddr (b := 3) (o := 0) (n := 35) (o' := 35) rfl rfl rfl rfl rfl ?_
  refine r_store (p := pt 3 35) (v := .int .i64 0) (b := 3) (blk := bxB 36 (headC (⟨a.head.region, a.head.epoch, a.head.size, a.head.root, 0⟩ : Head))) (H' := [dgB master, bxB 69 (signedC a), bxB 69 (signedC b), bxB 36 (headC (⟨a.head.region, a.head.epoch, a.head.size, a.head.root, 0⟩ : Head)), bxB 36 (headC b.head)]) rfl rfl rfl (by kernel_rfl) (by kernel_rfl) ?_
  refine r_fieldAddr (b := 4) (o := 0) (n := 35) (o' := 35) rfl rfl rfl rfl rfl ?_
  refine r_store (p := pt 4 35) (v := .int .i64 0) (b := 4) (blk := bxB 36 (headC (⟨b.head.region, b.head.epoch, b.head.size, b.head.root, 0⟩ : Head))) (H' := [dgB master, bxB 69 (signedC a), bxB 69 (signedC b), bxB 36 (headC (⟨a.head.region, a.head.epoch, a.head.size, a.head.root, 0⟩ : Head)), bxB 36 (headC (⟨b.head.region, b.head.epoch, b.head.size, b.head.root, 0⟩ : Head))]) rfl rfl rfl (by kernel_rfl) (by kernel_rfl) ?_
  refine r_doneN (x_then (c_seq (c_reg ?_)))
  refine r_build (vs := []) (v := dgV dz) rfl rfl rfl (by kernel_rfl) ?_
  refine r_build (vs := []) (v := dgV dz) rfl rfl rfl (by kernel_rfl) ?_
  refine r_fieldAddr (b := 3) (o := 0) (n := 3) (o' := 3) rfl rfl rfl rfl rfl ?_
  refine r_store (p := pt 3 3) (v := dgV dz) (b := 3) (blk := bxB 36 (headC (⟨a.head.region, a.head.epoch, a.head.size, dz, 0⟩ : Head))) (H' := [dgB master, bxB 69 (signedC a), bxB 69 (signedC b), bxB 36 (headC (⟨a.head.region, a.head.epoch, a.head.size, dz, 0⟩ : Head)), bxB 36 (headC (⟨b.head.region, b.head.epoch, b.head.size, b.head.root, 0⟩ : Head))]) rfl rfl rfl (by kernel_rfl) (by kernel_rfl) ?_
  refine r_fieldAddr (b := 4) (o := 0) (n := 3) (o' := 3) rfl rfl rfl rfl rfl ?_
  refine r_store (p := pt 4 3) (v := dgV dz) (b := 4) (blk := bxB 36 (headC (⟨b.head.region, b.head.epoch, b.head.size, dz, 0⟩ : Head))) (H' := [dgB master, bxB 69 (signedC a), bxB 69 (signedC b), bxB 36 (headC (⟨a.head.region, a.head.epoch, a.head.size, dz, 0⟩ : Head)), bxB 36 (headC (⟨b.head.region, b.head.epoch, b.head.size, dz, 0⟩ : Head))]) rfl rfl rfl (by kernel_rfl) (by kernel_rfl) ?_
  refine r_doneN (x_then (c_seq (c_reg ?_)))
  refine r_load (p := pt 0 0) (v := dgV master) rfl rfl rfl (by kernel_rfl) ?_
  refine r_load (p := pt 1 0) (v := signedV a) rfl rfl rfl (by kernel_rfl) ?_
  refine r_callP (Verify_ok' (G := G) kk hG master a) (vals := [dgV master, signedV a]) (res' := .int .i64 ((verifyR kk master a))) rfl rfl rfl rfl rfl rfl ?_
  by_cases h1 : ((verifyR kk master a)) = 0
  refine r_bin (v := .bool true) (vx := .int .i64 ((verifyR kk master a))) (vy := .int .i64 0) rfl rfl rfl rfl (eql_t (by omega)) ?_
  refine r_move (v := .bool true) rfl rfl rfl ?_
  refine r_load (p := pt 0 0) (v := dgV master) rfl rfl rfl (by kernel_rfl) ?_
  refine r_load (p := pt 2 0) (v := signedV b) rfl rfl rfl (by kernel_rfl) ?_
  refine r_callP (Verify_ok' (G := G) kk hG master b) (vals := [dgV master, signedV b]) (res' := .int .i64 ((verifyR kk master b))) rfl rfl rfl rfl rfl rfl ?_
  by_cases h2 : ((verifyR kk master b)) = 0
  refine r_bin (v := .bool true) (vx := .int .i64 ((verifyR kk master b))) (vy := .int .i64 0) rfl rfl rfl rfl (eql_t (by omega)) ?_
  refine r_pick (v := .bool true) rfl rfl rfl ?_
  refine r_move (v := .bool true) rfl rfl rfl ?_
  refine r_load (p := pt 3 0) (v := headV (⟨a.head.region, a.head.epoch, a.head.size, dz, 0⟩ : Head)) rfl rfl rfl (by kernel_rfl) ?_
  refine r_load (p := pt 4 0) (v := headV (⟨b.head.region, b.head.epoch, b.head.size, dz, 0⟩ : Head)) rfl rfl rfl (by kernel_rfl) ?_
  rcases Bool.eq_false_or_eq_true (eqHead (⟨a.head.region, a.head.epoch, a.head.size, dz, 0⟩ : Head) (⟨b.head.region, b.head.epoch, b.head.size, dz, 0⟩ : Head)) with h3 | h3
  refine r_bin (v := .bool true) (vx := headV (⟨a.head.region, a.head.epoch, a.head.size, dz, 0⟩ : Head)) (vy := headV (⟨b.head.region, b.head.epoch, b.head.size, dz, 0⟩ : Head)) rfl rfl rfl rfl (Eq.trans (eql_Head (⟨a.head.region, a.head.epoch, a.head.size, dz, 0⟩ : Head) (⟨b.head.region, b.head.epoch, b.head.size, dz, 0⟩ : Head)) (by rw [h3] <;> rfl)) ?_
  refine r_pick (v := .bool true) rfl rfl rfl ?_
  refine r_move (v := .bool true) rfl rfl rfl ?_
  refine r_fieldAddr (b := 1) (o := 0) (n := 0) (o' := 0) rfl rfl rfl rfl rfl ?_
  refine r_fieldAddr (b := 1) (o := 0) (n := 3) (o' := 3) rfl rfl rfl rfl rfl ?_
  refine r_load (p := pt 1 3) (v := dgV a.head.root) rfl rfl rfl (by kernel_rfl) ?_
  refine r_fieldAddr (b := 2) (o := 0) (n := 0) (o' := 0) rfl rfl rfl rfl rfl ?_
  refine r_fieldAddr (b := 2) (o := 0) (n := 3) (o' := 3) rfl rfl rfl rfl rfl ?_
  refine r_load (p := pt 2 3) (v := dgV b.head.root) rfl rfl rfl (by kernel_rfl) ?_
  rcases Bool.eq_false_or_eq_true (sameB 32 a.head.root b.head.root) with h4 | h4
  refine r_bin (v := .bool false) (vx := dgV a.head.root) (vy := dgV b.head.root) rfl rfl rfl rfl (Eq.trans (neq_dg (n := 32) (a := a.head.root) (b := b.head.root) (by kernel_rfl) rfl rfl rfl) (by rw [h4] <;> rfl)) ?_
  refine r_pick (v := .bool false) rfl rfl rfl ?_
  refine r_assign (v := .bool false) rfl rfl rfl ?_
  refine r_doneN (x_then (c_ret (x_end ?_)))
  rw [show apE kk master a b = false from by unfold apE; simp [*]]
  exact end_same (v := .bool false) rfl rfl rfl (by kernel_rfl) rfl
  refine r_bin (v := .bool true) (vx := dgV a.head.root) (vy := dgV b.head.root) rfl rfl rfl rfl (Eq.trans (neq_dg (n := 32) (a := a.head.root) (b := b.head.root) (by kernel_rfl) rfl rfl rfl) (by rw [h4] <;> rfl)) ?_
  refine r_pick (v := .bool true) rfl rfl rfl ?_
  refine r_assign (v := .bool true) rfl rfl rfl ?_
  refine r_doneN (x_then (c_ret (x_end ?_)))
  rw [show apE kk master a b = true from by unfold apE; simp [*]]
  exact end_same (v := .bool true) rfl rfl rfl (by kernel_rfl) rfl
  refine r_bin (v := .bool false) (vx := headV (⟨a.head.region, a.head.epoch, a.head.size, dz, 0⟩ : Head)) (vy := headV (⟨b.head.region, b.head.epoch, b.head.size, dz, 0⟩ : Head)) rfl rfl rfl rfl (Eq.trans (eql_Head (⟨a.head.region, a.head.epoch, a.head.size, dz, 0⟩ : Head) (⟨b.head.region, b.head.epoch, b.head.size, dz, 0⟩ : Head)) (by rw [h3] <;> rfl)) ?_
  refine r_pick (v := .bool false) rfl rfl rfl ?_
  refine r_move (v := .bool false) rfl rfl rfl ?_
  refine r_skip rfl rfl (r_skip rfl rfl (r_skip rfl rfl (r_skip rfl rfl (r_skip rfl rfl (r_skip rfl rfl (r_skip rfl rfl ?_))))))
  refine r_pick (v := .bool false) rfl rfl rfl ?_
  refine r_assign (v := .bool false) rfl rfl rfl ?_
  refine r_doneN (x_then (c_ret (x_end ?_)))
  rw [show apE kk master a b = false from by unfold apE; simp [*]]
  exact end_same (v := .bool false) rfl rfl rfl (by kernel_rfl) rfl
  refine r_bin (v := .bool false) (vx := .int .i64 ((verifyR kk master b))) (vy := .int .i64 0) rfl rfl rfl rfl (eql_f (by omega)) ?_
  refine r_pick (v := .bool false) rfl rfl rfl ?_
  refine r_move (v := .bool false) rfl rfl rfl ?_
  refine r_skip rfl rfl (r_skip rfl rfl (r_skip rfl rfl ?_))
  refine r_pick (v := .bool false) rfl rfl rfl ?_
  refine r_move (v := .bool false) rfl rfl rfl ?_
  refine r_skip rfl rfl (r_skip rfl rfl (r_skip rfl rfl (r_skip rfl rfl (r_skip rfl rfl (r_skip rfl rfl (r_skip rfl rfl ?_))))))
  refine r_pick (v := .bool false) rfl rfl rfl ?_
  refine r_assign (v := .bool false) rfl rfl rfl ?_
  refine r_doneN (x_then (c_ret (x_end ?_)))
  rw [show apE kk master a b = false from by unfold apE; simp [*]]
  exact end_same (v := .bool false) rfl rfl rfl (by kernel_rfl) rfl
  refine r_bin (v := .bool false) (vx := .int .i64 ((verifyR kk master a))) (vy := .int .i64 0) rfl rfl rfl rfl (eql_f (by omega)) ?_
  refine r_move (v := .bool false) rfl rfl rfl ?_
  refine r_skip rfl rfl (r_skip rfl rfl (r_skip rfl rfl (r_skip rfl rfl ?_)))
  refine r_pick (v := .bool false) rfl rfl rfl ?_
  refine r_move (v := .bool false) rfl rfl rfl ?_
  refine r_skip rfl rfl (r_skip rfl rfl (r_skip rfl rfl ?_))
  refine r_pick (v := .bool false) rfl rfl rfl ?_
  refine r_move (v := .bool false) rfl rfl rfl ?_
  refine r_skip rfl rfl (r_skip rfl rfl (r_skip rfl rfl (r_skip rfl rfl (r_skip rfl rfl (r_skip rfl rfl (r_skip rfl rfl ?_))))))
  refine r_pick (v := .bool false) rfl rfl rfl ?_
  refine r_assign (v := .bool false) rfl rfl rfl ?_
  refine r_doneN (x_then (c_ret (x_end ?_)))
  rw [show apE kk master a b = false from by unfold apE; simp [*]]
  exact end_same (v := .bool false) rfl rfl rfl (by kernel_rfl) rfl
end Go.Flat
