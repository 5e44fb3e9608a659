/- Walks and plain laws: what each theorem says, within the bounds that it names. -/
import Derived.Test.YthfklplpfbmkgaaDoorH21
set_option linter.unusedVariables false
set_option linter.unusedSimpArgs false
set_option maxRecDepth 20000
namespace Go.Flat
open Go.Proofs
variable {G : Glob}
theorem signR_good {kk : Nat → BitVec 32} {m : D} {h : Head} {n : Int} (e : (signR kk m h n).2 = 0) : rightH h ∧ 1 ≤ n ∧ n ≤ 3 := by
  by_cases q : rightH h ∧ 1 ≤ n ∧ n ≤ 3
  · exact q
  · rw [show signR kk m h n = (zeroS, 70) from if_neg q] at e; exact absurd e (by show ¬ ((70 : Int) = 0); decide)
theorem signR_pos {kk : Nat → BitVec 32} {m : D} {h : Head} {n : Int} (q : rightH h ∧ 1 ≤ n ∧ n ≤ 3) : signR kk m h n = (⟨h, n, tagT kk m h n⟩, 0) := if_pos q
theorem turn1 {kk : Nat → BitVec 32} {m : D} {h : Head} {n : Int} (e : (signR kk m h n).2 = 0) : verifyR kk m (signR kk m h n).1 = 0 := by
  have q := signR_good e
  rw [signR_pos q]
  show verifyR kk m ⟨h, n, tagT kk m h n⟩ = 0
  unfold verifyR
  rw [if_pos (show mayS ⟨h, n, tagT kk m h n⟩ from q)]
  exact if_pos (sameB_refl 32 _)
theorem verify_pos {kk : Nat → BitVec 32} {m : D} {s : Signed} (q : mayS s) : verifyR kk m s = 0 ↔ sameB 32 (tagT kk m s.head s.node) s.tag = true := by
  unfold verifyR
  rw [if_pos q]
  split
  · simp [*]
  · simp [*]
theorem xor_self {a b : BitVec 8} (h : a = a ^^^ b) : b = 0#8 := by
  have h1 : a ^^^ a = a ^^^ (a ^^^ b) := congrArg (fun x => a ^^^ x) h
  rw [BitVec.xor_self, ← BitVec.xor_assoc, BitVec.xor_self, BitVec.zero_xor] at h1
  exact h1.symm
theorem turn2 {kk : Nat → BitVec 32} {m : D} {h : Head} {n : Int} {bits : BitVec 8} {i : Nat} (e : (signR kk m h n).2 = 0) (hi : i < 32) :
    verifyR kk m ⟨(signR kk m h n).1.head, (signR kk m h n).1.node, updN (signR kk m h n).1.tag i ((signR kk m h n).1.tag i ^^^ bits)⟩ = 0 ↔ bits = 0#8 := by
  have q := signR_good e
  rw [signR_pos q]
  rw [verify_pos (s := ⟨h, n, updN (tagT kk m h n) i (tagT kk m h n i ^^^ bits)⟩) q]
  show sameB 32 (tagT kk m h n) (updN (tagT kk m h n) i (tagT kk m h n i ^^^ bits)) = true ↔ _
  simp only [sameB, List.all_eq_true, List.mem_range, beq_iff_eq]
  constructor
  · intro hs
    have h1 := hs i hi
    simp only [updN, if_true] at h1
    exact xor_self h1
  · rintro rfl j _
    simp only [updN]
    split
    · rename_i hj; subst hj; simp
    · rfl
theorem turn3 {kk : Nat → BitVec 32} {m : D} {h : Head} {n : Int} {other : Head} {nd : Int} (e : (signR kk m h n).2 = 0) :
    verifyR kk m ⟨other, nd, (signR kk m h n).1.tag⟩ = 0 ↔ ((signR kk m other nd).2 = 0 ∧ sameB 32 (signR kk m other nd).1.tag (signR kk m h n).1.tag = true) := by
  have q := signR_good e
  rw [signR_pos q]
  by_cases q' : rightH other ∧ 1 ≤ nd ∧ nd ≤ 3
  · rw [verify_pos (s := ⟨other, nd, tagT kk m h n⟩) q', signR_pos q']
    simp
  · constructor
    · intro h1
      unfold verifyR at h1
      rw [if_neg (show ¬ mayS ⟨other, nd, (tagT kk m h n)⟩ from q')] at h1
      exact absurd h1 (by decide)
    · intro h1
      exact absurd (signR_good h1.1) q'
theorem HeadTurned_ok (kk : Nat → BitVec 32) (hG : G 0 = some (rowE w32 64 kk)) (hne : sameB 32 (tagT kk dz oneH 1) (tagT kk dz oneH 2) = false) (master : D) (h : Head) (node at_ : Int) (bits : BitVec 8) (other : Head) (nd : Int) (hat : -9223372036854775808 ≤ at_ ∧ at_ ≤ 9223372036854775807) : CallL Tryd.prog G 4 [dgV master, headV h, .int .i64 node, .int .i64 at_, w8 bits, headV other, .int .i64 nd] [] (.bool true) [] := by
  refine walk (fn := Tryd.f4) (nt := 101) rfl rfl rfl rfl ?_
  refine c_hole 7 (H' := [hole, hole, hole, hole, hole, hole, hole]) rfl ?_
  refine c_seq ?_
  refine c_reg ?_
  refine r_box (v := dgV master) (b := dgB master) (nid := 0) (H' := [dgB master, hole, hole, hole, hole, hole, hole]) rfl rfl rfl (by kernel_rfl) (by kernel_rfl) ?_
  refine r_box (v := headV h) (b := bxB 36 (headC h)) (nid := 1) (H' := [dgB master, bxB 36 (headC h), hole, hole, hole, hole, hole]) rfl rfl rfl (by kernel_rfl) (by kernel_rfl) ?_
  refine r_box (v := headV other) (b := bxB 36 (headC other)) (nid := 2) (H' := [dgB master, bxB 36 (headC h), bxB 36 (headC other), hole, hole, hole, hole]) rfl rfl rfl (by kernel_rfl) (by kernel_rfl) ?_
  refine r_assign (v := .bool false) rfl rfl rfl ?_
  refine r_doneN ?_
  refine x_then ?_
  refine c_seq ?_
  refine c_reg ?_
  refine r_load (p := pt 0 0) (v := dgV master) rfl rfl rfl (by kernel_rfl) ?_
  refine r_load (p := pt 1 0) (v := headV h) rfl rfl rfl (by kernel_rfl) ?_
  refine r_move (v := .int .i64 node) rfl rfl rfl ?_
  refine r_callP (Sign_ok' (G := G) kk hG master h node) (vals := [dgV master, headV h, .int .i64 node]) (res' := .tuple #[signedV ((signR kk master h node).1), .int .i64 (((signR kk master h node).2))]) rfl rfl rfl rfl rfl (by kernel_rfl) ?_
  refine r_move (v := .tuple #[signedV ((signR kk master h node).1), .int .i64 (((signR kk master h node).2))]) rfl rfl rfl ?_
  refine r_extract (vs := #[signedV ((signR kk master h node).1), .int .i64 (((signR kk master h node).2))]) (v := signedV ((signR kk master h node).1)) rfl rfl rfl rfl ?_
  refine r_extract (vs := #[signedV ((signR kk master h node).1), .int .i64 (((signR kk master h node).2))]) (v := .int .i64 (((signR kk master h node).2))) rfl rfl rfl rfl ?_
  refine r_alloc (b := bxB 69 (signedC (⟨(⟨0, 0, 0, dz, 0⟩ : Head), 0, dz⟩ : Signed))) (nid := 3) (H' := [dgB master, bxB 36 (headC h), bxB 36 (headC other), bxB 69 (signedC (⟨(⟨0, 0, 0, dz, 0⟩ : Head), 0, dz⟩ : Signed)), hole, hole, hole]) rfl rfl (by kernel_rfl) (by kernel_rfl) ?_
  refine r_store (p := pt 3 0) (v := signedV ((signR kk master h node).1)) (b := 3) (blk := bxB 69 (signedC ((signR kk master h node).1))) (H' := [dgB master, bxB 36 (headC h), bxB 36 (headC other), bxB 69 (signedC ((signR kk master h node).1)), hole, hole, hole]) rfl rfl rfl (by kernel_rfl) (by kernel_rfl) ?_
  refine r_assign (v := .int .i64 (((signR kk master h node).2))) rfl rfl rfl ?_
  refine r_doneN ?_
  refine x_then ?_
  refine c_seq ?_
  refine c_seq ?_
  refine c_reg ?_
  refine r_move (v := .int .i64 (((signR kk master h node).2))) rfl rfl rfl ?_
  by_cases h1 : (((signR kk master h node).2)) ≠ 0
  · skip
    refine r_bin (v := .bool true) (vx := .int .i64 (((signR kk master h node).2))) (vy := .int .i64 0) rfl rfl rfl rfl (neq_t (by omega)) ?_
    refine r_move (v := .bool true) rfl rfl rfl ?_
    refine r_skip rfl rfl ?_
    refine r_skip rfl rfl ?_
    refine r_pick (v := .bool true) rfl rfl rfl ?_
    refine r_move (v := .bool true) rfl rfl rfl ?_
    refine r_skip rfl rfl ?_
    refine r_skip rfl rfl ?_
    refine r_pick (v := .bool true) rfl rfl rfl ?_
    refine r_doneN ?_
    refine x_then ?_
    refine c_true rfl ?_
    refine c_seq ?_
    refine c_reg ?_
    refine r_callP (lays_ok (G := G)) (vals := []) (res' := .bool true) rfl rfl rfl rfl rfl rfl ?_
    refine r_move (v := .bool true) rfl rfl rfl ?_
    refine r_callP (signs_ok (G := G) kk hG hne) (vals := []) (res' := .bool true) rfl rfl rfl rfl rfl rfl ?_
    refine r_pick (v := .bool true) rfl rfl rfl ?_
    refine r_assign (v := .bool true) rfl rfl rfl ?_
    refine r_doneN ?_
    refine x_then ?_
    refine c_ret ?_
    refine x_thenR ?_
    refine x_end ?_
    exact end_pv (v := .bool true) rfl rfl rfl
  refine r_bin (v := .bool false) (vx := .int .i64 (((signR kk master h node).2))) (vy := .int .i64 0) rfl rfl rfl rfl (neq_f (by omega)) ?_
  refine r_move (v := .bool false) rfl rfl rfl ?_
  refine r_move (v := .int .i64 at_) rfl rfl rfl ?_
  by_cases h2 : at_ < 0
  · skip
    refine r_bin (v := .bool true) (vx := .int .i64 at_) (vy := .int .i64 0) rfl rfl rfl rfl (lss_t (by omega)) ?_
    refine r_pick (v := .bool true) rfl rfl rfl ?_
    refine r_move (v := .bool true) rfl rfl rfl ?_
    refine r_skip rfl rfl ?_
    refine r_skip rfl rfl ?_
    refine r_pick (v := .bool true) rfl rfl rfl ?_
    refine r_doneN ?_
    refine x_then ?_
    refine c_true rfl ?_
    refine c_seq ?_
    refine c_reg ?_
    refine r_callP (lays_ok (G := G)) (vals := []) (res' := .bool true) rfl rfl rfl rfl rfl rfl ?_
    refine r_move (v := .bool true) rfl rfl rfl ?_
    refine r_callP (signs_ok (G := G) kk hG hne) (vals := []) (res' := .bool true) rfl rfl rfl rfl rfl rfl ?_
    refine r_pick (v := .bool true) rfl rfl rfl ?_
    refine r_assign (v := .bool true) rfl rfl rfl ?_
    refine r_doneN ?_
    refine x_then ?_
    refine c_ret ?_
    refine x_thenR ?_
    refine x_end ?_
    exact end_pv (v := .bool true) rfl rfl rfl
  refine r_bin (v := .bool false) (vx := .int .i64 at_) (vy := .int .i64 0) rfl rfl rfl rfl (lss_f (by omega)) ?_
  refine r_pick (v := .bool false) rfl rfl rfl ?_
  refine r_move (v := .bool false) rfl rfl rfl ?_
  refine r_move (v := .int .i64 at_) rfl rfl rfl ?_
  by_cases h3 : 32 ≤ at_
  · skip
    refine r_bin (v := .bool true) (vx := .int .i64 at_) (vy := .int .i64 32) rfl rfl rfl rfl (geq_t (by omega)) ?_
    refine r_pick (v := .bool true) rfl rfl rfl ?_
    refine r_doneN ?_
    refine x_then ?_
    refine c_true rfl ?_
    refine c_seq ?_
    refine c_reg ?_
    refine r_callP (lays_ok (G := G)) (vals := []) (res' := .bool true) rfl rfl rfl rfl rfl rfl ?_
    refine r_move (v := .bool true) rfl rfl rfl ?_
    refine r_callP (signs_ok (G := G) kk hG hne) (vals := []) (res' := .bool true) rfl rfl rfl rfl rfl rfl ?_
    refine r_pick (v := .bool true) rfl rfl rfl ?_
    refine r_assign (v := .bool true) rfl rfl rfl ?_
    refine r_doneN ?_
    refine x_then ?_
    refine c_ret ?_
    refine x_thenR ?_
    refine x_end ?_
    exact end_pv (v := .bool true) rfl rfl rfl
  refine r_bin (v := .bool false) (vx := .int .i64 at_) (vy := .int .i64 32) rfl rfl rfl rfl (geq_f (by omega)) ?_
  refine r_pick (v := .bool false) rfl rfl rfl ?_
  refine r_doneN ?_
  refine x_then ?_
  refine c_false rfl ?_
  refine c_skip ?_
  refine x_then ?_
  refine c_seq ?_
  refine c_reg ?_
  refine r_load (p := pt 3 0) (v := signedV ((signR kk master h node).1)) rfl rfl rfl (by kernel_rfl) ?_
  refine r_alloc (b := bxB 69 (signedC (⟨(⟨0, 0, 0, dz, 0⟩ : Head), 0, dz⟩ : Signed))) (nid := 4) (H' := [dgB master, bxB 36 (headC h), bxB 36 (headC other), bxB 69 (signedC ((signR kk master h node).1)), bxB 69 (signedC (⟨(⟨0, 0, 0, dz, 0⟩ : Head), 0, dz⟩ : Signed)), hole, hole]) rfl rfl (by kernel_rfl) (by kernel_rfl) ?_
  refine r_store (p := pt 4 0) (v := signedV ((signR kk master h node).1)) (b := 4) (blk := bxB 69 (signedC ((signR kk master h node).1))) (H' := [dgB master, bxB 36 (headC h), bxB 36 (headC other), bxB 69 (signedC ((signR kk master h node).1)), bxB 69 (signedC ((signR kk master h node).1)), hole, hole]) rfl rfl rfl (by kernel_rfl) (by kernel_rfl) ?_
  refine r_doneN ?_
  refine x_then ?_
  refine c_seq ?_
  refine c_reg ?_
  refine r_move (v := .int .i64 at_) rfl rfl rfl ?_
  refine r_move (v := .int .i64 at_) rfl rfl rfl ?_
  refine r_fieldAddr (b := 4) (o := 0) (n := 37) (o' := 37) rfl rfl rfl rfl rfl ?_
  refine r_idxA (b := 4) (o := 37) (j := at_.toNat + 37) (n := 32) (sz := 1) (i := at_) (k := .i64) rfl rfl rfl rfl rfl (by omega) (by omega) (by omega) ?_
  refine r_load (p := pt 4 (at_.toNat + 37)) (v := w8 ((((signR kk master h node).1).tag) at_.toNat)) rfl rfl rfl (loadA_mid (blk := bxB 69 (signedC ((signR kk master h node).1))) (i := at_.toNat) (enc := w8) (n := 32) (w := ((signR kk master h node).1).tag) (pre := (signedC ((signR kk master h node).1)).take 37) (rest := (signedC ((signR kk master h node).1)).drop 69) rfl rfl (by kernel_rfl) (by show _ = 37 + _; omega) (by omega) fun _ => rfl) ?_
  refine r_move (v := w8 bits) rfl rfl rfl ?_
  refine r_bin (v := w8 (((((signR kk master h node).1).tag) at_.toNat) ^^^ bits)) (vx := w8 ((((signR kk master h node).1).tag) at_.toNat)) (vy := w8 bits) rfl rfl rfl rfl (xor8 (ofI _ _) (ofI _ _)) ?_
  refine r_fieldAddr (b := 4) (o := 0) (n := 37) (o' := 37) rfl rfl rfl rfl rfl ?_
  refine r_idxA (b := 4) (o := 37) (j := at_.toNat + 37) (n := 32) (sz := 1) (i := at_) (k := .i64) rfl rfl rfl rfl rfl (by omega) (by omega) (by omega) ?_
  refine r_store (p := pt 4 (at_.toNat + 37)) (v := w8 (((((signR kk master h node).1).tag) at_.toNat) ^^^ bits)) (b := 4) (blk := bxB 69 (signedC (⟨((signR kk master h node).1).head, ((((signR kk master h node).1).node)), (updN (((signR kk master h node).1).tag) at_.toNat (((((signR kk master h node).1).tag) at_.toNat) ^^^ bits))⟩ : Signed))) (H' := [dgB master, bxB 36 (headC h), bxB 36 (headC other), bxB 69 (signedC ((signR kk master h node).1)), bxB 69 (signedC (⟨((signR kk master h node).1).head, ((((signR kk master h node).1).node)), (updN (((signR kk master h node).1).tag) at_.toNat (((((signR kk master h node).1).tag) at_.toNat) ^^^ bits))⟩ : Signed)), hole, hole]) rfl rfl rfl (Eq.trans (storeD_mid (blk := bxB 69 (signedC ((signR kk master h node).1))) (i := at_.toNat) (enc := w8) (n := 32) (w := ((signR kk master h node).1).tag) (x := (((((signR kk master h node).1).tag) at_.toNat) ^^^ bits)) (pre := (signedC ((signR kk master h node).1)).take 37) (rest := (signedC ((signR kk master h node).1)).drop 69) rfl rfl rfl (by kernel_rfl) (by show _ = 37 + _; omega) rfl (by omega) rfl rfl) (by kernel_rfl)) (by kernel_rfl) ?_
  refine r_doneN ?_
  refine x_then ?_
  refine c_seq ?_
  refine c_reg ?_
  refine r_load (p := pt 3 0) (v := signedV ((signR kk master h node).1)) rfl rfl rfl (by kernel_rfl) ?_
  refine r_alloc (b := bxB 69 (signedC (⟨(⟨0, 0, 0, dz, 0⟩ : Head), 0, dz⟩ : Signed))) (nid := 5) (H' := [dgB master, bxB 36 (headC h), bxB 36 (headC other), bxB 69 (signedC ((signR kk master h node).1)), bxB 69 (signedC (⟨((signR kk master h node).1).head, ((((signR kk master h node).1).node)), (updN (((signR kk master h node).1).tag) at_.toNat (((((signR kk master h node).1).tag) at_.toNat) ^^^ bits))⟩ : Signed)), bxB 69 (signedC (⟨(⟨0, 0, 0, dz, 0⟩ : Head), 0, dz⟩ : Signed)), hole]) rfl rfl (by kernel_rfl) (by kernel_rfl) ?_
  refine r_store (p := pt 5 0) (v := signedV ((signR kk master h node).1)) (b := 5) (blk := bxB 69 (signedC ((signR kk master h node).1))) (H' := [dgB master, bxB 36 (headC h), bxB 36 (headC other), bxB 69 (signedC ((signR kk master h node).1)), bxB 69 (signedC (⟨((signR kk master h node).1).head, ((((signR kk master h node).1).node)), (updN (((signR kk master h node).1).tag) at_.toNat (((((signR kk master h node).1).tag) at_.toNat) ^^^ bits))⟩ : Signed)), bxB 69 (signedC ((signR kk master h node).1)), hole]) rfl rfl rfl (by kernel_rfl) (by kernel_rfl) ?_
  refine r_doneN ?_
  refine x_then ?_
  refine c_seq ?_
  refine c_reg ?_
  refine r_load (p := pt 2 0) (v := headV other) rfl rfl rfl (by kernel_rfl) ?_
  refine r_fieldAddr (b := 5) (o := 0) (n := 0) (o' := 0) rfl rfl rfl rfl rfl ?_
  refine r_store (p := pt 5 0) (v := headV other) (b := 5) (blk := bxB 69 (signedC (⟨other, ((((signR kk master h node).1).node)), ((signR kk master h node).1).tag⟩ : Signed))) (H' := [dgB master, bxB 36 (headC h), bxB 36 (headC other), bxB 69 (signedC ((signR kk master h node).1)), bxB 69 (signedC (⟨((signR kk master h node).1).head, ((((signR kk master h node).1).node)), (updN (((signR kk master h node).1).tag) at_.toNat (((((signR kk master h node).1).tag) at_.toNat) ^^^ bits))⟩ : Signed)), bxB 69 (signedC (⟨other, ((((signR kk master h node).1).node)), ((signR kk master h node).1).tag⟩ : Signed)), hole]) rfl rfl rfl (by kernel_rfl) (by kernel_rfl) ?_
  refine r_doneN ?_
  refine x_then ?_
  refine c_seq ?_
  refine c_reg ?_
  refine r_move (v := .int .i64 nd) rfl rfl rfl ?_
  refine r_fieldAddr (b := 5) (o := 0) (n := 36) (o' := 36) rfl rfl rfl rfl rfl ?_
  refine r_store (p := pt 5 36) (v := .int .i64 nd) (b := 5) (blk := bxB 69 (signedC (⟨other, nd, ((signR kk master h node).1).tag⟩ : Signed))) (H' := [dgB master, bxB 36 (headC h), bxB 36 (headC other), bxB 69 (signedC ((signR kk master h node).1)), bxB 69 (signedC (⟨((signR kk master h node).1).head, ((((signR kk master h node).1).node)), (updN (((signR kk master h node).1).tag) at_.toNat (((((signR kk master h node).1).tag) at_.toNat) ^^^ bits))⟩ : Signed)), bxB 69 (signedC (⟨other, nd, ((signR kk master h node).1).tag⟩ : Signed)), hole]) rfl rfl rfl (by kernel_rfl) (by kernel_rfl) ?_
  refine r_doneN ?_
  refine x_then ?_
  refine c_seq ?_
  refine c_reg ?_
  refine r_load (p := pt 0 0) (v := dgV master) rfl rfl rfl (by kernel_rfl) ?_
  refine r_load (p := pt 2 0) (v := headV other) rfl rfl rfl (by kernel_rfl) ?_
  refine r_move (v := .int .i64 nd) rfl rfl rfl ?_
  refine r_callP (Sign_ok' (G := G) kk hG master other nd) (vals := [dgV master, headV other, .int .i64 nd]) (res' := .tuple #[signedV ((signR kk master other nd).1), .int .i64 (((signR kk master other nd).2))]) rfl rfl rfl rfl rfl (by kernel_rfl) ?_
  refine r_move (v := .tuple #[signedV ((signR kk master other nd).1), .int .i64 (((signR kk master other nd).2))]) rfl rfl rfl ?_
  refine r_extract (vs := #[signedV ((signR kk master other nd).1), .int .i64 (((signR kk master other nd).2))]) (v := signedV ((signR kk master other nd).1)) rfl rfl rfl rfl ?_
  refine r_extract (vs := #[signedV ((signR kk master other nd).1), .int .i64 (((signR kk master other nd).2))]) (v := .int .i64 (((signR kk master other nd).2))) rfl rfl rfl rfl ?_
  refine r_alloc (b := bxB 69 (signedC (⟨(⟨0, 0, 0, dz, 0⟩ : Head), 0, dz⟩ : Signed))) (nid := 6) (H' := [dgB master, bxB 36 (headC h), bxB 36 (headC other), bxB 69 (signedC ((signR kk master h node).1)), bxB 69 (signedC (⟨((signR kk master h node).1).head, ((((signR kk master h node).1).node)), (updN (((signR kk master h node).1).tag) at_.toNat (((((signR kk master h node).1).tag) at_.toNat) ^^^ bits))⟩ : Signed)), bxB 69 (signedC (⟨other, nd, ((signR kk master h node).1).tag⟩ : Signed)), bxB 69 (signedC (⟨(⟨0, 0, 0, dz, 0⟩ : Head), 0, dz⟩ : Signed))]) rfl rfl (by kernel_rfl) (by kernel_rfl) ?_
  refine r_store (p := pt 6 0) (v := signedV ((signR kk master other nd).1)) (b := 6) (blk := bxB 69 (signedC ((signR kk master other nd).1))) (H' := [dgB master, bxB 36 (headC h), bxB 36 (headC other), bxB 69 (signedC ((signR kk master h node).1)), bxB 69 (signedC (⟨((signR kk master h node).1).head, ((((signR kk master h node).1).node)), (updN (((signR kk master h node).1).tag) at_.toNat (((((signR kk master h node).1).tag) at_.toNat) ^^^ bits))⟩ : Signed)), bxB 69 (signedC (⟨other, nd, ((signR kk master h node).1).tag⟩ : Signed)), bxB 69 (signedC ((signR kk master other nd).1))]) rfl rfl rfl (by kernel_rfl) (by kernel_rfl) ?_
  refine r_assign (v := .int .i64 (((signR kk master other nd).2))) rfl rfl rfl ?_
  refine r_doneN ?_
  refine x_then ?_
  refine c_seq ?_
  refine c_reg ?_
  refine r_move (v := .int .i64 (((signR kk master other nd).2))) rfl rfl rfl ?_
  by_cases h4 : (((signR kk master other nd).2)) = 0
  · skip
    refine r_bin (v := .bool true) (vx := .int .i64 (((signR kk master other nd).2))) (vy := .int .i64 0) rfl rfl rfl rfl (eql_t (by omega)) ?_
    refine r_move (v := .bool true) rfl rfl rfl ?_
    refine r_fieldAddr (b := 6) (o := 0) (n := 37) (o' := 37) rfl rfl rfl rfl rfl ?_
    refine r_load (p := pt 6 37) (v := dgV (((signR kk master other nd).1).tag)) rfl rfl rfl (by kernel_rfl) ?_
    refine r_fieldAddr (b := 3) (o := 0) (n := 37) (o' := 37) rfl rfl rfl rfl rfl ?_
    refine r_load (p := pt 3 37) (v := dgV (((signR kk master h node).1).tag)) rfl rfl rfl (by kernel_rfl) ?_
    rcases Bool.eq_false_or_eq_true (sameB 32 (((signR kk master other nd).1).tag) (((signR kk master h node).1).tag)) with h5 | h5
    · skip
      refine r_bin (v := .bool true) (vx := dgV (((signR kk master other nd).1).tag)) (vy := dgV (((signR kk master h node).1).tag)) rfl rfl rfl rfl (Eq.trans (eql_dg (n := 32) (a := ((signR kk master other nd).1).tag) (b := ((signR kk master h node).1).tag) (by kernel_rfl) rfl rfl rfl) (by rw [h5] <;> rfl)) ?_
      refine r_pick (v := .bool true) rfl rfl rfl ?_
      refine r_assign (v := .bool true) rfl rfl rfl ?_
      refine r_doneN ?_
      refine x_then ?_
      refine c_seq ?_
      refine c_reg ?_
      refine r_callP (lays_ok (G := G)) (vals := []) (res' := .bool true) rfl rfl rfl rfl rfl rfl ?_
      refine r_move (v := .bool true) rfl rfl rfl ?_
      refine r_callP (signs_ok (G := G) kk hG hne) (vals := []) (res' := .bool true) rfl rfl rfl rfl rfl rfl ?_
      refine r_pick (v := .bool true) rfl rfl rfl ?_
      refine r_move (v := .bool true) rfl rfl rfl ?_
      refine r_load (p := pt 0 0) (v := dgV master) rfl rfl rfl (by kernel_rfl) ?_
      refine r_load (p := pt 3 0) (v := signedV ((signR kk master h node).1)) rfl rfl rfl (by kernel_rfl) ?_
      refine r_callP (Verify_ok' (G := G) kk hG master ((signR kk master h node).1)) (vals := [dgV master, signedV ((signR kk master h node).1)]) (res' := .int .i64 ((verifyR kk master ((signR kk master h node).1)))) rfl rfl rfl rfl rfl rfl ?_
      by_cases h6 : ((verifyR kk master ((signR kk master h node).1))) = 0
      · skip
        refine r_bin (v := .bool true) (vx := .int .i64 ((verifyR kk master ((signR kk master h node).1)))) (vy := .int .i64 0) rfl rfl rfl rfl (eql_t (by omega)) ?_
        refine r_pick (v := .bool true) rfl rfl rfl ?_
        refine r_move (v := .bool true) rfl rfl rfl ?_
        refine r_load (p := pt 0 0) (v := dgV master) rfl rfl rfl (by kernel_rfl) ?_
        refine r_load (p := pt 4 0) (v := signedV (⟨((signR kk master h node).1).head, ((((signR kk master h node).1).node)), (updN (((signR kk master h node).1).tag) at_.toNat (((((signR kk master h node).1).tag) at_.toNat) ^^^ bits))⟩ : Signed)) rfl rfl rfl (by kernel_rfl) ?_
        refine r_callP (Verify_ok' (G := G) kk hG master (⟨((signR kk master h node).1).head, ((((signR kk master h node).1).node)), (updN (((signR kk master h node).1).tag) at_.toNat (((((signR kk master h node).1).tag) at_.toNat) ^^^ bits))⟩ : Signed)) (vals := [dgV master, signedV (⟨((signR kk master h node).1).head, ((((signR kk master h node).1).node)), (updN (((signR kk master h node).1).tag) at_.toNat (((((signR kk master h node).1).tag) at_.toNat) ^^^ bits))⟩ : Signed)]) (res' := .int .i64 ((verifyR kk master (⟨((signR kk master h node).1).head, ((((signR kk master h node).1).node)), (updN (((signR kk master h node).1).tag) at_.toNat (((((signR kk master h node).1).tag) at_.toNat) ^^^ bits))⟩ : Signed)))) rfl rfl rfl rfl rfl rfl ?_
        by_cases h7 : ((verifyR kk master (⟨((signR kk master h node).1).head, ((((signR kk master h node).1).node)), (updN (((signR kk master h node).1).tag) at_.toNat (((((signR kk master h node).1).tag) at_.toNat) ^^^ bits))⟩ : Signed))) = 0
        · skip
          refine r_bin (v := .bool true) (vx := .int .i64 ((verifyR kk master (⟨((signR kk master h node).1).head, ((((signR kk master h node).1).node)), (updN (((signR kk master h node).1).tag) at_.toNat (((((signR kk master h node).1).tag) at_.toNat) ^^^ bits))⟩ : Signed)))) (vy := .int .i64 0) rfl rfl rfl rfl (eql_t (by omega)) ?_
          refine r_move (v := w8 bits) rfl rfl rfl ?_
          rcases Bool.eq_false_or_eq_true (bits == 0#8) with h8 | h8
          · skip
            refine r_bin (v := .bool true) (vx := w8 bits) (vy := w8 (0#8)) rfl rfl rfl rfl (Eq.trans eqlW (by rw [h8] <;> rfl)) ?_
            refine r_bin (v := .bool true) (vx := .bool true) (vy := .bool true) rfl rfl rfl rfl (eqlB' rfl rfl rfl) ?_
            refine r_pick (v := .bool true) rfl rfl rfl ?_
            refine r_move (v := .bool true) rfl rfl rfl ?_
            refine r_load (p := pt 0 0) (v := dgV master) rfl rfl rfl (by kernel_rfl) ?_
            refine r_load (p := pt 5 0) (v := signedV (⟨other, nd, ((signR kk master h node).1).tag⟩ : Signed)) rfl rfl rfl (by kernel_rfl) ?_
            refine r_callP (Verify_ok' (G := G) kk hG master (⟨other, nd, ((signR kk master h node).1).tag⟩ : Signed)) (vals := [dgV master, signedV (⟨other, nd, ((signR kk master h node).1).tag⟩ : Signed)]) (res' := .int .i64 ((verifyR kk master (⟨other, nd, ((signR kk master h node).1).tag⟩ : Signed)))) rfl rfl rfl rfl rfl rfl ?_
            by_cases h9 : ((verifyR kk master (⟨other, nd, ((signR kk master h node).1).tag⟩ : Signed))) = 0
            · skip
              refine r_bin (v := .bool true) (vx := .int .i64 ((verifyR kk master (⟨other, nd, ((signR kk master h node).1).tag⟩ : Signed)))) (vy := .int .i64 0) rfl rfl rfl rfl (eql_t (by omega)) ?_
              refine r_move (v := .bool true) rfl rfl rfl ?_
              refine r_bin (v := .bool true) (vx := .bool true) (vy := .bool true) rfl rfl rfl rfl (eqlB' rfl rfl rfl) ?_
              refine r_pick (v := .bool true) rfl rfl rfl ?_
              refine r_assign (v := .bool true) rfl rfl rfl ?_
              refine r_doneN ?_
              refine x_then ?_
              refine c_ret ?_
              refine x_end ?_
              exact end_pv (v := .bool true) rfl rfl rfl
            refine r_bin (v := .bool false) (vx := .int .i64 ((verifyR kk master (⟨other, nd, ((signR kk master h node).1).tag⟩ : Signed)))) (vy := .int .i64 0) rfl rfl rfl rfl (eql_f (by omega)) ?_
            refine r_move (v := .bool true) rfl rfl rfl ?_
            refine r_bin (v := .bool false) (vx := .bool false) (vy := .bool true) rfl rfl rfl rfl (eqlB' rfl rfl rfl) ?_
            refine r_pick (v := .bool false) rfl rfl rfl ?_
            refine r_assign (v := .bool false) rfl rfl rfl ?_
            refine r_doneN ?_
            refine x_then ?_
            refine c_ret ?_
            refine x_end ?_
            exfalso
            have e0 : (signR kk master h node).2 = 0 := by omega
            have i1 := turn1 e0; have i2 := turn2 (bits := bits) (i := at_.toNat) e0 (by omega); have i3 := turn3 (other := other) (nd := nd) e0
            simp_all; done
          refine r_bin (v := .bool false) (vx := w8 bits) (vy := w8 (0#8)) rfl rfl rfl rfl (Eq.trans eqlW (by rw [h8] <;> rfl)) ?_
          refine r_bin (v := .bool false) (vx := .bool true) (vy := .bool false) rfl rfl rfl rfl (eqlB' rfl rfl rfl) ?_
          refine r_pick (v := .bool false) rfl rfl rfl ?_
          refine r_move (v := .bool false) rfl rfl rfl ?_
          refine r_skip rfl rfl ?_
          refine r_skip rfl rfl ?_
          refine r_skip rfl rfl ?_
          refine r_skip rfl rfl ?_
          refine r_skip rfl rfl ?_
          refine r_skip rfl rfl ?_
          refine r_pick (v := .bool false) rfl rfl rfl ?_
          refine r_assign (v := .bool false) rfl rfl rfl ?_
          refine r_doneN ?_
          refine x_then ?_
          refine c_ret ?_
          refine x_end ?_
          exfalso
          have e0 : (signR kk master h node).2 = 0 := by omega
          have i1 := turn1 e0; have i2 := turn2 (bits := bits) (i := at_.toNat) e0 (by omega); have i3 := turn3 (other := other) (nd := nd) e0
          simp_all; done
        refine r_bin (v := .bool false) (vx := .int .i64 ((verifyR kk master (⟨((signR kk master h node).1).head, ((((signR kk master h node).1).node)), (updN (((signR kk master h node).1).tag) at_.toNat (((((signR kk master h node).1).tag) at_.toNat) ^^^ bits))⟩ : Signed)))) (vy := .int .i64 0) rfl rfl rfl rfl (eql_f (by omega)) ?_
        refine r_move (v := w8 bits) rfl rfl rfl ?_
        rcases Bool.eq_false_or_eq_true (bits == 0#8) with h10 | h10
        · skip
          refine r_bin (v := .bool true) (vx := w8 bits) (vy := w8 (0#8)) rfl rfl rfl rfl (Eq.trans eqlW (by rw [h10] <;> rfl)) ?_
          refine r_bin (v := .bool false) (vx := .bool false) (vy := .bool true) rfl rfl rfl rfl (eqlB' rfl rfl rfl) ?_
          refine r_pick (v := .bool false) rfl rfl rfl ?_
          refine r_move (v := .bool false) rfl rfl rfl ?_
          refine r_skip rfl rfl ?_
          refine r_skip rfl rfl ?_
          refine r_skip rfl rfl ?_
          refine r_skip rfl rfl ?_
          refine r_skip rfl rfl ?_
          refine r_skip rfl rfl ?_
          refine r_pick (v := .bool false) rfl rfl rfl ?_
          refine r_assign (v := .bool false) rfl rfl rfl ?_
          refine r_doneN ?_
          refine x_then ?_
          refine c_ret ?_
          refine x_end ?_
          exfalso
          have e0 : (signR kk master h node).2 = 0 := by omega
          have i1 := turn1 e0; have i2 := turn2 (bits := bits) (i := at_.toNat) e0 (by omega); have i3 := turn3 (other := other) (nd := nd) e0
          simp_all; done
        refine r_bin (v := .bool false) (vx := w8 bits) (vy := w8 (0#8)) rfl rfl rfl rfl (Eq.trans eqlW (by rw [h10] <;> rfl)) ?_
        refine r_bin (v := .bool true) (vx := .bool false) (vy := .bool false) rfl rfl rfl rfl (eqlB' rfl rfl rfl) ?_
        refine r_pick (v := .bool true) rfl rfl rfl ?_
        refine r_move (v := .bool true) rfl rfl rfl ?_
        refine r_load (p := pt 0 0) (v := dgV master) rfl rfl rfl (by kernel_rfl) ?_
        refine r_load (p := pt 5 0) (v := signedV (⟨other, nd, ((signR kk master h node).1).tag⟩ : Signed)) rfl rfl rfl (by kernel_rfl) ?_
        refine r_callP (Verify_ok' (G := G) kk hG master (⟨other, nd, ((signR kk master h node).1).tag⟩ : Signed)) (vals := [dgV master, signedV (⟨other, nd, ((signR kk master h node).1).tag⟩ : Signed)]) (res' := .int .i64 ((verifyR kk master (⟨other, nd, ((signR kk master h node).1).tag⟩ : Signed)))) rfl rfl rfl rfl rfl rfl ?_
        by_cases h11 : ((verifyR kk master (⟨other, nd, ((signR kk master h node).1).tag⟩ : Signed))) = 0
        · skip
          refine r_bin (v := .bool true) (vx := .int .i64 ((verifyR kk master (⟨other, nd, ((signR kk master h node).1).tag⟩ : Signed)))) (vy := .int .i64 0) rfl rfl rfl rfl (eql_t (by omega)) ?_
          refine r_move (v := .bool true) rfl rfl rfl ?_
          refine r_bin (v := .bool true) (vx := .bool true) (vy := .bool true) rfl rfl rfl rfl (eqlB' rfl rfl rfl) ?_
          refine r_pick (v := .bool true) rfl rfl rfl ?_
          refine r_assign (v := .bool true) rfl rfl rfl ?_
          refine r_doneN ?_
          refine x_then ?_
          refine c_ret ?_
          refine x_end ?_
          exact end_pv (v := .bool true) rfl rfl rfl
        refine r_bin (v := .bool false) (vx := .int .i64 ((verifyR kk master (⟨other, nd, ((signR kk master h node).1).tag⟩ : Signed)))) (vy := .int .i64 0) rfl rfl rfl rfl (eql_f (by omega)) ?_
        refine r_move (v := .bool true) rfl rfl rfl ?_
        refine r_bin (v := .bool false) (vx := .bool false) (vy := .bool true) rfl rfl rfl rfl (eqlB' rfl rfl rfl) ?_
        refine r_pick (v := .bool false) rfl rfl rfl ?_
        refine r_assign (v := .bool false) rfl rfl rfl ?_
        refine r_doneN ?_
        refine x_then ?_
        refine c_ret ?_
        refine x_end ?_
        exfalso
        have e0 : (signR kk master h node).2 = 0 := by omega
        have i1 := turn1 e0; have i2 := turn2 (bits := bits) (i := at_.toNat) e0 (by omega); have i3 := turn3 (other := other) (nd := nd) e0
        simp_all; done
      refine r_bin (v := .bool false) (vx := .int .i64 ((verifyR kk master ((signR kk master h node).1)))) (vy := .int .i64 0) rfl rfl rfl rfl (eql_f (by omega)) ?_
      refine r_pick (v := .bool false) rfl rfl rfl ?_
      refine r_move (v := .bool false) rfl rfl rfl ?_
      refine r_skip rfl rfl ?_
      refine r_skip rfl rfl ?_
      refine r_skip rfl rfl ?_
      refine r_skip rfl rfl ?_
      refine r_skip rfl rfl ?_
      refine r_skip rfl rfl ?_
      refine r_skip rfl rfl ?_
      refine r_pick (v := .bool false) rfl rfl rfl ?_
      refine r_move (v := .bool false) rfl rfl rfl ?_
      refine r_skip rfl rfl ?_
      refine r_skip rfl rfl ?_
      refine r_skip rfl rfl ?_
      refine r_skip rfl rfl ?_
      refine r_skip rfl rfl ?_
      refine r_skip rfl rfl ?_
      refine r_pick (v := .bool false) rfl rfl rfl ?_
      refine r_assign (v := .bool false) rfl rfl rfl ?_
      refine r_doneN ?_
      refine x_then ?_
      refine c_ret ?_
      refine x_end ?_
      exfalso
      have e0 : (signR kk master h node).2 = 0 := by omega
      have i1 := turn1 e0; have i2 := turn2 (bits := bits) (i := at_.toNat) e0 (by omega); have i3 := turn3 (other := other) (nd := nd) e0
      simp_all; done
    refine r_bin (v := .bool false) (vx := dgV (((signR kk master other nd).1).tag)) (vy := dgV (((signR kk master h node).1).tag)) rfl rfl rfl rfl (Eq.trans (eql_dg (n := 32) (a := ((signR kk master other nd).1).tag) (b := ((signR kk master h node).1).tag) (by kernel_rfl) rfl rfl rfl) (by rw [h5] <;> rfl)) ?_
    refine r_pick (v := .bool false) rfl rfl rfl ?_
    refine r_assign (v := .bool false) rfl rfl rfl ?_
    refine r_doneN ?_
    refine x_then ?_
    refine c_seq ?_
    refine c_reg ?_
    refine r_callP (lays_ok (G := G)) (vals := []) (res' := .bool true) rfl rfl rfl rfl rfl rfl ?_
    refine r_move (v := .bool true) rfl rfl rfl ?_
    refine r_callP (signs_ok (G := G) kk hG hne) (vals := []) (res' := .bool true) rfl rfl rfl rfl rfl rfl ?_
    refine r_pick (v := .bool true) rfl rfl rfl ?_
    refine r_move (v := .bool true) rfl rfl rfl ?_
    refine r_load (p := pt 0 0) (v := dgV master) rfl rfl rfl (by kernel_rfl) ?_
    refine r_load (p := pt 3 0) (v := signedV ((signR kk master h node).1)) rfl rfl rfl (by kernel_rfl) ?_
    refine r_callP (Verify_ok' (G := G) kk hG master ((signR kk master h node).1)) (vals := [dgV master, signedV ((signR kk master h node).1)]) (res' := .int .i64 ((verifyR kk master ((signR kk master h node).1)))) rfl rfl rfl rfl rfl rfl ?_
    by_cases h12 : ((verifyR kk master ((signR kk master h node).1))) = 0
    · skip
      refine r_bin (v := .bool true) (vx := .int .i64 ((verifyR kk master ((signR kk master h node).1)))) (vy := .int .i64 0) rfl rfl rfl rfl (eql_t (by omega)) ?_
      refine r_pick (v := .bool true) rfl rfl rfl ?_
      refine r_move (v := .bool true) rfl rfl rfl ?_
      refine r_load (p := pt 0 0) (v := dgV master) rfl rfl rfl (by kernel_rfl) ?_
      refine r_load (p := pt 4 0) (v := signedV (⟨((signR kk master h node).1).head, ((((signR kk master h node).1).node)), (updN (((signR kk master h node).1).tag) at_.toNat (((((signR kk master h node).1).tag) at_.toNat) ^^^ bits))⟩ : Signed)) rfl rfl rfl (by kernel_rfl) ?_
      refine r_callP (Verify_ok' (G := G) kk hG master (⟨((signR kk master h node).1).head, ((((signR kk master h node).1).node)), (updN (((signR kk master h node).1).tag) at_.toNat (((((signR kk master h node).1).tag) at_.toNat) ^^^ bits))⟩ : Signed)) (vals := [dgV master, signedV (⟨((signR kk master h node).1).head, ((((signR kk master h node).1).node)), (updN (((signR kk master h node).1).tag) at_.toNat (((((signR kk master h node).1).tag) at_.toNat) ^^^ bits))⟩ : Signed)]) (res' := .int .i64 ((verifyR kk master (⟨((signR kk master h node).1).head, ((((signR kk master h node).1).node)), (updN (((signR kk master h node).1).tag) at_.toNat (((((signR kk master h node).1).tag) at_.toNat) ^^^ bits))⟩ : Signed)))) rfl rfl rfl rfl rfl rfl ?_
      by_cases h13 : ((verifyR kk master (⟨((signR kk master h node).1).head, ((((signR kk master h node).1).node)), (updN (((signR kk master h node).1).tag) at_.toNat (((((signR kk master h node).1).tag) at_.toNat) ^^^ bits))⟩ : Signed))) = 0
      · skip
        refine r_bin (v := .bool true) (vx := .int .i64 ((verifyR kk master (⟨((signR kk master h node).1).head, ((((signR kk master h node).1).node)), (updN (((signR kk master h node).1).tag) at_.toNat (((((signR kk master h node).1).tag) at_.toNat) ^^^ bits))⟩ : Signed)))) (vy := .int .i64 0) rfl rfl rfl rfl (eql_t (by omega)) ?_
        refine r_move (v := w8 bits) rfl rfl rfl ?_
        rcases Bool.eq_false_or_eq_true (bits == 0#8) with h14 | h14
        · skip
          refine r_bin (v := .bool true) (vx := w8 bits) (vy := w8 (0#8)) rfl rfl rfl rfl (Eq.trans eqlW (by rw [h14] <;> rfl)) ?_
          refine r_bin (v := .bool true) (vx := .bool true) (vy := .bool true) rfl rfl rfl rfl (eqlB' rfl rfl rfl) ?_
          refine r_pick (v := .bool true) rfl rfl rfl ?_
          refine r_move (v := .bool true) rfl rfl rfl ?_
          refine r_load (p := pt 0 0) (v := dgV master) rfl rfl rfl (by kernel_rfl) ?_
          refine r_load (p := pt 5 0) (v := signedV (⟨other, nd, ((signR kk master h node).1).tag⟩ : Signed)) rfl rfl rfl (by kernel_rfl) ?_
          refine r_callP (Verify_ok' (G := G) kk hG master (⟨other, nd, ((signR kk master h node).1).tag⟩ : Signed)) (vals := [dgV master, signedV (⟨other, nd, ((signR kk master h node).1).tag⟩ : Signed)]) (res' := .int .i64 ((verifyR kk master (⟨other, nd, ((signR kk master h node).1).tag⟩ : Signed)))) rfl rfl rfl rfl rfl rfl ?_
          by_cases h15 : ((verifyR kk master (⟨other, nd, ((signR kk master h node).1).tag⟩ : Signed))) = 0
          · skip
            refine r_bin (v := .bool true) (vx := .int .i64 ((verifyR kk master (⟨other, nd, ((signR kk master h node).1).tag⟩ : Signed)))) (vy := .int .i64 0) rfl rfl rfl rfl (eql_t (by omega)) ?_
            refine r_move (v := .bool false) rfl rfl rfl ?_
            refine r_bin (v := .bool false) (vx := .bool true) (vy := .bool false) rfl rfl rfl rfl (eqlB' rfl rfl rfl) ?_
            refine r_pick (v := .bool false) rfl rfl rfl ?_
            refine r_assign (v := .bool false) rfl rfl rfl ?_
            refine r_doneN ?_
            refine x_then ?_
            refine c_ret ?_
            refine x_end ?_
            exfalso
            have e0 : (signR kk master h node).2 = 0 := by omega
            have i1 := turn1 e0; have i2 := turn2 (bits := bits) (i := at_.toNat) e0 (by omega); have i3 := turn3 (other := other) (nd := nd) e0
            simp_all; done
          refine r_bin (v := .bool false) (vx := .int .i64 ((verifyR kk master (⟨other, nd, ((signR kk master h node).1).tag⟩ : Signed)))) (vy := .int .i64 0) rfl rfl rfl rfl (eql_f (by omega)) ?_
          refine r_move (v := .bool false) rfl rfl rfl ?_
          refine r_bin (v := .bool true) (vx := .bool false) (vy := .bool false) rfl rfl rfl rfl (eqlB' rfl rfl rfl) ?_
          refine r_pick (v := .bool true) rfl rfl rfl ?_
          refine r_assign (v := .bool true) rfl rfl rfl ?_
          refine r_doneN ?_
          refine x_then ?_
          refine c_ret ?_
          refine x_end ?_
          exact end_pv (v := .bool true) rfl rfl rfl
        refine r_bin (v := .bool false) (vx := w8 bits) (vy := w8 (0#8)) rfl rfl rfl rfl (Eq.trans eqlW (by rw [h14] <;> rfl)) ?_
        refine r_bin (v := .bool false) (vx := .bool true) (vy := .bool false) rfl rfl rfl rfl (eqlB' rfl rfl rfl) ?_
        refine r_pick (v := .bool false) rfl rfl rfl ?_
        refine r_move (v := .bool false) rfl rfl rfl ?_
        refine r_skip rfl rfl ?_
        refine r_skip rfl rfl ?_
        refine r_skip rfl rfl ?_
        refine r_skip rfl rfl ?_
        refine r_skip rfl rfl ?_
        refine r_skip rfl rfl ?_
        refine r_pick (v := .bool false) rfl rfl rfl ?_
        refine r_assign (v := .bool false) rfl rfl rfl ?_
        refine r_doneN ?_
        refine x_then ?_
        refine c_ret ?_
        refine x_end ?_
        exfalso
        have e0 : (signR kk master h node).2 = 0 := by omega
        have i1 := turn1 e0; have i2 := turn2 (bits := bits) (i := at_.toNat) e0 (by omega); have i3 := turn3 (other := other) (nd := nd) e0
        simp_all; done
      refine r_bin (v := .bool false) (vx := .int .i64 ((verifyR kk master (⟨((signR kk master h node).1).head, ((((signR kk master h node).1).node)), (updN (((signR kk master h node).1).tag) at_.toNat (((((signR kk master h node).1).tag) at_.toNat) ^^^ bits))⟩ : Signed)))) (vy := .int .i64 0) rfl rfl rfl rfl (eql_f (by omega)) ?_
      refine r_move (v := w8 bits) rfl rfl rfl ?_
      rcases Bool.eq_false_or_eq_true (bits == 0#8) with h16 | h16
      · skip
        refine r_bin (v := .bool true) (vx := w8 bits) (vy := w8 (0#8)) rfl rfl rfl rfl (Eq.trans eqlW (by rw [h16] <;> rfl)) ?_
        refine r_bin (v := .bool false) (vx := .bool false) (vy := .bool true) rfl rfl rfl rfl (eqlB' rfl rfl rfl) ?_
        refine r_pick (v := .bool false) rfl rfl rfl ?_
        refine r_move (v := .bool false) rfl rfl rfl ?_
        refine r_skip rfl rfl ?_
        refine r_skip rfl rfl ?_
        refine r_skip rfl rfl ?_
        refine r_skip rfl rfl ?_
        refine r_skip rfl rfl ?_
        refine r_skip rfl rfl ?_
        refine r_pick (v := .bool false) rfl rfl rfl ?_
        refine r_assign (v := .bool false) rfl rfl rfl ?_
        refine r_doneN ?_
        refine x_then ?_
        refine c_ret ?_
        refine x_end ?_
        exfalso
        have e0 : (signR kk master h node).2 = 0 := by omega
        have i1 := turn1 e0; have i2 := turn2 (bits := bits) (i := at_.toNat) e0 (by omega); have i3 := turn3 (other := other) (nd := nd) e0
        simp_all; done
      refine r_bin (v := .bool false) (vx := w8 bits) (vy := w8 (0#8)) rfl rfl rfl rfl (Eq.trans eqlW (by rw [h16] <;> rfl)) ?_
      refine r_bin (v := .bool true) (vx := .bool false) (vy := .bool false) rfl rfl rfl rfl (eqlB' rfl rfl rfl) ?_
      refine r_pick (v := .bool true) rfl rfl rfl ?_
      refine r_move (v := .bool true) rfl rfl rfl ?_
      refine r_load (p := pt 0 0) (v := dgV master) rfl rfl rfl (by kernel_rfl) ?_
      refine r_load (p := pt 5 0) (v := signedV (⟨other, nd, ((signR kk master h node).1).tag⟩ : Signed)) rfl rfl rfl (by kernel_rfl) ?_
      refine r_callP (Verify_ok' (G := G) kk hG master (⟨other, nd, ((signR kk master h node).1).tag⟩ : Signed)) (vals := [dgV master, signedV (⟨other, nd, ((signR kk master h node).1).tag⟩ : Signed)]) (res' := .int .i64 ((verifyR kk master (⟨other, nd, ((signR kk master h node).1).tag⟩ : Signed)))) rfl rfl rfl rfl rfl rfl ?_
      by_cases h17 : ((verifyR kk master (⟨other, nd, ((signR kk master h node).1).tag⟩ : Signed))) = 0
      · skip
        refine r_bin (v := .bool true) (vx := .int .i64 ((verifyR kk master (⟨other, nd, ((signR kk master h node).1).tag⟩ : Signed)))) (vy := .int .i64 0) rfl rfl rfl rfl (eql_t (by omega)) ?_
        refine r_move (v := .bool false) rfl rfl rfl ?_
        refine r_bin (v := .bool false) (vx := .bool true) (vy := .bool false) rfl rfl rfl rfl (eqlB' rfl rfl rfl) ?_
        refine r_pick (v := .bool false) rfl rfl rfl ?_
        refine r_assign (v := .bool false) rfl rfl rfl ?_
        refine r_doneN ?_
        refine x_then ?_
        refine c_ret ?_
        refine x_end ?_
        exfalso
        have e0 : (signR kk master h node).2 = 0 := by omega
        have i1 := turn1 e0; have i2 := turn2 (bits := bits) (i := at_.toNat) e0 (by omega); have i3 := turn3 (other := other) (nd := nd) e0
        simp_all; done
      refine r_bin (v := .bool false) (vx := .int .i64 ((verifyR kk master (⟨other, nd, ((signR kk master h node).1).tag⟩ : Signed)))) (vy := .int .i64 0) rfl rfl rfl rfl (eql_f (by omega)) ?_
      refine r_move (v := .bool false) rfl rfl rfl ?_
      refine r_bin (v := .bool true) (vx := .bool false) (vy := .bool false) rfl rfl rfl rfl (eqlB' rfl rfl rfl) ?_
      refine r_pick (v := .bool true) rfl rfl rfl ?_
      refine r_assign (v := .bool true) rfl rfl rfl ?_
      refine r_doneN ?_
      refine x_then ?_
      refine c_ret ?_
      refine x_end ?_
      exact end_pv (v := .bool true) rfl rfl rfl
    refine r_bin (v := .bool false) (vx := .int .i64 ((verifyR kk master ((signR kk master h node).1)))) (vy := .int .i64 0) rfl rfl rfl rfl (eql_f (by omega)) ?_
    refine r_pick (v := .bool false) rfl rfl rfl ?_
    refine r_move (v := .bool false) rfl rfl rfl ?_
    refine r_skip rfl rfl ?_
    refine r_skip rfl rfl ?_
    refine r_skip rfl rfl ?_
    refine r_skip rfl rfl ?_
    refine r_skip rfl rfl ?_
    refine r_skip rfl rfl ?_
    refine r_skip rfl rfl ?_
    refine r_pick (v := .bool false) rfl rfl rfl ?_
    refine r_move (v := .bool false) rfl rfl rfl ?_
    refine r_skip rfl rfl ?_
    refine r_skip rfl rfl ?_
    refine r_skip rfl rfl ?_
    refine r_skip rfl rfl ?_
    refine r_skip rfl rfl ?_
    refine r_skip rfl rfl ?_
    refine r_pick (v := .bool false) rfl rfl rfl ?_
    refine r_assign (v := .bool false) rfl rfl rfl ?_
    refine r_doneN ?_
    refine x_then ?_
    refine c_ret ?_
    refine x_end ?_
    exfalso
    have e0 : (signR kk master h node).2 = 0 := by omega
    have i1 := turn1 e0; have i2 := turn2 (bits := bits) (i := at_.toNat) e0 (by omega); have i3 := turn3 (other := other) (nd := nd) e0
    simp_all; done
  refine r_bin (v := .bool false) (vx := .int .i64 (((signR kk master other nd).2))) (vy := .int .i64 0) rfl rfl rfl rfl (eql_f (by omega)) ?_
  refine r_move (v := .bool false) rfl rfl rfl ?_
  refine r_skip rfl rfl ?_
  refine r_skip rfl rfl ?_
  refine r_skip rfl rfl ?_
  refine r_skip rfl rfl ?_
  refine r_skip rfl rfl ?_
  refine r_pick (v := .bool false) rfl rfl rfl ?_
  refine r_assign (v := .bool false) rfl rfl rfl ?_
  refine r_doneN ?_
  refine x_then ?_
  refine c_seq ?_
  refine c_reg ?_
  refine r_callP (lays_ok (G := G)) (vals := []) (res' := .bool true) rfl rfl rfl rfl rfl rfl ?_
  refine r_move (v := .bool true) rfl rfl rfl ?_
  refine r_callP (signs_ok (G := G) kk hG hne) (vals := []) (res' := .bool true) rfl rfl rfl rfl rfl rfl ?_
  refine r_pick (v := .bool true) rfl rfl rfl ?_
  refine r_move (v := .bool true) rfl rfl rfl ?_
  refine r_load (p := pt 0 0) (v := dgV master) rfl rfl rfl (by kernel_rfl) ?_
  refine r_load (p := pt 3 0) (v := signedV ((signR kk master h node).1)) rfl rfl rfl (by kernel_rfl) ?_
  refine r_callP (Verify_ok' (G := G) kk hG master ((signR kk master h node).1)) (vals := [dgV master, signedV ((signR kk master h node).1)]) (res' := .int .i64 ((verifyR kk master ((signR kk master h node).1)))) rfl rfl rfl rfl rfl rfl ?_
  by_cases h18 : ((verifyR kk master ((signR kk master h node).1))) = 0
  · skip
    refine r_bin (v := .bool true) (vx := .int .i64 ((verifyR kk master ((signR kk master h node).1)))) (vy := .int .i64 0) rfl rfl rfl rfl (eql_t (by omega)) ?_
    refine r_pick (v := .bool true) rfl rfl rfl ?_
    refine r_move (v := .bool true) rfl rfl rfl ?_
    refine r_load (p := pt 0 0) (v := dgV master) rfl rfl rfl (by kernel_rfl) ?_
    refine r_load (p := pt 4 0) (v := signedV (⟨((signR kk master h node).1).head, ((((signR kk master h node).1).node)), (updN (((signR kk master h node).1).tag) at_.toNat (((((signR kk master h node).1).tag) at_.toNat) ^^^ bits))⟩ : Signed)) rfl rfl rfl (by kernel_rfl) ?_
    refine r_callP (Verify_ok' (G := G) kk hG master (⟨((signR kk master h node).1).head, ((((signR kk master h node).1).node)), (updN (((signR kk master h node).1).tag) at_.toNat (((((signR kk master h node).1).tag) at_.toNat) ^^^ bits))⟩ : Signed)) (vals := [dgV master, signedV (⟨((signR kk master h node).1).head, ((((signR kk master h node).1).node)), (updN (((signR kk master h node).1).tag) at_.toNat (((((signR kk master h node).1).tag) at_.toNat) ^^^ bits))⟩ : Signed)]) (res' := .int .i64 ((verifyR kk master (⟨((signR kk master h node).1).head, ((((signR kk master h node).1).node)), (updN (((signR kk master h node).1).tag) at_.toNat (((((signR kk master h node).1).tag) at_.toNat) ^^^ bits))⟩ : Signed)))) rfl rfl rfl rfl rfl rfl ?_
    by_cases h19 : ((verifyR kk master (⟨((signR kk master h node).1).head, ((((signR kk master h node).1).node)), (updN (((signR kk master h node).1).tag) at_.toNat (((((signR kk master h node).1).tag) at_.toNat) ^^^ bits))⟩ : Signed))) = 0
    · skip
      refine r_bin (v := .bool true) (vx := .int .i64 ((verifyR kk master (⟨((signR kk master h node).1).head, ((((signR kk master h node).1).node)), (updN (((signR kk master h node).1).tag) at_.toNat (((((signR kk master h node).1).tag) at_.toNat) ^^^ bits))⟩ : Signed)))) (vy := .int .i64 0) rfl rfl rfl rfl (eql_t (by omega)) ?_
      refine r_move (v := w8 bits) rfl rfl rfl ?_
      rcases Bool.eq_false_or_eq_true (bits == 0#8) with h20 | h20
      · skip
        refine r_bin (v := .bool true) (vx := w8 bits) (vy := w8 (0#8)) rfl rfl rfl rfl (Eq.trans eqlW (by rw [h20] <;> rfl)) ?_
        refine r_bin (v := .bool true) (vx := .bool true) (vy := .bool true) rfl rfl rfl rfl (eqlB' rfl rfl rfl) ?_
        refine r_pick (v := .bool true) rfl rfl rfl ?_
        refine r_move (v := .bool true) rfl rfl rfl ?_
        refine r_load (p := pt 0 0) (v := dgV master) rfl rfl rfl (by kernel_rfl) ?_
        refine r_load (p := pt 5 0) (v := signedV (⟨other, nd, ((signR kk master h node).1).tag⟩ : Signed)) rfl rfl rfl (by kernel_rfl) ?_
        refine r_callP (Verify_ok' (G := G) kk hG master (⟨other, nd, ((signR kk master h node).1).tag⟩ : Signed)) (vals := [dgV master, signedV (⟨other, nd, ((signR kk master h node).1).tag⟩ : Signed)]) (res' := .int .i64 ((verifyR kk master (⟨other, nd, ((signR kk master h node).1).tag⟩ : Signed)))) rfl rfl rfl rfl rfl rfl ?_
        by_cases h21 : ((verifyR kk master (⟨other, nd, ((signR kk master h node).1).tag⟩ : Signed))) = 0
        · skip
          refine r_bin (v := .bool true) (vx := .int .i64 ((verifyR kk master (⟨other, nd, ((signR kk master h node).1).tag⟩ : Signed)))) (vy := .int .i64 0) rfl rfl rfl rfl (eql_t (by omega)) ?_
          refine r_move (v := .bool false) rfl rfl rfl ?_
          refine r_bin (v := .bool false) (vx := .bool true) (vy := .bool false) rfl rfl rfl rfl (eqlB' rfl rfl rfl) ?_
          refine r_pick (v := .bool false) rfl rfl rfl ?_
          refine r_assign (v := .bool false) rfl rfl rfl ?_
          refine r_doneN ?_
          refine x_then ?_
          refine c_ret ?_
          refine x_end ?_
          exfalso
          have e0 : (signR kk master h node).2 = 0 := by omega
          have i1 := turn1 e0; have i2 := turn2 (bits := bits) (i := at_.toNat) e0 (by omega); have i3 := turn3 (other := other) (nd := nd) e0
          simp_all; done
        refine r_bin (v := .bool false) (vx := .int .i64 ((verifyR kk master (⟨other, nd, ((signR kk master h node).1).tag⟩ : Signed)))) (vy := .int .i64 0) rfl rfl rfl rfl (eql_f (by omega)) ?_
        refine r_move (v := .bool false) rfl rfl rfl ?_
        refine r_bin (v := .bool true) (vx := .bool false) (vy := .bool false) rfl rfl rfl rfl (eqlB' rfl rfl rfl) ?_
        refine r_pick (v := .bool true) rfl rfl rfl ?_
        refine r_assign (v := .bool true) rfl rfl rfl ?_
        refine r_doneN ?_
        refine x_then ?_
        refine c_ret ?_
        refine x_end ?_
        exact end_pv (v := .bool true) rfl rfl rfl
      refine r_bin (v := .bool false) (vx := w8 bits) (vy := w8 (0#8)) rfl rfl rfl rfl (Eq.trans eqlW (by rw [h20] <;> rfl)) ?_
      refine r_bin (v := .bool false) (vx := .bool true) (vy := .bool false) rfl rfl rfl rfl (eqlB' rfl rfl rfl) ?_
      refine r_pick (v := .bool false) rfl rfl rfl ?_
      refine r_move (v := .bool false) rfl rfl rfl ?_
      refine r_skip rfl rfl ?_
      refine r_skip rfl rfl ?_
      refine r_skip rfl rfl ?_
      refine r_skip rfl rfl ?_
      refine r_skip rfl rfl ?_
      refine r_skip rfl rfl ?_
      refine r_pick (v := .bool false) rfl rfl rfl ?_
      refine r_assign (v := .bool false) rfl rfl rfl ?_
      refine r_doneN ?_
      refine x_then ?_
      refine c_ret ?_
      refine x_end ?_
      exfalso
      have e0 : (signR kk master h node).2 = 0 := by omega
      have i1 := turn1 e0; have i2 := turn2 (bits := bits) (i := at_.toNat) e0 (by omega); have i3 := turn3 (other := other) (nd := nd) e0
      simp_all; done
    refine r_bin (v := .bool false) (vx := .int .i64 ((verifyR kk master (⟨((signR kk master h node).1).head, ((((signR kk master h node).1).node)), (updN (((signR kk master h node).1).tag) at_.toNat (((((signR kk master h node).1).tag) at_.toNat) ^^^ bits))⟩ : Signed)))) (vy := .int .i64 0) rfl rfl rfl rfl (eql_f (by omega)) ?_
    refine r_move (v := w8 bits) rfl rfl rfl ?_
    rcases Bool.eq_false_or_eq_true (bits == 0#8) with h22 | h22
    · skip
      refine r_bin (v := .bool true) (vx := w8 bits) (vy := w8 (0#8)) rfl rfl rfl rfl (Eq.trans eqlW (by rw [h22] <;> rfl)) ?_
      refine r_bin (v := .bool false) (vx := .bool false) (vy := .bool true) rfl rfl rfl rfl (eqlB' rfl rfl rfl) ?_
      refine r_pick (v := .bool false) rfl rfl rfl ?_
      refine r_move (v := .bool false) rfl rfl rfl ?_
      refine r_skip rfl rfl ?_
      refine r_skip rfl rfl ?_
      refine r_skip rfl rfl ?_
      refine r_skip rfl rfl ?_
      refine r_skip rfl rfl ?_
      refine r_skip rfl rfl ?_
      refine r_pick (v := .bool false) rfl rfl rfl ?_
      refine r_assign (v := .bool false) rfl rfl rfl ?_
      refine r_doneN ?_
      refine x_then ?_
      refine c_ret ?_
      refine x_end ?_
      exfalso
      have e0 : (signR kk master h node).2 = 0 := by omega
      have i1 := turn1 e0; have i2 := turn2 (bits := bits) (i := at_.toNat) e0 (by omega); have i3 := turn3 (other := other) (nd := nd) e0
      simp_all; done
    refine r_bin (v := .bool false) (vx := w8 bits) (vy := w8 (0#8)) rfl rfl rfl rfl (Eq.trans eqlW (by rw [h22] <;> rfl)) ?_
    refine r_bin (v := .bool true) (vx := .bool false) (vy := .bool false) rfl rfl rfl rfl (eqlB' rfl rfl rfl) ?_
    refine r_pick (v := .bool true) rfl rfl rfl ?_
    refine r_move (v := .bool true) rfl rfl rfl ?_
    refine r_load (p := pt 0 0) (v := dgV master) rfl rfl rfl (by kernel_rfl) ?_
    refine r_load (p := pt 5 0) (v := signedV (⟨other, nd, ((signR kk master h node).1).tag⟩ : Signed)) rfl rfl rfl (by kernel_rfl) ?_
    refine r_callP (Verify_ok' (G := G) kk hG master (⟨other, nd, ((signR kk master h node).1).tag⟩ : Signed)) (vals := [dgV master, signedV (⟨other, nd, ((signR kk master h node).1).tag⟩ : Signed)]) (res' := .int .i64 ((verifyR kk master (⟨other, nd, ((signR kk master h node).1).tag⟩ : Signed)))) rfl rfl rfl rfl rfl rfl ?_
    by_cases h23 : ((verifyR kk master (⟨other, nd, ((signR kk master h node).1).tag⟩ : Signed))) = 0
    · skip
      refine r_bin (v := .bool true) (vx := .int .i64 ((verifyR kk master (⟨other, nd, ((signR kk master h node).1).tag⟩ : Signed)))) (vy := .int .i64 0) rfl rfl rfl rfl (eql_t (by omega)) ?_
      refine r_move (v := .bool false) rfl rfl rfl ?_
      refine r_bin (v := .bool false) (vx := .bool true) (vy := .bool false) rfl rfl rfl rfl (eqlB' rfl rfl rfl) ?_
      refine r_pick (v := .bool false) rfl rfl rfl ?_
      refine r_assign (v := .bool false) rfl rfl rfl ?_
      refine r_doneN ?_
      refine x_then ?_
      refine c_ret ?_
      refine x_end ?_
      exfalso
      have e0 : (signR kk master h node).2 = 0 := by omega
      have i1 := turn1 e0; have i2 := turn2 (bits := bits) (i := at_.toNat) e0 (by omega); have i3 := turn3 (other := other) (nd := nd) e0
      simp_all; done
    refine r_bin (v := .bool false) (vx := .int .i64 ((verifyR kk master (⟨other, nd, ((signR kk master h node).1).tag⟩ : Signed)))) (vy := .int .i64 0) rfl rfl rfl rfl (eql_f (by omega)) ?_
    refine r_move (v := .bool false) rfl rfl rfl ?_
    refine r_bin (v := .bool true) (vx := .bool false) (vy := .bool false) rfl rfl rfl rfl (eqlB' rfl rfl rfl) ?_
    refine r_pick (v := .bool true) rfl rfl rfl ?_
    refine r_assign (v := .bool true) rfl rfl rfl ?_
    refine r_doneN ?_
    refine x_then ?_
    refine c_ret ?_
    refine x_end ?_
    exact end_pv (v := .bool true) rfl rfl rfl
  refine r_bin (v := .bool false) (vx := .int .i64 ((verifyR kk master ((signR kk master h node).1)))) (vy := .int .i64 0) rfl rfl rfl rfl (eql_f (by omega)) ?_
  refine r_pick (v := .bool false) rfl rfl rfl ?_
  refine r_move (v := .bool false) rfl rfl rfl ?_
  refine r_skip rfl rfl ?_
  refine r_skip rfl rfl ?_
  refine r_skip rfl rfl ?_
  refine r_skip rfl rfl ?_
  refine r_skip rfl rfl ?_
  refine r_skip rfl rfl ?_
  refine r_skip rfl rfl ?_
  refine r_pick (v := .bool false) rfl rfl rfl ?_
  refine r_move (v := .bool false) rfl rfl rfl ?_
  refine r_skip rfl rfl ?_
  refine r_skip rfl rfl ?_
  refine r_skip rfl rfl ?_
  refine r_skip rfl rfl ?_
  refine r_skip rfl rfl ?_
  refine r_skip rfl rfl ?_
  refine r_pick (v := .bool false) rfl rfl rfl ?_
  refine r_assign (v := .bool false) rfl rfl rfl ?_
  refine r_doneN ?_
  refine x_then ?_
  refine c_ret ?_
  refine x_end ?_
  exfalso
  have e0 : (signR kk master h node).2 = 0 := by omega
  have i1 := turn1 e0; have i2 := turn2 (bits := bits) (i := at_.toNat) e0 (by omega); have i3 := turn3 (other := other) (nd := nd) e0
  simp_all; done
end Go.Flat
