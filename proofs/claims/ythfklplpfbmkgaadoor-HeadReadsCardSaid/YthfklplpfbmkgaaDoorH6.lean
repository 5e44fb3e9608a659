/- Walks and plain laws: what each theorem says, within the bounds that it names. -/
import Derived.Test.YthfklplpfbmkgaaDoorH5
set_option linter.unusedVariables false
set_option linter.unusedSimpArgs false
set_option maxRecDepth 20000
namespace Go.Flat
open Go.Proofs
variable {G : Glob}
def markT : ByteArray := ⟨#[104, 101, 97, 100, 32]⟩
theorem mark_size : markT.size = 5 := rfl
theorem putH_snd (h : Head) : (putH h).2 = checkE h := by
  unfold putH
  split
  · rename_i h0; exact h0.symm
  · rfl
def sumF : List Field → Nat
  | [] => 0
  | f :: l => f.data.size + 4 + sumF l
theorem layF_len : ∀ (fs : List Field) (last : Int) (acc : Bs), (layF fs last acc).1.length ≤ acc.length + sumF fs
  | [], _, acc => by simp [layF, sumF]
  | f :: fs, last, acc => by
    rw [layF]
    split
    · have := layF_len fs f.tag (acc ++ fldB f)
      rw [List.length_append, fldB_len] at this
      simp only [sumF]; omega
    · simp
theorem numF_len : ∀ (f n a : Nat) (b : D), (numF f n a b).length ≤ 8
  | 0, n, a, b => by rw [numF, List.length_drop, rowL_len]; omega
  | f + 1, n, a, b => by
    rw [numF]
    split
    · rw [List.length_drop, rowL_len]; omega
    · exact numF_len f _ _ _
theorem numS_size (n : Int) : (numS n).1.size ≤ 8 := by
  unfold numS
  split
  · rw [strOf_size]; exact numF_len _ _ _ _
  · show 0 ≤ 8; omega
theorem putH_len (h : Head) : (putH h).1.length ≤ 100 := by
  unfold putH
  split
  · have := layF_len (rowF 0 (headL h)) 0 []
    simp only [headL, rowF, sumF, strOf_size, dgL_len, List.length_nil] at this
    have h1 := numS_size h.region
    have h2 := numS_size h.epoch
    have h3 := numS_size h.size
    have h4 := numS_size h.tick
    show (layF (rowF 0 (headL h)) 0 []).1.length ≤ 100
    simp only [headL, rowF]
    omega
  · simp
def putSF (s : Signed) : Bs × Int := if checkE s.head = 0 ∧ 1 ≤ s.node ∧ s.node ≤ 3 then (bytesR [strOf (putH s.head).1, (numS s.node).1, strOf (dgL s.tag)], 0) else ([], 70)
def signF (kk : Nat → BitVec 32) (master : D) (h : Head) (node : Int) : Signed × Int :=
  if (((putH h).2)) ≠ 0 then ((⟨(⟨0, 0, 0, dz, 0⟩ : Head), 0, dz⟩ : Signed), (((putH h).2))) else
  if (((keyT kk master h.region node).2)) ≠ 0 then ((⟨(⟨0, 0, 0, dz, 0⟩ : Head), 0, dz⟩ : Signed), 70) else
  ((⟨h, node, (macT kk ((keyT kk master h.region node).1) (markT ++ (strOf ((putH h).1))))⟩ : Signed), 0)
theorem Sign_ok (kk : Nat → BitVec 32) (hG : G 0 = some (rowE w32 64 kk)) (master : D) (h : Head) (node : Int) : CallL Tryd.prog G 8 [dgV master, headV h, .int .i64 node] [] (.tuple #[signedV (signF kk master h node).1, .int .i64 (signF kk master h node).2]) [] := by
  refine walk (fn := Tryd.f8) (nt := 39) rfl rfl rfl rfl ?_
  refine c_hole 5 (H' := [hole, hole, hole, hole, hole]) rfl ?_
  refine c_seq (c_reg ?_)
  refine r_box (v := dgV master) (b := dgB master) (nid := 0) (H' := [dgB master, hole, hole, hole, hole]) rfl rfl rfl (by kernel_rfl) (by kernel_rfl) ?_
  refine r_box (v := headV h) (b := bxB 36 (headC h)) (nid := 1) (H' := [dgB master, bxB 36 (headC h), hole, hole, hole]) rfl rfl rfl (by kernel_rfl) (by kernel_rfl) ?_
  refine r_alloc (b := bxB 69 (signedC (⟨(⟨0, 0, 0, dz, 0⟩ : Head), 0, dz⟩ : Signed))) (nid := 2) (H' := [dgB master, bxB 36 (headC h), bxB 69 (signedC (⟨(⟨0, 0, 0, dz, 0⟩ : Head), 0, dz⟩ : Signed)), hole, hole]) rfl rfl (by kernel_rfl) (by kernel_rfl) ?_
  refine r_assign (v := .int .i64 0) rfl rfl rfl ?_
  refine r_doneN (x_then (c_seq (c_reg ?_)))
  refine r_load (p := pt 1 0) (v := headV h) rfl rfl rfl (by kernel_rfl) ?_
  have hpe4 := putH_snd h
  have hpl4 := putH_len h
  refine r_callN (e := []) (nid := 3) (Put_ok (G := G) h) (vals := [headV h]) (v := .tuple #[slv 3 0 ((putH h).1.length) ((putH h).1.length), .int .i64 (((putH h).2))]) (H' := [dgB master, bxB 36 (headC h), bxB 69 (signedC (⟨(⟨0, 0, 0, dz, 0⟩ : Head), 0, dz⟩ : Signed)), rowB ((putH h).1), hole]) rfl rfl rfl rfl rfl rfl rfl ⟨⟨rfl, trivial⟩, trivial, rfl, rfl, rfl⟩ (by kernel_rfl) (by kernel_rfl) ?_
  refine r_move (v := .tuple #[slv 3 0 ((putH h).1.length) ((putH h).1.length), .int .i64 (((putH h).2))]) rfl rfl rfl ?_
  refine r_extract (vs := #[slv 3 0 ((putH h).1.length) ((putH h).1.length), .int .i64 (((putH h).2))]) (v := slv 3 0 ((putH h).1.length) ((putH h).1.length)) rfl rfl rfl rfl ?_
  refine r_extract (vs := #[slv 3 0 ((putH h).1.length) ((putH h).1.length), .int .i64 (((putH h).2))]) (v := .int .i64 (((putH h).2))) rfl rfl rfl rfl ?_
  refine r_assign (v := slv 3 0 ((putH h).1.length) ((putH h).1.length)) rfl rfl rfl ?_
  refine r_assign (v := .int .i64 (((putH h).2))) rfl rfl rfl ?_
  refine r_doneN (x_then (c_seq (c_seq (c_reg ?_))))
  refine r_move (v := .int .i64 (((putH h).2))) rfl rfl rfl ?_
  by_cases h1 : (((putH h).2)) ≠ 0
  refine r_bin (v := .bool true) (vx := .int .i64 (((putH h).2))) (vy := .int .i64 0) rfl rfl rfl rfl (neq_t (by omega)) ?_
  refine r_doneN (x_then (c_true rfl (c_seq (c_reg ?_))))
  refine r_build (vs := []) (v := signedV (⟨(⟨0, 0, 0, dz, 0⟩ : Head), 0, dz⟩ : Signed)) rfl rfl rfl (by kernel_rfl) ?_
  refine r_move (v := .int .i64 (((putH h).2))) rfl rfl rfl ?_
  refine r_store (p := pt 2 0) (v := signedV (⟨(⟨0, 0, 0, dz, 0⟩ : Head), 0, dz⟩ : Signed)) (b := 2) (blk := bxB 69 (signedC (⟨(⟨0, 0, 0, dz, 0⟩ : Head), 0, dz⟩ : Signed))) (H' := [dgB master, bxB 36 (headC h), bxB 69 (signedC (⟨(⟨0, 0, 0, dz, 0⟩ : Head), 0, dz⟩ : Signed)), rowB ((putH h).1), hole]) rfl rfl rfl (by kernel_rfl) (by kernel_rfl) ?_
  refine r_assign (v := .int .i64 (((putH h).2))) rfl rfl rfl ?_
  refine r_doneN (x_then (c_ret (x_thenR (x_end ?_))))
  rw [show signF kk master h node = ((⟨(⟨0, 0, 0, dz, 0⟩ : Head), 0, dz⟩ : Signed), (((putH h).2))) from by unfold signF; rw [if_pos h1]]
  exact end_same (v := .tuple #[signedV (⟨(⟨0, 0, 0, dz, 0⟩ : Head), 0, dz⟩ : Signed), .int .i64 (((putH h).2))]) (by kernel_rfl) rfl rfl (by kernel_rfl) ⟨(argV_p (by kernel_rfl) rfl), rfl, trivial⟩
  refine r_bin (v := .bool false) (vx := .int .i64 (((putH h).2))) (vy := .int .i64 0) rfl rfl rfl rfl (neq_f (by omega)) ?_
  refine r_doneN (x_then (c_false rfl (c_skip (x_then (c_seq (c_reg ?_))))))
  refine r_load (p := pt 0 0) (v := dgV master) rfl rfl rfl (by kernel_rfl) ?_
  refine r_fieldAddr (b := 1) (o := 0) (n := 0) (o' := 0) rfl rfl rfl rfl rfl ?_
  refine r_load (p := pt 1 0) (v := .int .i64 h.region) rfl rfl rfl (by kernel_rfl) ?_
  refine r_move (v := .int .i64 node) rfl rfl rfl ?_
  refine r_callP (Key_ok (G := G) kk hG master h.region node) (vals := [dgV master, .int .i64 h.region, .int .i64 node]) (res' := .tuple #[dgV ((keyT kk master h.region node).1), .int .i64 (((keyT kk master h.region node).2))]) rfl rfl rfl rfl rfl (by kernel_rfl) ?_
  refine r_move (v := .tuple #[dgV ((keyT kk master h.region node).1), .int .i64 (((keyT kk master h.region node).2))]) rfl rfl rfl ?_
  refine r_extract (vs := #[dgV ((keyT kk master h.region node).1), .int .i64 (((keyT kk master h.region node).2))]) (v := dgV ((keyT kk master h.region node).1)) rfl rfl rfl rfl ?_
  refine r_extract (vs := #[dgV ((keyT kk master h.region node).1), .int .i64 (((keyT kk master h.region node).2))]) (v := .int .i64 (((keyT kk master h.region node).2))) rfl rfl rfl rfl ?_
  refine r_alloc (b := dgB dz) (nid := 4) (H' := [dgB master, bxB 36 (headC h), bxB 69 (signedC (⟨(⟨0, 0, 0, dz, 0⟩ : Head), 0, dz⟩ : Signed)), rowB ((putH h).1), dgB dz]) rfl rfl (by kernel_rfl) (by kernel_rfl) ?_
  refine r_store (p := pt 4 0) (v := dgV ((keyT kk master h.region node).1)) (b := 4) (blk := dgB ((keyT kk master h.region node).1)) (H' := [dgB master, bxB 36 (headC h), bxB 69 (signedC (⟨(⟨0, 0, 0, dz, 0⟩ : Head), 0, dz⟩ : Signed)), rowB ((putH h).1), dgB ((keyT kk master h.region node).1)]) rfl rfl rfl (by kernel_rfl) (by kernel_rfl) ?_
  refine r_assign (v := .int .i64 (((keyT kk master h.region node).2))) rfl rfl rfl ?_
  refine r_doneN (x_then (c_seq (c_seq (c_reg ?_))))
  refine r_move (v := .int .i64 (((keyT kk master h.region node).2))) rfl rfl rfl ?_
  by_cases h2 : (((keyT kk master h.region node).2)) ≠ 0
  refine r_bin (v := .bool true) (vx := .int .i64 (((keyT kk master h.region node).2))) (vy := .int .i64 0) rfl rfl rfl rfl (neq_t (by omega)) ?_
  refine r_doneN (x_then (c_true rfl (c_seq (c_reg ?_))))
  refine r_build (vs := []) (v := signedV (⟨(⟨0, 0, 0, dz, 0⟩ : Head), 0, dz⟩ : Signed)) rfl rfl rfl (by kernel_rfl) ?_
  refine r_store (p := pt 2 0) (v := signedV (⟨(⟨0, 0, 0, dz, 0⟩ : Head), 0, dz⟩ : Signed)) (b := 2) (blk := bxB 69 (signedC (⟨(⟨0, 0, 0, dz, 0⟩ : Head), 0, dz⟩ : Signed))) (H' := [dgB master, bxB 36 (headC h), bxB 69 (signedC (⟨(⟨0, 0, 0, dz, 0⟩ : Head), 0, dz⟩ : Signed)), rowB ((putH h).1), dgB ((keyT kk master h.region node).1)]) rfl rfl rfl (by kernel_rfl) (by kernel_rfl) ?_
  refine r_assign (v := .int .i64 70) rfl rfl rfl ?_
  refine r_doneN (x_then (c_ret (x_thenR (x_end ?_))))
  rw [show signF kk master h node = ((⟨(⟨0, 0, 0, dz, 0⟩ : Head), 0, dz⟩ : Signed), 70) from by unfold signF; rw [if_neg h1, if_pos h2]]
  exact end_same (v := .tuple #[signedV (⟨(⟨0, 0, 0, dz, 0⟩ : Head), 0, dz⟩ : Signed), .int .i64 70]) (by kernel_rfl) rfl rfl (by kernel_rfl) ⟨(argV_p (by kernel_rfl) rfl), rfl, trivial⟩
  refine r_bin (v := .bool false) (vx := .int .i64 (((keyT kk master h.region node).2))) (vy := .int .i64 0) rfl rfl rfl rfl (neq_f (by omega)) ?_
  refine r_doneN (x_then (c_false rfl (c_skip (x_then (c_seq ?_)))))
  refine c_drawK (by kernel_rfl) ?_
  refine r_load (p := pt 1 0) (v := headV h) rfl rfl rfl (by kernel_rfl) ?_
  refine r_move (v := .int .i64 node) rfl rfl rfl ?_
  refine r_load (p := pt 4 0) (v := dgV ((keyT kk master h.region node).1)) rfl rfl rfl (by kernel_rfl) ?_
  refine r_move (v := slv 3 0 ((putH h).1.length) ((putH h).1.length)) rfl rfl rfl ?_
  refine r_str (p := slv 3 0 ((putH h).1.length) ((putH h).1.length)) (v := .string (strOf ((putH h).1))) rfl rfl rfl (str_whole rfl rfl rfl rfl rfl (by omega)) ?_
  refine r_bin (v := .string (markT ++ (strOf ((putH h).1)))) (vx := .string markT) (vy := .string (strOf ((putH h).1))) rfl rfl rfl rfl (bin_cat (by simp only [ByteArray.size_append, strOf_size, blockT_size, dgL_len, mark_size]; omega)) ?_
  refine r_callP (Mac_ok (G := G) kk hG ((keyT kk master h.region node).1) (markT ++ (strOf ((putH h).1))) (by simp only [ByteArray.size_append, strOf_size, mark_size]; omega)) (vals := [dgV ((keyT kk master h.region node).1), .string (markT ++ (strOf ((putH h).1)))]) (res' := dgV (macT kk ((keyT kk master h.region node).1) (markT ++ (strOf ((putH h).1))))) rfl rfl rfl rfl rfl (by kernel_rfl) ?_
  refine r_build (vs := [(0, headV h), (1, .int .i64 node), (2, dgV (macT kk ((keyT kk master h.region node).1) (markT ++ (strOf ((putH h).1)))))]) (v := signedV (⟨h, node, (macT kk ((keyT kk master h.region node).1) (markT ++ (strOf ((putH h).1))))⟩ : Signed)) rfl rfl rfl (by kernel_rfl) ?_
  refine r_store (p := pt 2 0) (v := signedV (⟨h, node, (macT kk ((keyT kk master h.region node).1) (markT ++ (strOf ((putH h).1))))⟩ : Signed)) (b := 2) (blk := bxB 69 (signedC (⟨h, node, (macT kk ((keyT kk master h.region node).1) (markT ++ (strOf ((putH h).1))))⟩ : Signed))) (H' := [dgB master, bxB 36 (headC h), bxB 69 (signedC (⟨h, node, (macT kk ((keyT kk master h.region node).1) (markT ++ (strOf ((putH h).1))))⟩ : Signed)), rowB ((putH h).1), dgB ((keyT kk master h.region node).1)]) rfl rfl rfl (by kernel_rfl) (by kernel_rfl) ?_
  refine r_assign (v := .int .i64 0) rfl rfl rfl ?_
  refine r_doneK (by kernel_rfl) ?_
  refine x_then (c_ret (x_end ?_))
  rw [show signF kk master h node = ((⟨h, node, (macT kk ((keyT kk master h.region node).1) (markT ++ (strOf ((putH h).1))))⟩ : Signed), 0) from by unfold signF; rw [if_neg h1, if_neg h2]]
  exact end_same (v := .tuple #[signedV (⟨h, node, (macT kk ((keyT kk master h.region node).1) (markT ++ (strOf ((putH h).1))))⟩ : Signed), .int .i64 0]) (by kernel_rfl) rfl rfl (by kernel_rfl) ⟨(argV_p (by kernel_rfl) rfl), rfl, trivial⟩
def verifyE (kk : Nat → BitVec 32) (master : D) (s : Signed) : Int :=
  if (((putH s.head).2)) ≠ 0 then 70 else
  if 1 ≤ s.node then (if s.node ≤ 3 then ((holdsE kk master s.head.region s.node (markT ++ (strOf ((putH s.head).1))) s.tag)) else
  70) else
  70
theorem Verify_ok (kk : Nat → BitVec 32) (hG : G 0 = some (rowE w32 64 kk)) (master : D) (s : Signed) : CallL Tryd.prog G 11 [dgV master, signedV s] [] (.int .i64 (verifyE kk master s)) [] := by
  refine walk (fn := Tryd.f11) (nt := 33) rfl rfl rfl rfl ?_
  refine c_hole 3 (H' := [hole, hole, hole]) rfl ?_
  refine c_seq (c_reg ?_)
  refine r_box (v := dgV master) (b := dgB master) (nid := 0) (H' := [dgB master, hole, hole]) rfl rfl rfl (by kernel_rfl) (by kernel_rfl) ?_
  refine r_box (v := signedV s) (b := bxB 69 (signedC s)) (nid := 1) (H' := [dgB master, bxB 69 (signedC s), hole]) rfl rfl rfl (by kernel_rfl) (by kernel_rfl) ?_
  refine r_assign (v := .int .i64 0) rfl rfl rfl ?_
  refine r_doneN (x_then (c_seq (c_reg ?_)))
  refine r_fieldAddr (b := 1) (o := 0) (n := 0) (o' := 0) rfl rfl rfl rfl rfl ?_
  refine r_load (p := pt 1 0) (v := headV s.head) rfl rfl rfl (by kernel_rfl) ?_
  have hpe3 := putH_snd s.head
  have hpl3 := putH_len s.head
  refine r_callN (e := []) (nid := 2) (Put_ok (G := G) s.head) (vals := [headV s.head]) (v := .tuple #[slv 2 0 ((putH s.head).1.length) ((putH s.head).1.length), .int .i64 (((putH s.head).2))]) (H' := [dgB master, bxB 69 (signedC s), rowB ((putH s.head).1)]) rfl rfl rfl rfl rfl rfl rfl ⟨⟨rfl, trivial⟩, trivial, rfl, rfl, rfl⟩ (by kernel_rfl) (by kernel_rfl) ?_
  refine r_move (v := .tuple #[slv 2 0 ((putH s.head).1.length) ((putH s.head).1.length), .int .i64 (((putH s.head).2))]) rfl rfl rfl ?_
  refine r_extract (vs := #[slv 2 0 ((putH s.head).1.length) ((putH s.head).1.length), .int .i64 (((putH s.head).2))]) (v := slv 2 0 ((putH s.head).1.length) ((putH s.head).1.length)) rfl rfl rfl rfl ?_
  refine r_extract (vs := #[slv 2 0 ((putH s.head).1.length) ((putH s.head).1.length), .int .i64 (((putH s.head).2))]) (v := .int .i64 (((putH s.head).2))) rfl rfl rfl rfl ?_
  refine r_assign (v := slv 2 0 ((putH s.head).1.length) ((putH s.head).1.length)) rfl rfl rfl ?_
  refine r_assign (v := .int .i64 (((putH s.head).2))) rfl rfl rfl ?_
  refine r_doneN (x_then (c_seq (c_seq (c_reg ?_))))
  refine r_move (v := .int .i64 (((putH s.head).2))) rfl rfl rfl ?_
  by_cases h1 : (((putH s.head).2)) ≠ 0
  refine r_bin (v := .bool true) (vx := .int .i64 (((putH s.head).2))) (vy := .int .i64 0) rfl rfl rfl rfl (neq_t (by omega)) ?_
  refine r_move (v := .bool true) rfl rfl rfl ?_
  refine r_skip rfl rfl (r_skip rfl rfl (r_skip rfl rfl (r_skip rfl rfl ?_)))
  refine r_pick (v := .bool true) rfl rfl rfl ?_
  refine r_doneN (x_then (c_true rfl (c_seq (c_reg ?_))))
  refine r_assign (v := .int .i64 70) rfl rfl rfl ?_
  refine r_doneN (x_then (c_ret (x_thenR (x_end ?_))))
  rw [show verifyE kk master s = 70 from by unfold verifyE; rw [if_pos h1]]
  exact end_same (v := .int .i64 70) rfl rfl rfl (by kernel_rfl) rfl
  refine r_bin (v := .bool false) (vx := .int .i64 (((putH s.head).2))) (vy := .int .i64 0) rfl rfl rfl rfl (neq_f (by omega)) ?_
  refine r_move (v := .bool false) rfl rfl rfl ?_
  refine r_fieldAddr (b := 1) (o := 0) (n := 36) (o' := 36) rfl rfl rfl rfl rfl ?_
  refine r_load (p := pt 1 36) (v := .int .i64 s.node) rfl rfl rfl (by kernel_rfl) ?_
  by_cases h2 : 1 ≤ s.node
  by_cases h3 : s.node ≤ 3
  refine r_callP ((within_ok (G := G) s.node 1 3).res (congrArg Value.bool (withinB_t (by omega) (by omega)))) (vals := [.int .i64 s.node, .int .i64 1, .int .i64 3]) (res' := .bool true) rfl rfl rfl rfl rfl rfl ?_
  refine r_un (v := .bool false) (vx := .bool true) rfl rfl rfl un_not ?_
  refine r_pick (v := .bool false) rfl rfl rfl ?_
  refine r_doneN (x_then (c_false rfl (c_skip (x_then (c_seq (c_reg ?_))))))
  refine r_load (p := pt 0 0) (v := dgV master) rfl rfl rfl (by kernel_rfl) ?_
  refine r_fieldAddr (b := 1) (o := 0) (n := 0) (o' := 0) rfl rfl rfl rfl rfl ?_
  refine r_fieldAddr (b := 1) (o := 0) (n := 0) (o' := 0) rfl rfl rfl rfl rfl ?_
  refine r_load (p := pt 1 0) (v := .int .i64 s.head.region) rfl rfl rfl (by kernel_rfl) ?_
  refine r_fieldAddr (b := 1) (o := 0) (n := 36) (o' := 36) rfl rfl rfl rfl rfl ?_
  refine r_load (p := pt 1 36) (v := .int .i64 s.node) rfl rfl rfl (by kernel_rfl) ?_
  refine r_move (v := slv 2 0 ((putH s.head).1.length) ((putH s.head).1.length)) rfl rfl rfl ?_
  refine r_str (p := slv 2 0 ((putH s.head).1.length) ((putH s.head).1.length)) (v := .string (strOf ((putH s.head).1))) rfl rfl rfl (str_whole rfl rfl rfl rfl rfl (by omega)) ?_
  refine r_bin (v := .string (markT ++ (strOf ((putH s.head).1)))) (vx := .string markT) (vy := .string (strOf ((putH s.head).1))) rfl rfl rfl rfl (bin_cat (by simp only [ByteArray.size_append, strOf_size, blockT_size, dgL_len, mark_size]; omega)) ?_
  refine r_fieldAddr (b := 1) (o := 0) (n := 37) (o' := 37) rfl rfl rfl rfl rfl ?_
  refine r_load (p := pt 1 37) (v := dgV s.tag) rfl rfl rfl (by kernel_rfl) ?_
  refine r_callP (Holds_ok (G := G) kk hG master s.head.region s.node (markT ++ (strOf ((putH s.head).1))) s.tag (by simp only [ByteArray.size_append, strOf_size, mark_size]; omega)) (vals := [dgV master, .int .i64 s.head.region, .int .i64 s.node, .string (markT ++ (strOf ((putH s.head).1))), dgV s.tag]) (res' := .int .i64 ((holdsE kk master s.head.region s.node (markT ++ (strOf ((putH s.head).1))) s.tag))) rfl rfl rfl rfl rfl rfl ?_
  refine r_assign (v := .int .i64 ((holdsE kk master s.head.region s.node (markT ++ (strOf ((putH s.head).1))) s.tag))) rfl rfl rfl ?_
  refine r_doneN (x_then (c_ret (x_end ?_)))
  rw [show verifyE kk master s = ((holdsE kk master s.head.region s.node (markT ++ (strOf ((putH s.head).1))) s.tag)) from by unfold verifyE; rw [if_neg h1, if_pos h2, if_pos h3]]
  exact end_same (v := .int .i64 ((holdsE kk master s.head.region s.node (markT ++ (strOf ((putH s.head).1))) s.tag))) rfl rfl rfl (by kernel_rfl) rfl
  refine r_callP ((within_ok (G := G) s.node 1 3).res (congrArg Value.bool (withinB_f (by omega)))) (vals := [.int .i64 s.node, .int .i64 1, .int .i64 3]) (res' := .bool false) rfl rfl rfl rfl rfl rfl ?_
  refine r_un (v := .bool true) (vx := .bool false) rfl rfl rfl un_not ?_
  refine r_pick (v := .bool true) rfl rfl rfl ?_
  refine r_doneN (x_then (c_true rfl (c_seq (c_reg ?_))))
  refine r_assign (v := .int .i64 70) rfl rfl rfl ?_
  refine r_doneN (x_then (c_ret (x_thenR (x_end ?_))))
  rw [show verifyE kk master s = 70 from by unfold verifyE; rw [if_neg h1, if_pos h2, if_neg h3]]
  exact end_same (v := .int .i64 70) rfl rfl rfl (by kernel_rfl) rfl
  refine r_callP ((within_ok (G := G) s.node 1 3).res (congrArg Value.bool (withinB_f (by omega)))) (vals := [.int .i64 s.node, .int .i64 1, .int .i64 3]) (res' := .bool false) rfl rfl rfl rfl rfl rfl ?_
  refine r_un (v := .bool true) (vx := .bool false) rfl rfl rfl un_not ?_
  refine r_pick (v := .bool true) rfl rfl rfl ?_
  refine r_doneN (x_then (c_true rfl (c_seq (c_reg ?_))))
  refine r_assign (v := .int .i64 70) rfl rfl rfl ?_
  refine r_doneN (x_then (c_ret (x_thenR (x_end ?_))))
  rw [show verifyE kk master s = 70 from by unfold verifyE; rw [if_neg h1, if_neg h2]]
  exact end_same (v := .int .i64 70) rfl rfl rfl (by kernel_rfl) rfl
theorem PutSigned_ok (s : Signed) : CallL Tryd.prog G 15 [signedV s] [] (.tuple #[slv 0 0 (putSF s).1.length (putSF s).1.length, .int .i64 (putSF s).2]) [rowB (putSF s).1] := by
  refine walk (fn := Tryd.f15) (nt := 32) rfl rfl rfl rfl ?_
  refine c_hole 5 (H' := [hole, hole, hole, hole, hole]) rfl ?_
  refine c_seq (c_reg ?_)
  refine r_box (v := signedV s) (b := bxB 69 (signedC s)) (nid := 0) (H' := [bxB 69 (signedC s), hole, hole, hole, hole]) rfl rfl rfl (by kernel_rfl) (by kernel_rfl) ?_
  refine r_assign (v := .slice none 0 0) rfl rfl rfl ?_
  refine r_assign (v := .int .i64 0) rfl rfl rfl ?_
  refine r_doneN (x_then (c_seq (c_reg ?_)))
  refine r_fieldAddr (b := 0) (o := 0) (n := 0) (o' := 0) rfl rfl rfl rfl rfl ?_
  refine r_load (p := pt 0 0) (v := headV s.head) rfl rfl rfl (by kernel_rfl) ?_
  have hpe6 := putH_snd s.head
  have hpl6 := putH_len s.head
  refine r_callN (e := []) (nid := 1) (Put_ok (G := G) s.head) (vals := [headV s.head]) (v := .tuple #[slv 1 0 ((putH s.head).1.length) ((putH s.head).1.length), .int .i64 (((putH s.head).2))]) (H' := [bxB 69 (signedC s), rowB ((putH s.head).1), hole, hole, hole]) rfl rfl rfl rfl rfl rfl rfl ⟨⟨rfl, trivial⟩, trivial, rfl, rfl, rfl⟩ (by kernel_rfl) (by kernel_rfl) ?_
  refine r_move (v := .tuple #[slv 1 0 ((putH s.head).1.length) ((putH s.head).1.length), .int .i64 (((putH s.head).2))]) rfl rfl rfl ?_
  refine r_extract (vs := #[slv 1 0 ((putH s.head).1.length) ((putH s.head).1.length), .int .i64 (((putH s.head).2))]) (v := slv 1 0 ((putH s.head).1.length) ((putH s.head).1.length)) rfl rfl rfl rfl ?_
  refine r_extract (vs := #[slv 1 0 ((putH s.head).1.length) ((putH s.head).1.length), .int .i64 (((putH s.head).2))]) (v := .int .i64 (((putH s.head).2))) rfl rfl rfl rfl ?_
  refine r_assign (v := slv 1 0 ((putH s.head).1.length) ((putH s.head).1.length)) rfl rfl rfl ?_
  refine r_assign (v := .int .i64 (((putH s.head).2))) rfl rfl rfl ?_
  refine r_doneN (x_then (c_seq (c_seq (c_reg ?_))))
  refine r_move (v := .int .i64 (((putH s.head).2))) rfl rfl rfl ?_
  by_cases h1 : (((putH s.head).2)) ≠ 0
  refine r_bin (v := .bool true) (vx := .int .i64 (((putH s.head).2))) (vy := .int .i64 0) rfl rfl rfl rfl (neq_t (by omega)) ?_
  refine r_move (v := .bool true) rfl rfl rfl ?_
  refine r_skip rfl rfl (r_skip rfl rfl (r_skip rfl rfl (r_skip rfl rfl ?_)))
  refine r_pick (v := .bool true) rfl rfl rfl ?_
  refine r_doneN (x_then (c_true rfl (c_seq (c_reg ?_))))
  refine r_assign (v := .slice none 0 0) rfl rfl rfl ?_
  refine r_assign (v := .int .i64 70) rfl rfl rfl ?_
  refine r_doneN (x_then ?_)
  refine c_weak (Weak.nilTmp (i := 2) (b := 2) true 1 rfl (by decide) rfl) ?_
  refine c_ret (x_thenR (x_end ?_))
  rw [show putSF s = ([], 70) from if_neg (by omega)]
  exact end_map [2] (v := .tuple #[slv 2 0 0 0, .int .i64 70]) rfl (by kernel_rfl) rfl rfl (by decide) (by simp [keptB, rowB]) ⟨⟨rfl, rfl, rfl, by first | omega | exact Nat.le_refl _ | exact Nat.zero_le _ | (dsimp only; omega), by first | omega | exact Nat.le_refl _ | exact Nat.zero_le _ | (dsimp only; omega)⟩, rfl, trivial⟩
  refine r_bin (v := .bool false) (vx := .int .i64 (((putH s.head).2))) (vy := .int .i64 0) rfl rfl rfl rfl (neq_f (by omega)) ?_
  refine r_move (v := .bool false) rfl rfl rfl ?_
  refine r_fieldAddr (b := 0) (o := 0) (n := 36) (o' := 36) rfl rfl rfl rfl rfl ?_
  refine r_load (p := pt 0 36) (v := .int .i64 s.node) rfl rfl rfl (by kernel_rfl) ?_
  by_cases h2 : 1 ≤ s.node
  by_cases h3 : s.node ≤ 3
  refine r_callP ((within_ok (G := G) s.node 1 3).res (congrArg Value.bool (withinB_t (by omega) (by omega)))) (vals := [.int .i64 s.node, .int .i64 1, .int .i64 3]) (res' := .bool true) rfl rfl rfl rfl rfl rfl ?_
  refine r_un (v := .bool false) (vx := .bool true) rfl rfl rfl un_not ?_
  refine r_pick (v := .bool false) rfl rfl rfl ?_
  refine r_doneN (x_then (c_false rfl (c_skip (x_then (c_seq (c_reg ?_))))))
  refine r_alloc (b := rfB (.slice none 0 0)) (nid := 2) (H' := [bxB 69 (signedC s), rowB ((putH s.head).1), rfB (.slice none 0 0), hole, hole]) rfl rfl (by kernel_rfl) (by kernel_rfl) ?_
  refine r_doneN (x_then (c_seq ?_))
  refine c_weak (Weak.nilCell (k := 2) (j := 0) (b := 3) true 1 rfl (by decide) rfl (by show 0 < 1; decide) rfl rfl) ?_
  refine c_reg ?_
  refine r_move (v := slv 1 0 ((putH s.head).1.length) ((putH s.head).1.length)) rfl rfl rfl ?_
  refine r_str (p := slv 1 0 ((putH s.head).1.length) ((putH s.head).1.length)) (v := .string (strOf ((putH s.head).1))) rfl rfl rfl (str_whole rfl rfl rfl rfl rfl (by omega)) ?_
  refine r_call (e := [some (2, 0), some (3, 0)]) (nid := 0) (row_s_ok (G := G) [] 0 (strOf ((putH s.head).1)) rfl (by omega)) (vals := [pt 2 0, .string (strOf ((putH s.head).1))]) (v := .tuple #[]) (H' := [bxB 69 (signedC s), rowB ((putH s.head).1), rfB (slv 3 0 1 1), txB ([] ++ [(strOf ((putH s.head).1))]), hole]) rfl rfl rfl rfl rfl rfl ⟨⟨⟨rfl, rfl⟩, rfl, trivial⟩, ⟨(emb_wr rfl rfl rfl rfl), (emb_wr rfl rfl rfl rfl), trivial⟩, rfl, rfl, rfl, Nat.le_refl _⟩ (by kernel_rfl) rfl (by kernel_rfl) ?_
  refine r_doneN (x_then (c_seq (c_reg ?_)))
  refine r_fieldAddr (b := 0) (o := 0) (n := 36) (o' := 36) rfl rfl rfl rfl rfl ?_
  refine r_load (p := pt 0 36) (v := .int .i64 s.node) rfl rfl rfl (by kernel_rfl) ?_
  refine r_call (e := [some (2, 0), some (3, 0)]) (nid := 0) (row_n_ok (G := G) ([] ++ [(strOf ((putH s.head).1))]) 1 s.node rfl (by omega) (by omega) (by omega)) (vals := [pt 2 0, .int .i64 s.node]) (v := .tuple #[]) (H' := [bxB 69 (signedC s), rowB ((putH s.head).1), rfB (slv 3 0 2 2), txB (([] ++ [(strOf ((putH s.head).1))]) ++ [(numS s.node).1]), hole]) rfl rfl rfl rfl rfl rfl ⟨⟨⟨rfl, rfl⟩, rfl, trivial⟩, ⟨(emb_wr rfl rfl rfl rfl), (emb_wr rfl rfl rfl rfl), trivial⟩, rfl, rfl, rfl, Nat.le_refl _⟩ (by kernel_rfl) rfl (by kernel_rfl) ?_
  refine r_doneN (x_then (c_seq (c_reg ?_)))
  refine r_fieldAddr (b := 0) (o := 0) (n := 37) (o' := 37) rfl rfl rfl rfl rfl ?_
  refine r_slice (p := pt 0 37) (vl := none) (vh := none) (v := slv 0 37 32 32) rfl rfl rfl rfl rfl rfl ?_
  refine r_str (p := slv 0 37 32 32) (v := .string (strOf (dgL s.tag))) rfl rfl rfl (strD_row (l := (dgL s.tag)) rfl rfl rfl rfl (of_decide_eq_true (by kernel_rfl)) (by kernel_rfl)) ?_
  refine r_call (e := [some (2, 0), some (3, 0)]) (nid := 0) (row_s_ok (G := G) (([] ++ [(strOf ((putH s.head).1))]) ++ [(numS s.node).1]) 2 (strOf (dgL s.tag)) rfl (by omega)) (vals := [pt 2 0, .string (strOf (dgL s.tag))]) (v := .tuple #[]) (H' := [bxB 69 (signedC s), rowB ((putH s.head).1), rfB (slv 3 0 3 3), txB ((([] ++ [(strOf ((putH s.head).1))]) ++ [(numS s.node).1]) ++ [(strOf (dgL s.tag))]), hole]) rfl rfl rfl rfl rfl rfl ⟨⟨⟨rfl, rfl⟩, rfl, trivial⟩, ⟨(emb_wr rfl rfl rfl rfl), (emb_wr rfl rfl rfl rfl), trivial⟩, rfl, rfl, rfl, Nat.le_refl _⟩ (by kernel_rfl) rfl (by kernel_rfl) ?_
  refine r_doneN (x_then (c_seq (c_reg ?_)))
  refine r_call (e := [some (2, 0), some (3, 0)]) (nid := 4) (bytes_ok (G := G) ((([] ++ [(strOf ((putH s.head).1))]) ++ [(numS s.node).1]) ++ [(strOf (dgL s.tag))]) 3 rfl (by omega)) (vals := [pt 2 0]) (v := slv 4 0 ((bytesR ((([] ++ [(strOf ((putH s.head).1))]) ++ [(numS s.node).1]) ++ [(strOf (dgL s.tag))])).length) ((bytesR ((([] ++ [(strOf ((putH s.head).1))]) ++ [(numS s.node).1]) ++ [(strOf (dgL s.tag))])).length)) (H' := [bxB 69 (signedC s), rowB ((putH s.head).1), rfB (slv 3 0 3 3), txB ((([] ++ [(strOf ((putH s.head).1))]) ++ [(numS s.node).1]) ++ [(strOf (dgL s.tag))]), rowB (bytesR ((([] ++ [(strOf ((putH s.head).1))]) ++ [(numS s.node).1]) ++ [(strOf (dgL s.tag))]))]) rfl rfl rfl rfl rfl rfl ⟨⟨⟨rfl, rfl⟩, trivial⟩, ⟨(emb_wr rfl rfl rfl rfl), (emb_wr rfl rfl rfl rfl), trivial⟩, rfl, rfl, rfl, Nat.le_refl _⟩ rfl rfl (by kernel_rfl) ?_
  refine r_assign (v := slv 4 0 ((bytesR ((([] ++ [(strOf ((putH s.head).1))]) ++ [(numS s.node).1]) ++ [(strOf (dgL s.tag))])).length) ((bytesR ((([] ++ [(strOf ((putH s.head).1))]) ++ [(numS s.node).1]) ++ [(strOf (dgL s.tag))])).length)) rfl rfl rfl ?_
  refine r_assign (v := .int .i64 0) rfl rfl rfl ?_
  refine r_doneN (x_then (c_ret (x_end ?_)))
  rw [show putSF s = ((bytesR ((([] ++ [(strOf ((putH s.head).1))]) ++ [(numS s.node).1]) ++ [(strOf (dgL s.tag))])), 0) from if_pos (by omega)]
  exact end_map [4] (v := .tuple #[slv 4 0 ((bytesR ((([] ++ [(strOf ((putH s.head).1))]) ++ [(numS s.node).1]) ++ [(strOf (dgL s.tag))])).length) ((bytesR ((([] ++ [(strOf ((putH s.head).1))]) ++ [(numS s.node).1]) ++ [(strOf (dgL s.tag))])).length), .int .i64 0]) rfl (by kernel_rfl) rfl rfl (by decide) (by simp [keptB, rowB]) ⟨⟨rfl, rfl, rfl, by first | omega | exact Nat.le_refl _ | exact Nat.zero_le _ | (dsimp only; omega), by first | omega | exact Nat.le_refl _ | exact Nat.zero_le _ | (dsimp only; omega)⟩, rfl, trivial⟩
  refine r_callP ((within_ok (G := G) s.node 1 3).res (congrArg Value.bool (withinB_f (by omega)))) (vals := [.int .i64 s.node, .int .i64 1, .int .i64 3]) (res' := .bool false) rfl rfl rfl rfl rfl rfl ?_
  refine r_un (v := .bool true) (vx := .bool false) rfl rfl rfl un_not ?_
  refine r_pick (v := .bool true) rfl rfl rfl ?_
  refine r_doneN (x_then (c_true rfl (c_seq (c_reg ?_))))
  refine r_assign (v := .slice none 0 0) rfl rfl rfl ?_
  refine r_assign (v := .int .i64 70) rfl rfl rfl ?_
  refine r_doneN (x_then ?_)
  refine c_weak (Weak.nilTmp (i := 2) (b := 2) true 1 rfl (by decide) rfl) ?_
  refine c_ret (x_thenR (x_end ?_))
  rw [show putSF s = ([], 70) from if_neg (by omega)]
  exact end_map [2] (v := .tuple #[slv 2 0 0 0, .int .i64 70]) rfl (by kernel_rfl) rfl rfl (by decide) (by simp [keptB, rowB]) ⟨⟨rfl, rfl, rfl, by first | omega | exact Nat.le_refl _ | exact Nat.zero_le _ | (dsimp only; omega), by first | omega | exact Nat.le_refl _ | exact Nat.zero_le _ | (dsimp only; omega)⟩, rfl, trivial⟩
  refine r_callP ((within_ok (G := G) s.node 1 3).res (congrArg Value.bool (withinB_f (by omega)))) (vals := [.int .i64 s.node, .int .i64 1, .int .i64 3]) (res' := .bool false) rfl rfl rfl rfl rfl rfl ?_
  refine r_un (v := .bool true) (vx := .bool false) rfl rfl rfl un_not ?_
  refine r_pick (v := .bool true) rfl rfl rfl ?_
  refine r_doneN (x_then (c_true rfl (c_seq (c_reg ?_))))
  refine r_assign (v := .slice none 0 0) rfl rfl rfl ?_
  refine r_assign (v := .int .i64 70) rfl rfl rfl ?_
  refine r_doneN (x_then ?_)
  refine c_weak (Weak.nilTmp (i := 2) (b := 2) true 1 rfl (by decide) rfl) ?_
  refine c_ret (x_thenR (x_end ?_))
  rw [show putSF s = ([], 70) from if_neg (by omega)]
  exact end_map [2] (v := .tuple #[slv 2 0 0 0, .int .i64 70]) rfl (by kernel_rfl) rfl rfl (by decide) (by simp [keptB, rowB]) ⟨⟨rfl, rfl, rfl, by first | omega | exact Nat.le_refl _ | exact Nat.zero_le _ | (dsimp only; omega), by first | omega | exact Nat.le_refl _ | exact Nat.zero_le _ | (dsimp only; omega)⟩, rfl, trivial⟩
end Go.Flat
