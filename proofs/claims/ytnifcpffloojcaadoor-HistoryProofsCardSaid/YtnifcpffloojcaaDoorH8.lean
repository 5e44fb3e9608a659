/- Walks and plain laws: what each theorem says, within the bounds that it names. -/
import Derived.Test.YtnifcpffloojcaaDoorH7
set_option linter.unusedVariables false
set_option linter.unusedSimpArgs false
set_option maxRecDepth 20000
set_option maxRecDepth 20000
namespace Go.Flat
open Go.Proofs
variable {G : Glob}
theorem headL_sz (h : Head) : ∀ x, x ∈ headL h → x.size ≤ 65536 := by
  intro x hx
  have h1 := numS_size h.region
  have h2 := numS_size h.epoch
  have h3 := numS_size h.size
  have h4 := numS_size h.tick
  simp only [headL, List.mem_cons, List.mem_nil_iff, or_false] at hx
  rcases hx with rfl | rfl | rfl | rfl | rfl
  all_goals first | omega | (rw [strOf_size, dgL_len]; omega)
theorem putH_one {h : Head} (hr : rightH h) : putH h = (bytesR (headL h), 0) := by
  unfold putH
  rw [if_pos (by rw [checkE_eq, if_pos hr])]
theorem bytesH_len (h : Head) : (bytesR (headL h)).length ≤ 100 := by
  have := layF_len (rowF 0 (headL h)) 0 []
  simp only [headL, rowF, sumF, strOf_size, dgL_len, List.length_nil] at this
  have h1 := numS_size h.region
  have h2 := numS_size h.epoch
  have h3 := numS_size h.size
  have h4 := numS_size h.tick
  show (layF (rowF 0 (headL h)) 0 []).1.length ≤ 100
  simp only [headL, rowF]
  omega
def signedL (s : Signed) : List ByteArray := [strOf (bytesR (headL s.head)), (numS s.node).1, strOf (dgL s.tag)]
theorem signedL_sz (s : Signed) : ∀ x, x ∈ signedL s → x.size ≤ 65536 := by
  intro x hx
  have h1 := numS_size s.node
  have h2 := bytesH_len s.head
  simp only [signedL, List.mem_cons, List.mem_nil_iff, or_false] at hx
  rcases hx with rfl | rfl | rfl
  all_goals first | omega | (rw [strOf_size]; omega) | (rw [strOf_size, dgL_len]; omega)
def mayS (s : Signed) : Prop := rightH s.head ∧ 1 ≤ s.node ∧ s.node ≤ 3
instance (s : Signed) : Decidable (mayS s) := inferInstanceAs (Decidable (_ ∧ _))
theorem putSF_pos {s : Signed} (h : mayS s) : putSF s = (bytesR (signedL s), 0) := by
  unfold putSF
  rw [if_pos ⟨by rw [checkE_eq, if_pos h.1], h.2⟩, putH_one h.1]
  try rfl
theorem putSF_neg {s : Signed} (h : ¬ mayS s) : putSF s = ([], 70) := by
  unfold putSF
  rw [if_neg]
  rintro ⟨h1, h2⟩
  refine h ⟨?_, h2⟩
  rw [checkE_eq] at h1
  split at h1
  · assumption
  · omega
theorem refSum_ok' (kk : Nat → BitVec 32) (hG : G 2 = some (rowE w32 64 kk)) (s : ByteArray) (hs : s.size ≤ 70368744177664) : CallL Tryd.prog G 60 [.string s] [] (dgV (shaOf kk (bl s))) [] := refS_eq kk (bl s) ▸ refSum_ok (G := G) kk hG s hs
def tagT (kk : Nat → BitVec 32) (master : D) (h : Head) (node : Int) : D := macT kk (macT kk master (strOf [75#8, BitVec.ofInt 8 h.region, BitVec.ofInt 8 node])) (markT ++ strOf (bytesR (headL h)))
def zeroS : Signed := ⟨⟨0, 0, 0, dz, 0⟩, 0, dz⟩
def signR (kk : Nat → BitVec 32) (master : D) (h : Head) (node : Int) : Signed × Int := if rightH h ∧ 1 ≤ node ∧ node ≤ 3 then (⟨h, node, tagT kk master h node⟩, 0) else (zeroS, 70)
def verifyR (kk : Nat → BitVec 32) (master : D) (s : Signed) : Int := if mayS s then (if sameB 32 (tagT kk master s.head s.node) s.tag = true then 0 else 72) else 70
theorem refBytes_ok (h : Head) (hr : rightH h) : CallL Tryd.prog G 122 [headV h] [] (slv 0 0 (bytesR (headL h)).length (bytesR (headL h)).length) [rowB (bytesR (headL h))] := by
  unfold rightH at hr
  refine walk (fn := Tryd.f122) (nt := 20) rfl rfl rfl rfl ?_
  refine c_hole 3 (H' := [hole, hole, hole]) rfl ?_
  refine c_seq (c_reg ?_)
  refine r_box (v := headV h) (b := bxB 36 (headC h)) (nid := 0) (H' := [bxB 36 (headC h), hole, hole]) rfl rfl rfl (by kernel_rfl) (by kernel_rfl) ?_
  refine r_assign (v := .slice none 0 0) rfl rfl rfl ?_
  refine r_doneN (x_then (c_seq ?_))
  refine c_drawK (by kernel_rfl) ?_
  refine r_fieldAddr (b := 0) (o := 0) (n := 0) (o' := 0) rfl rfl rfl rfl rfl ?_
  refine r_load (p := pt 0 0) (v := .int .i64 h.region) rfl rfl rfl (by kernel_rfl) ?_
  refine r_callP (refNum_ok (G := G) h.region (by omega) (by omega)) (vals := [.int .i64 h.region]) (res' := .string ((numS h.region).1)) rfl rfl rfl rfl rfl rfl ?_
  refine r_fieldAddr (b := 0) (o := 0) (n := 1) (o' := 1) rfl rfl rfl rfl rfl ?_
  refine r_load (p := pt 0 1) (v := .int .i64 h.epoch) rfl rfl rfl (by kernel_rfl) ?_
  refine r_callP (refNum_ok (G := G) h.epoch (by omega) (by omega)) (vals := [.int .i64 h.epoch]) (res' := .string ((numS h.epoch).1)) rfl rfl rfl rfl rfl rfl ?_
  refine r_fieldAddr (b := 0) (o := 0) (n := 2) (o' := 2) rfl rfl rfl rfl rfl ?_
  refine r_load (p := pt 0 2) (v := .int .i64 h.size) rfl rfl rfl (by kernel_rfl) ?_
  refine r_callP (refNum_ok (G := G) h.size (by omega) (by omega)) (vals := [.int .i64 h.size]) (res' := .string ((numS h.size).1)) rfl rfl rfl rfl rfl rfl ?_
  refine r_fieldAddr (b := 0) (o := 0) (n := 3) (o' := 3) rfl rfl rfl rfl rfl ?_
  refine r_load (p := pt 0 3) (v := dgV h.root) rfl rfl rfl (by kernel_rfl) ?_
  refine r_callP (refText_ok (G := G) h.root) (vals := [dgV h.root]) (res' := .string (strOf (dgL h.root))) rfl rfl rfl rfl rfl rfl ?_
  refine r_fieldAddr (b := 0) (o := 0) (n := 35) (o' := 35) rfl rfl rfl rfl rfl ?_
  refine r_load (p := pt 0 35) (v := .int .i64 h.tick) rfl rfl rfl (by kernel_rfl) ?_
  refine r_callP (refNum_ok (G := G) h.tick (by omega) (by omega)) (vals := [.int .i64 h.tick]) (res' := .string ((numS h.tick).1)) rfl rfl rfl rfl rfl rfl ?_
  refine r_lit (vs := [(0, .string ((numS h.region).1)), (1, .string ((numS h.epoch).1)), (2, .string ((numS h.size).1)), (3, .string (strOf (dgL h.root))), (4, .string ((numS h.tick).1))]) (v := slv 1 0 5 5) (blk := txB [(numS h.region).1, (numS h.epoch).1, (numS h.size).1, (strOf (dgL h.root)), (numS h.tick).1]) (nid := 1) (H' := [bxB 36 (headC h), txB [(numS h.region).1, (numS h.epoch).1, (numS h.size).1, (strOf (dgL h.root)), (numS h.tick).1], hole]) rfl rfl rfl (by kernel_rfl) (by kernel_rfl) ?_
  refine r_callN (e := [some (1, 0)]) (nid := 2) (refRow_ok (G := G) [(numS h.region).1, (numS h.epoch).1, (numS h.size).1, (strOf (dgL h.root)), (numS h.tick).1] 5 5 (by rfl) (by first | omega | exact Nat.le_refl _) (by omega) (headL_sz h)) (vals := [slv 1 0 5 5]) (v := slv 2 0 ((bytesR [(numS h.region).1, (numS h.epoch).1, (numS h.size).1, (strOf (dgL h.root)), (numS h.tick).1]).length) ((bytesR [(numS h.region).1, (numS h.epoch).1, (numS h.size).1, (strOf (dgL h.root)), (numS h.tick).1]).length)) (H' := [bxB 36 (headC h), txB [(numS h.region).1, (numS h.epoch).1, (numS h.size).1, (strOf (dgL h.root)), (numS h.tick).1], rowB (bytesR [(numS h.region).1, (numS h.epoch).1, (numS h.size).1, (strOf (dgL h.root)), (numS h.tick).1])]) rfl rfl rfl rfl rfl rfl rfl ⟨⟨⟨rfl, rfl, rfl, by first | omega | exact Nat.le_refl _, by first | omega | exact Nat.le_refl _⟩, trivial⟩, ⟨(emb_tx rfl), trivial⟩, rfl, rfl, rfl⟩ (by kernel_rfl) (by kernel_rfl) ?_
  refine r_assign (v := slv 2 0 ((bytesR [(numS h.region).1, (numS h.epoch).1, (numS h.size).1, (strOf (dgL h.root)), (numS h.tick).1]).length) ((bytesR [(numS h.region).1, (numS h.epoch).1, (numS h.size).1, (strOf (dgL h.root)), (numS h.tick).1]).length)) rfl rfl rfl ?_
  refine r_doneK (by kernel_rfl) ?_
  refine x_then (c_ret (x_end ?_))
  exact end_map [2] (v := slv 2 0 ((bytesR [(numS h.region).1, (numS h.epoch).1, (numS h.size).1, (strOf (dgL h.root)), (numS h.tick).1]).length) ((bytesR [(numS h.region).1, (numS h.epoch).1, (numS h.size).1, (strOf (dgL h.root)), (numS h.tick).1]).length)) rfl (by kernel_rfl) rfl rfl (by decide) (by simp [keptB, rowB]) ⟨rfl, rfl, rfl, by first | omega | exact Nat.le_refl _ | exact Nat.zero_le _ | (dsimp only; omega), by first | omega | exact Nat.le_refl _ | exact Nat.zero_le _ | (dsimp only; omega)⟩
theorem refMay_ok (s : Signed) : CallL Tryd.prog G 111 [signedV s] [] (.bool (decide (mayS s))) [] := by
  refine walk (fn := Tryd.f111) (nt := 11) rfl rfl rfl rfl ?_
  refine c_hole 1 (H' := [hole]) rfl ?_
  refine c_seq (c_reg ?_)
  refine r_box (v := signedV s) (b := bxB 69 (signedC s)) (nid := 0) (H' := [bxB 69 (signedC s)]) rfl rfl rfl (by kernel_rfl) (by kernel_rfl) ?_
  refine r_assign (v := .bool false) rfl rfl rfl ?_
  refine r_doneN (x_then (c_seq (c_reg ?_)))
  refine r_fieldAddr (b := 0) (o := 0) (n := 0) (o' := 0) rfl rfl rfl rfl rfl ?_
  refine r_load (p := pt 0 0) (v := headV s.head) rfl rfl rfl (by kernel_rfl) ?_
  refine r_callP (refRight_ok (G := G) s.head) (vals := [headV s.head]) (res' := .bool (decide (rightH s.head))) rfl rfl rfl rfl rfl rfl ?_
  refine r_move (v := .bool (decide (rightH s.head))) rfl rfl rfl ?_
  rcases Bool.eq_false_or_eq_true (decide (rightH s.head)) with h1 | h1
  refine r_fieldAddr (b := 0) (o := 0) (n := 36) (o' := 36) (by exact congrArg (fun b => some (b == true)) h1) rfl rfl rfl rfl ?_
  refine r_load (p := pt 0 36) (v := .int .i64 s.node) (by exact congrArg (fun b => some (b == true)) h1) rfl rfl (by kernel_rfl) ?_
  by_cases h2 : 1 ≤ s.node
  by_cases h3 : s.node ≤ 3
  refine r_callP ((refWithin_ok (G := G) s.node 1 3).res (congrArg Value.bool (withinB_t (by omega) (by omega)))) (vals := [.int .i64 s.node, .int .i64 1, .int .i64 3]) (res' := .bool true) (by exact congrArg (fun b => some (b == true)) h1) rfl rfl rfl rfl rfl ?_
  refine r_pick (v := .bool true) rfl rfl (by show some (if _ then _ else _) = _; rw [h1] <;> rfl) ?_
  refine r_assign (v := .bool true) rfl rfl rfl ?_
  refine r_doneN (x_then (c_ret (x_end ?_)))
  rw [show decide (mayS s) = true from decide_eq_true ⟨of_decide_eq_true (by assumption), by omega, by omega⟩]
  exact end_same (v := .bool true) rfl rfl rfl (by kernel_rfl) rfl
  refine r_callP ((refWithin_ok (G := G) s.node 1 3).res (congrArg Value.bool (withinB_f (by omega)))) (vals := [.int .i64 s.node, .int .i64 1, .int .i64 3]) (res' := .bool false) (by exact congrArg (fun b => some (b == true)) h1) rfl rfl rfl rfl rfl ?_
  refine r_pick (v := .bool false) rfl rfl (by show some (if _ then _ else _) = _; rw [h1] <;> rfl) ?_
  refine r_assign (v := .bool false) rfl rfl rfl ?_
  refine r_doneN (x_then (c_ret (x_end ?_)))
  rw [show decide (mayS s) = false from decide_eq_false (fun hh => by first | (have := hh.2; omega) | (exact absurd hh.1 (of_decide_eq_false (by assumption))))]
  exact end_same (v := .bool false) rfl rfl rfl (by kernel_rfl) rfl
  refine r_callP ((refWithin_ok (G := G) s.node 1 3).res (congrArg Value.bool (withinB_f (by omega)))) (vals := [.int .i64 s.node, .int .i64 1, .int .i64 3]) (res' := .bool false) (by exact congrArg (fun b => some (b == true)) h1) rfl rfl rfl rfl rfl ?_
  refine r_pick (v := .bool false) rfl rfl (by show some (if _ then _ else _) = _; rw [h1] <;> rfl) ?_
  refine r_assign (v := .bool false) rfl rfl rfl ?_
  refine r_doneN (x_then (c_ret (x_end ?_)))
  rw [show decide (mayS s) = false from decide_eq_false (fun hh => by first | (have := hh.2; omega) | (exact absurd hh.1 (of_decide_eq_false (by assumption))))]
  exact end_same (v := .bool false) rfl rfl rfl (by kernel_rfl) rfl
  refine r_skip (by exact congrArg (fun b => some (b == true)) h1) rfl ?_
  refine r_skip (by exact congrArg (fun b => some (b == true)) h1) rfl ?_
  refine r_skip (by exact congrArg (fun b => some (b == true)) h1) rfl ?_
  refine r_pick (v := .bool false) rfl rfl (by show some (if _ then _ else _) = _; rw [h1] <;> rfl) ?_
  refine r_assign (v := .bool false) rfl rfl rfl ?_
  refine r_doneN (x_then (c_ret (x_end ?_)))
  rw [show decide (mayS s) = false from decide_eq_false (fun hh => by first | (have := hh.2; omega) | (exact absurd hh.1 (of_decide_eq_false (by assumption))))]
  exact end_same (v := .bool false) rfl rfl rfl (by kernel_rfl) rfl
theorem refBytesSigned_ok (s : Signed) (hr : rightH s.head) (h1 : 1 ≤ s.node) (h2 : s.node ≤ 3) : CallL Tryd.prog G 120 [signedV s] [] (slv 0 0 (bytesR (signedL s)).length (bytesR (signedL s)).length) [rowB (bytesR (signedL s))] := by
  refine walk (fn := Tryd.f120) (nt := 15) rfl rfl rfl rfl ?_
  refine c_hole 4 (H' := [hole, hole, hole, hole]) rfl ?_
  refine c_seq (c_reg ?_)
  refine r_box (v := signedV s) (b := bxB 69 (signedC s)) (nid := 0) (H' := [bxB 69 (signedC s), hole, hole, hole]) rfl rfl rfl (by kernel_rfl) (by kernel_rfl) ?_
  refine r_assign (v := .slice none 0 0) rfl rfl rfl ?_
  refine r_doneN (x_then (c_seq ?_))
  refine c_drawK (by kernel_rfl) ?_
  refine r_fieldAddr (b := 0) (o := 0) (n := 0) (o' := 0) rfl rfl rfl rfl rfl ?_
  refine r_load (p := pt 0 0) (v := headV s.head) rfl rfl rfl (by kernel_rfl) ?_
  have hbl5 := bytesH_len s.head
  refine r_callN (e := []) (nid := 1) (refBytes_ok (G := G) s.head hr) (vals := [headV s.head]) (v := slv 1 0 ((bytesR (headL s.head)).length) ((bytesR (headL s.head)).length)) (H' := [bxB 69 (signedC s), rowB (bytesR (headL s.head)), hole, hole]) rfl rfl rfl rfl rfl rfl rfl ⟨⟨rfl, trivial⟩, trivial, rfl, rfl, rfl⟩ (by kernel_rfl) (by kernel_rfl) ?_
  refine r_str (p := slv 1 0 ((bytesR (headL s.head)).length) ((bytesR (headL s.head)).length)) (v := .string (strOf (bytesR (headL s.head)))) rfl rfl rfl (str_whole rfl rfl rfl rfl rfl (by omega)) ?_
  refine r_fieldAddr (b := 0) (o := 0) (n := 36) (o' := 36) rfl rfl rfl rfl rfl ?_
  refine r_load (p := pt 0 36) (v := .int .i64 s.node) rfl rfl rfl (by kernel_rfl) ?_
  refine r_callP (refNum_ok (G := G) s.node (by omega) (by omega)) (vals := [.int .i64 s.node]) (res' := .string ((numS s.node).1)) rfl rfl rfl rfl rfl rfl ?_
  refine r_fieldAddr (b := 0) (o := 0) (n := 37) (o' := 37) rfl rfl rfl rfl rfl ?_
  refine r_load (p := pt 0 37) (v := dgV s.tag) rfl rfl rfl (by kernel_rfl) ?_
  refine r_callP (refText_ok (G := G) s.tag) (vals := [dgV s.tag]) (res' := .string (strOf (dgL s.tag))) rfl rfl rfl rfl rfl rfl ?_
  refine r_lit (vs := [(0, .string (strOf (bytesR (headL s.head)))), (1, .string ((numS s.node).1)), (2, .string (strOf (dgL s.tag)))]) (v := slv 2 0 3 3) (blk := txB [(strOf (bytesR (headL s.head))), (numS s.node).1, (strOf (dgL s.tag))]) (nid := 2) (H' := [bxB 69 (signedC s), rowB (bytesR (headL s.head)), txB [(strOf (bytesR (headL s.head))), (numS s.node).1, (strOf (dgL s.tag))], hole]) rfl rfl rfl (by kernel_rfl) (by kernel_rfl) ?_
  refine r_callN (e := [some (2, 0)]) (nid := 3) (refRow_ok (G := G) [(strOf (bytesR (headL s.head))), (numS s.node).1, (strOf (dgL s.tag))] 3 3 (by rfl) (by first | omega | exact Nat.le_refl _) (by omega) (signedL_sz s)) (vals := [slv 2 0 3 3]) (v := slv 3 0 ((bytesR [(strOf (bytesR (headL s.head))), (numS s.node).1, (strOf (dgL s.tag))]).length) ((bytesR [(strOf (bytesR (headL s.head))), (numS s.node).1, (strOf (dgL s.tag))]).length)) (H' := [bxB 69 (signedC s), rowB (bytesR (headL s.head)), txB [(strOf (bytesR (headL s.head))), (numS s.node).1, (strOf (dgL s.tag))], rowB (bytesR [(strOf (bytesR (headL s.head))), (numS s.node).1, (strOf (dgL s.tag))])]) rfl rfl rfl rfl rfl rfl rfl ⟨⟨⟨rfl, rfl, rfl, by first | omega | exact Nat.le_refl _, by first | omega | exact Nat.le_refl _⟩, trivial⟩, ⟨(emb_tx rfl), trivial⟩, rfl, rfl, rfl⟩ (by kernel_rfl) (by kernel_rfl) ?_
  refine r_assign (v := slv 3 0 ((bytesR [(strOf (bytesR (headL s.head))), (numS s.node).1, (strOf (dgL s.tag))]).length) ((bytesR [(strOf (bytesR (headL s.head))), (numS s.node).1, (strOf (dgL s.tag))]).length)) rfl rfl rfl ?_
  refine r_doneK (by kernel_rfl) ?_
  refine x_then (c_ret (x_end ?_))
  exact end_map [3] (v := slv 3 0 ((bytesR [(strOf (bytesR (headL s.head))), (numS s.node).1, (strOf (dgL s.tag))]).length) ((bytesR [(strOf (bytesR (headL s.head))), (numS s.node).1, (strOf (dgL s.tag))]).length)) rfl (by kernel_rfl) rfl rfl (by decide) (by simp [keptB, rowB]) ⟨rfl, rfl, rfl, by first | omega | exact Nat.le_refl _ | exact Nat.zero_le _ | (dsimp only; omega), by first | omega | exact Nat.le_refl _ | exact Nat.zero_le _ | (dsimp only; omega)⟩
end Go.Flat
