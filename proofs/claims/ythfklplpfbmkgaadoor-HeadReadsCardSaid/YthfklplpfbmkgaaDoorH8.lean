/- Walks and plain laws: what each theorem says, within the bounds that it names. -/
import Derived.Test.YthfklplpfbmkgaaDoorH7
set_option linter.unusedVariables false
set_option linter.unusedSimpArgs false
set_option maxRecDepth 20000
namespace Go.Flat
open Go.Proofs
variable {G : Glob}
theorem putH_one {h : Head} (hr : rightH h) : putH h = (bytesR (headL h), 0) := by
  unfold putH
  rw [if_pos (by rw [checkE_eq, if_pos hr])]
def signedL (s : Signed) : List ByteArray := [strOf (bytesR (headL s.head)), (numS s.node).1, strOf (dgL s.tag)]
def mayS (s : Signed) : Prop := rightH s.head ∧ 1 ≤ s.node ∧ s.node ≤ 3
instance (s : Signed) : Decidable (mayS s) := inferInstanceAs (Decidable (_ ∧ _))
theorem putSF_pos {s : Signed} (h : mayS s) : putSF s = (bytesR (signedL s), 0) := by
  unfold putSF
  rw [if_pos ⟨by rw [checkE_eq, if_pos h.1], h.2⟩, putH_one h.1]
  try rfl
theorem blockT_eq (key : D) (u : BitVec 8) : blockT key u = strOf ((List.range 64).map (fun i => padK key i ^^^ u)) := by
  unfold blockT rowL
  congr 1
def tagT (kk : Nat → BitVec 32) (master : D) (h : Head) (node : Int) : D := macT kk (macT kk master (strOf [75#8, BitVec.ofInt 8 h.region, BitVec.ofInt 8 node])) (markT ++ strOf (bytesR (headL h)))
def zeroS : Signed := ⟨⟨0, 0, 0, dz, 0⟩, 0, dz⟩
def signR (kk : Nat → BitVec 32) (master : D) (h : Head) (node : Int) : Signed × Int := if rightH h ∧ 1 ≤ node ∧ node ≤ 3 then (⟨h, node, tagT kk master h node⟩, 0) else (zeroS, 70)
def verifyR (kk : Nat → BitVec 32) (master : D) (s : Signed) : Int := if mayS s then (if sameB 32 (tagT kk master s.head s.node) s.tag = true then 0 else 72) else 70
theorem refMay_ok (s : Signed) : CallL Tryd.prog G 31 [signedV s] [] (.bool (decide (mayS s))) [] := by
  refine walk (fn := Tryd.f31) (nt := 11) rfl rfl rfl rfl ?_
  refine c_hole 1 (H' := [hole]) rfl ?_
  refine c_seq (c_reg ?_)
  refine r_box (v := signedV s) (b := bxB 69 (signedC s)) (nid := 0) (H' := [bxB 69 (signedC s)]) rfl rfl rfl (by kernel_rfl) (by kernel_rfl) ?_
  refine r_assign (v := .bool false) rfl rfl rfl ?_
  refine r_doneN (x_then (c_seq (c_reg ?_)))
  refine r_fieldAddr (b := 0) (o := 0) (n := 0) (o' := 0) rfl rfl rfl rfl rfl ?_
  refine r_load (p := pt 0 0) (v := headV s.head) rfl rfl rfl (by kernel_rfl) ?_
  refine r_callP (refRight_ok (G := G) s.head) (vals := [headV s.head]) (res' := .bool (decide (rightH s.head))) rfl rfl rfl rfl rfl rfl ?_
  refine r_move (v := .bool (decide (rightH s.head))) rfl rfl rfl ?_
  rcases Bool.eq_false_or_eq_true (decide (rightH s.head)) with h1 | h1
  refine r_fieldAddr (b := 0) (o := 0) (n := 36) (o' := 36) (by exact congrArg (fun b => some (b == true)) h1) rfl rfl rfl rfl ?_
  refine r_load (p := pt 0 36) (v := .int .i64 s.node) (by exact congrArg (fun b => some (b == true)) h1) rfl rfl (by kernel_rfl) ?_
  by_cases h2 : 1 ≤ s.node
  by_cases h3 : s.node ≤ 3
  refine r_callP ((refWithin_ok (G := G) s.node 1 3).res (congrArg Value.bool (withinB_t (by omega) (by omega)))) (vals := [.int .i64 s.node, .int .i64 1, .int .i64 3]) (res' := .bool true) (by exact congrArg (fun b => some (b == true)) h1) rfl rfl rfl rfl rfl ?_
  refine r_pick (v := .bool true) rfl rfl (by show some (if _ then _ else _) = _; rw [h1] <;> rfl) ?_
  refine r_assign (v := .bool true) rfl rfl rfl ?_
  refine r_doneN (x_then (c_ret (x_end ?_)))
  rw [show decide (mayS s) = true from decide_eq_true ⟨of_decide_eq_true (by assumption), by omega, by omega⟩]
  exact end_same (v := .bool true) rfl rfl rfl (by kernel_rfl) rfl
  refine r_callP ((refWithin_ok (G := G) s.node 1 3).res (congrArg Value.bool (withinB_f (by omega)))) (vals := [.int .i64 s.node, .int .i64 1, .int .i64 3]) (res' := .bool false) (by exact congrArg (fun b => some (b == true)) h1) rfl rfl rfl rfl rfl ?_
  refine r_pick (v := .bool false) rfl rfl (by show some (if _ then _ else _) = _; rw [h1] <;> rfl) ?_
  refine r_assign (v := .bool false) rfl rfl rfl ?_
  refine r_doneN (x_then (c_ret (x_end ?_)))
  rw [show decide (mayS s) = false from decide_eq_false (fun hh => by first | (have := hh.2; omega) | (exact absurd hh.1 (of_decide_eq_false (by assumption))))]
  exact end_same (v := .bool false) rfl rfl rfl (by kernel_rfl) rfl
  refine r_callP ((refWithin_ok (G := G) s.node 1 3).res (congrArg Value.bool (withinB_f (by omega)))) (vals := [.int .i64 s.node, .int .i64 1, .int .i64 3]) (res' := .bool false) (by exact congrArg (fun b => some (b == true)) h1) rfl rfl rfl rfl rfl ?_
  refine r_pick (v := .bool false) rfl rfl (by show some (if _ then _ else _) = _; rw [h1] <;> rfl) ?_
  refine r_assign (v := .bool false) rfl rfl rfl ?_
  refine r_doneN (x_then (c_ret (x_end ?_)))
  rw [show decide (mayS s) = false from decide_eq_false (fun hh => by first | (have := hh.2; omega) | (exact absurd hh.1 (of_decide_eq_false (by assumption))))]
  exact end_same (v := .bool false) rfl rfl rfl (by kernel_rfl) rfl
  refine r_skip (by exact congrArg (fun b => some (b == true)) h1) rfl ?_
  refine r_skip (by exact congrArg (fun b => some (b == true)) h1) rfl ?_
  refine r_skip (by exact congrArg (fun b => some (b == true)) h1) rfl ?_
  refine r_pick (v := .bool false) rfl rfl (by show some (if _ then _ else _) = _; rw [h1] <;> rfl) ?_
  refine r_assign (v := .bool false) rfl rfl rfl ?_
  refine r_doneN (x_then (c_ret (x_end ?_)))
  rw [show decide (mayS s) = false from decide_eq_false (fun hh => by first | (have := hh.2; omega) | (exact absurd hh.1 (of_decide_eq_false (by assumption))))]
  exact end_same (v := .bool false) rfl rfl rfl (by kernel_rfl) rfl
end Go.Flat
