/- Walks and plain laws: what each theorem says, within the bounds that it names. -/
import Derived.Test.YthfklplpfbmkgaaDoorH3
set_option linter.unusedVariables false
set_option linter.unusedSimpArgs false
set_option maxRecDepth 20000
namespace Go.Flat
open Go.Proofs
variable {G : Glob}
structure Head where
  region : Int
  epoch : Int
  size : Int
  root : D
  tick : Int
structure Signed where
  head : Head
  node : Int
  tag : D
def headC (h : Head) : List Value := [.int .i64 h.region, .int .i64 h.epoch, .int .i64 h.size] ++ rowE w8 32 h.root ++ [.int .i64 h.tick]
def headV (h : Head) : Value := .agg (headC h).toArray
def signedC (s : Signed) : List Value := headC s.head ++ [.int .i64 s.node] ++ rowE w8 32 s.tag
def signedV (s : Signed) : Value := .agg (signedC s).toArray
def rowF : Nat → List ByteArray → List Field
  | _, [] => []
  | k, x :: l => ⟨(k : Int) + 1, x⟩ :: rowF (k + 1) l
def bytesR (ls : List ByteArray) : Bs := (layF (rowF 0 ls) 0 []).1
theorem rowF_step {ls : List ByteArray} {i : Nat} {acc R : List Field} (hR : acc ++ rowF i (ls.drop i) = R) (hi : i < ls.length) : (acc ++ [⟨(i : Int) + 1, ls.getD i ⟨#[]⟩⟩]) ++ rowF (i + 1) (ls.drop (i + 1)) = R := by
  have e : ls.drop i = ls.getD i ⟨#[]⟩ :: ls.drop (i + 1) := by
    rw [List.drop_eq_getElem_cons hi, List.getD_eq_getElem?_getD, List.getElem?_eq_getElem hi]; rfl
  rw [e, rowF] at hR
  rw [← hR, List.append_assoc]; rfl
def withinB (n low high : Int) : Bool :=
  if low ≤ n then (if n ≤ high then true else
  false) else
  false
theorem within_ok (n low high : Int) : CallL Tryd.prog G 29 [.int .i64 n, .int .i64 low, .int .i64 high] [] (.bool (withinB n low high)) [] := by
  refine walk (fn := Tryd.f29) (nt := 15) rfl rfl rfl rfl ?_
  refine c_seq (c_reg ?_)
  refine r_assign (v := .bool false) rfl rfl rfl ?_
  refine r_doneN (x_then (c_seq (c_reg ?_)))
  refine r_move (v := .int .i64 n) rfl rfl rfl ?_
  refine r_move (v := .int .i64 low) rfl rfl rfl ?_
  by_cases h1 : low ≤ n
  refine r_bin (v := .bool true) (vx := .int .i64 n) (vy := .int .i64 low) rfl rfl rfl rfl (geq_t (by omega)) ?_
  refine r_move (v := .bool true) rfl rfl rfl ?_
  refine r_move (v := .int .i64 n) rfl rfl rfl ?_
  refine r_move (v := .int .i64 high) rfl rfl rfl ?_
  by_cases h2 : n ≤ high
  refine r_bin (v := .bool true) (vx := .int .i64 n) (vy := .int .i64 high) rfl rfl rfl rfl (leq_t (by omega)) ?_
  refine r_pick (v := .bool true) rfl rfl rfl ?_
  refine r_assign (v := .bool true) rfl rfl rfl ?_
  refine r_doneN (x_then (c_ret (x_end ?_)))
  rw [show withinB n low high = true from by unfold withinB; rw [if_pos h1, if_pos h2]]
  exact end_same (v := .bool true) rfl rfl rfl (by kernel_rfl) rfl
  refine r_bin (v := .bool false) (vx := .int .i64 n) (vy := .int .i64 high) rfl rfl rfl rfl (leq_f (by omega)) ?_
  refine r_pick (v := .bool false) rfl rfl rfl ?_
  refine r_assign (v := .bool false) rfl rfl rfl ?_
  refine r_doneN (x_then (c_ret (x_end ?_)))
  rw [show withinB n low high = false from by unfold withinB; rw [if_pos h1, if_neg h2]]
  exact end_same (v := .bool false) rfl rfl rfl (by kernel_rfl) rfl
  refine r_bin (v := .bool false) (vx := .int .i64 n) (vy := .int .i64 low) rfl rfl rfl rfl (geq_f (by omega)) ?_
  refine r_move (v := .bool false) rfl rfl rfl ?_
  refine r_skip rfl rfl (r_skip rfl rfl (r_skip rfl rfl ?_))
  refine r_pick (v := .bool false) rfl rfl rfl ?_
  refine r_assign (v := .bool false) rfl rfl rfl ?_
  refine r_doneN (x_then (c_ret (x_end ?_)))
  rw [show withinB n low high = false from by unfold withinB; rw [if_neg h1]]
  exact end_same (v := .bool false) rfl rfl rfl (by kernel_rfl) rfl
theorem withinB_t {n low high : Int} (h1 : low ≤ n) (h2 : n ≤ high) : withinB n low high = true := by unfold withinB; rw [if_pos h1, if_pos h2]
theorem withinB_f {n low high : Int} (h : n < low ∨ high < n) : withinB n low high = false := by
  unfold withinB
  by_cases h1 : low ≤ n
  · rw [if_pos h1, if_neg (by omega)]
  · rw [if_neg h1]
def checkE (h : Head) : Int :=
  if 1 ≤ h.region then (if h.region ≤ 5 then (if 1 ≤ h.epoch then (if h.epoch ≤ 900000000 then (if 0 ≤ h.size then (if h.size ≤ 100000 then (if 0 ≤ h.tick then (if h.tick ≤ 900000000 then 0 else
  70) else
  70) else
  70) else
  70) else
  70) else
  70) else
  70) else
  70
theorem Check_ok (h : Head) : CallL Tryd.prog G 32 [headV h] [] (.int .i64 (checkE h)) [] := by
  refine walk (fn := Tryd.f32) (nt := 21) rfl rfl rfl rfl ?_
  refine c_hole 1 (H' := [hole]) rfl ?_
  refine c_seq (c_reg ?_)
  refine r_box (v := headV h) (b := bxB 36 (headC h)) (nid := 0) (H' := [bxB 36 (headC h)]) rfl rfl rfl (by kernel_rfl) (by kernel_rfl) ?_
  refine r_assign (v := .int .i64 0) rfl rfl rfl ?_
  refine r_doneN (x_then (c_seq (c_seq (c_reg ?_))))
  refine r_fieldAddr (b := 0) (o := 0) (n := 0) (o' := 0) rfl rfl rfl rfl rfl ?_
  refine r_load (p := pt 0 0) (v := .int .i64 h.region) rfl rfl rfl (by kernel_rfl) ?_
  by_cases h1 : 1 ≤ h.region
  by_cases h2 : h.region ≤ 5
  refine r_callP ((within_ok (G := G) h.region 1 5).res (congrArg Value.bool (withinB_t (by omega) (by omega)))) (vals := [.int .i64 h.region, .int .i64 1, .int .i64 5]) (res' := .bool true) rfl rfl rfl rfl rfl rfl ?_
  refine r_move (v := .bool true) rfl rfl rfl ?_
  refine r_fieldAddr (b := 0) (o := 0) (n := 1) (o' := 1) rfl rfl rfl rfl rfl ?_
  refine r_load (p := pt 0 1) (v := .int .i64 h.epoch) rfl rfl rfl (by kernel_rfl) ?_
  by_cases h3 : 1 ≤ h.epoch
  by_cases h4 : h.epoch ≤ 900000000
  refine r_callP ((within_ok (G := G) h.epoch 1 900000000).res (congrArg Value.bool (withinB_t (by omega) (by omega)))) (vals := [.int .i64 h.epoch, .int .i64 1, .int .i64 900000000]) (res' := .bool true) rfl rfl rfl rfl rfl rfl ?_
  refine r_pick (v := .bool true) rfl rfl rfl ?_
  refine r_move (v := .bool true) rfl rfl rfl ?_
  refine r_fieldAddr (b := 0) (o := 0) (n := 2) (o' := 2) rfl rfl rfl rfl rfl ?_
  refine r_load (p := pt 0 2) (v := .int .i64 h.size) rfl rfl rfl (by kernel_rfl) ?_
  by_cases h5 : 0 ≤ h.size
  by_cases h6 : h.size ≤ 100000
  refine r_callP ((within_ok (G := G) h.size 0 100000).res (congrArg Value.bool (withinB_t (by omega) (by omega)))) (vals := [.int .i64 h.size, .int .i64 0, .int .i64 100000]) (res' := .bool true) rfl rfl rfl rfl rfl rfl ?_
  refine r_pick (v := .bool true) rfl rfl rfl ?_
  refine r_move (v := .bool true) rfl rfl rfl ?_
  refine r_fieldAddr (b := 0) (o := 0) (n := 35) (o' := 35) rfl rfl rfl rfl rfl ?_
  refine r_load (p := pt 0 35) (v := .int .i64 h.tick) rfl rfl rfl (by kernel_rfl) ?_
  by_cases h7 : 0 ≤ h.tick
  by_cases h8 : h.tick ≤ 900000000
  refine r_callP ((within_ok (G := G) h.tick 0 900000000).res (congrArg Value.bool (withinB_t (by omega) (by omega)))) (vals := [.int .i64 h.tick, .int .i64 0, .int .i64 900000000]) (res' := .bool true) rfl rfl rfl rfl rfl rfl ?_
  refine r_pick (v := .bool true) rfl rfl rfl ?_
  refine r_doneN (x_then (c_true rfl (c_seq (c_reg ?_))))
  refine r_assign (v := .int .i64 0) rfl rfl rfl ?_
  refine r_doneN (x_then (c_ret (x_thenR (x_end ?_))))
  rw [show checkE h = 0 from by unfold checkE; rw [if_pos h1, if_pos h2, if_pos h3, if_pos h4, if_pos h5, if_pos h6, if_pos h7, if_pos h8]]
  exact end_same (v := .int .i64 0) rfl rfl rfl (by kernel_rfl) rfl
  refine r_callP ((within_ok (G := G) h.tick 0 900000000).res (congrArg Value.bool (withinB_f (by omega)))) (vals := [.int .i64 h.tick, .int .i64 0, .int .i64 900000000]) (res' := .bool false) rfl rfl rfl rfl rfl rfl ?_
  refine r_pick (v := .bool false) rfl rfl rfl ?_
  refine r_doneN (x_then (c_false rfl (c_skip (x_then (c_seq (c_reg ?_))))))
  refine r_assign (v := .int .i64 70) rfl rfl rfl ?_
  refine r_doneN (x_then (c_ret (x_end ?_)))
  rw [show checkE h = 70 from by unfold checkE; rw [if_pos h1, if_pos h2, if_pos h3, if_pos h4, if_pos h5, if_pos h6, if_pos h7, if_neg h8]]
  exact end_same (v := .int .i64 70) rfl rfl rfl (by kernel_rfl) rfl
  refine r_callP ((within_ok (G := G) h.tick 0 900000000).res (congrArg Value.bool (withinB_f (by omega)))) (vals := [.int .i64 h.tick, .int .i64 0, .int .i64 900000000]) (res' := .bool false) rfl rfl rfl rfl rfl rfl ?_
  refine r_pick (v := .bool false) rfl rfl rfl ?_
  refine r_doneN (x_then (c_false rfl (c_skip (x_then (c_seq (c_reg ?_))))))
  refine r_assign (v := .int .i64 70) rfl rfl rfl ?_
  refine r_doneN (x_then (c_ret (x_end ?_)))
  rw [show checkE h = 70 from by unfold checkE; rw [if_pos h1, if_pos h2, if_pos h3, if_pos h4, if_pos h5, if_pos h6, if_neg h7]]
  exact end_same (v := .int .i64 70) rfl rfl rfl (by kernel_rfl) rfl
  refine r_callP ((within_ok (G := G) h.size 0 100000).res (congrArg Value.bool (withinB_f (by omega)))) (vals := [.int .i64 h.size, .int .i64 0, .int .i64 100000]) (res' := .bool false) rfl rfl rfl rfl rfl rfl ?_
  refine r_pick (v := .bool false) rfl rfl rfl ?_
  refine r_move (v := .bool false) rfl rfl rfl ?_
  refine r_skip rfl rfl (r_skip rfl rfl (r_skip rfl rfl ?_))
  refine r_pick (v := .bool false) rfl rfl rfl ?_
  refine r_doneN (x_then (c_false rfl (c_skip (x_then (c_seq (c_reg ?_))))))
  refine r_assign (v := .int .i64 70) rfl rfl rfl ?_
  refine r_doneN (x_then (c_ret (x_end ?_)))
  rw [show checkE h = 70 from by unfold checkE; rw [if_pos h1, if_pos h2, if_pos h3, if_pos h4, if_pos h5, if_neg h6]]
  exact end_same (v := .int .i64 70) rfl rfl rfl (by kernel_rfl) rfl
  refine r_callP ((within_ok (G := G) h.size 0 100000).res (congrArg Value.bool (withinB_f (by omega)))) (vals := [.int .i64 h.size, .int .i64 0, .int .i64 100000]) (res' := .bool false) rfl rfl rfl rfl rfl rfl ?_
  refine r_pick (v := .bool false) rfl rfl rfl ?_
  refine r_move (v := .bool false) rfl rfl rfl ?_
  refine r_skip rfl rfl (r_skip rfl rfl (r_skip rfl rfl ?_))
  refine r_pick (v := .bool false) rfl rfl rfl ?_
  refine r_doneN (x_then (c_false rfl (c_skip (x_then (c_seq (c_reg ?_))))))
  refine r_assign (v := .int .i64 70) rfl rfl rfl ?_
  refine r_doneN (x_then (c_ret (x_end ?_)))
  rw [show checkE h = 70 from by unfold checkE; rw [if_pos h1, if_pos h2, if_pos h3, if_pos h4, if_neg h5]]
  exact end_same (v := .int .i64 70) rfl rfl rfl (by kernel_rfl) rfl
  refine r_callP ((within_ok (G := G) h.epoch 1 900000000).res (congrArg Value.bool (withinB_f (by omega)))) (vals := [.int .i64 h.epoch, .int .i64 1, .int .i64 900000000]) (res' := .bool false) rfl rfl rfl rfl rfl rfl ?_
  refine r_pick (v := .bool false) rfl rfl rfl ?_
  refine r_move (v := .bool false) rfl rfl rfl ?_
  refine r_skip rfl rfl (r_skip rfl rfl (r_skip rfl rfl ?_))
  refine r_pick (v := .bool false) rfl rfl rfl ?_
  refine r_move (v := .bool false) rfl rfl rfl ?_
  refine r_skip rfl rfl (r_skip rfl rfl (r_skip rfl rfl ?_))
  refine r_pick (v := .bool false) rfl rfl rfl ?_
  refine r_doneN (x_then (c_false rfl (c_skip (x_then (c_seq (c_reg ?_))))))
  refine r_assign (v := .int .i64 70) rfl rfl rfl ?_
  refine r_doneN (x_then (c_ret (x_end ?_)))
  rw [show checkE h = 70 from by unfold checkE; rw [if_pos h1, if_pos h2, if_pos h3, if_neg h4]]
  exact end_same (v := .int .i64 70) rfl rfl rfl (by kernel_rfl) rfl
  refine r_callP ((within_ok (G := G) h.epoch 1 900000000).res (congrArg Value.bool (withinB_f (by omega)))) (vals := [.int .i64 h.epoch, .int .i64 1, .int .i64 900000000]) (res' := .bool false) rfl rfl rfl rfl rfl rfl ?_
  refine r_pick (v := .bool false) rfl rfl rfl ?_
  refine r_move (v := .bool false) rfl rfl rfl ?_
  refine r_skip rfl rfl (r_skip rfl rfl (r_skip rfl rfl ?_))
  refine r_pick (v := .bool false) rfl rfl rfl ?_
  refine r_move (v := .bool false) rfl rfl rfl ?_
  refine r_skip rfl rfl (r_skip rfl rfl (r_skip rfl rfl ?_))
  refine r_pick (v := .bool false) rfl rfl rfl ?_
  refine r_doneN (x_then (c_false rfl (c_skip (x_then (c_seq (c_reg ?_))))))
  refine r_assign (v := .int .i64 70) rfl rfl rfl ?_
  refine r_doneN (x_then (c_ret (x_end ?_)))
  rw [show checkE h = 70 from by unfold checkE; rw [if_pos h1, if_pos h2, if_neg h3]]
  exact end_same (v := .int .i64 70) rfl rfl rfl (by kernel_rfl) rfl
  refine r_callP ((within_ok (G := G) h.region 1 5).res (congrArg Value.bool (withinB_f (by omega)))) (vals := [.int .i64 h.region, .int .i64 1, .int .i64 5]) (res' := .bool false) rfl rfl rfl rfl rfl rfl ?_
  refine r_move (v := .bool false) rfl rfl rfl ?_
  refine r_skip rfl rfl (r_skip rfl rfl (r_skip rfl rfl ?_))
  refine r_pick (v := .bool false) rfl rfl rfl ?_
  refine r_move (v := .bool false) rfl rfl rfl ?_
  refine r_skip rfl rfl (r_skip rfl rfl (r_skip rfl rfl ?_))
  refine r_pick (v := .bool false) rfl rfl rfl ?_
  refine r_move (v := .bool false) rfl rfl rfl ?_
  refine r_skip rfl rfl (r_skip rfl rfl (r_skip rfl rfl ?_))
  refine r_pick (v := .bool false) rfl rfl rfl ?_
  refine r_doneN (x_then (c_false rfl (c_skip (x_then (c_seq (c_reg ?_))))))
  refine r_assign (v := .int .i64 70) rfl rfl rfl ?_
  refine r_doneN (x_then (c_ret (x_end ?_)))
  rw [show checkE h = 70 from by unfold checkE; rw [if_pos h1, if_neg h2]]
  exact end_same (v := .int .i64 70) rfl rfl rfl (by kernel_rfl) rfl
  refine r_callP ((within_ok (G := G) h.region 1 5).res (congrArg Value.bool (withinB_f (by omega)))) (vals := [.int .i64 h.region, .int .i64 1, .int .i64 5]) (res' := .bool false) rfl rfl rfl rfl rfl rfl ?_
  refine r_move (v := .bool false) rfl rfl rfl ?_
  refine r_skip rfl rfl (r_skip rfl rfl (r_skip rfl rfl ?_))
  refine r_pick (v := .bool false) rfl rfl rfl ?_
  refine r_move (v := .bool false) rfl rfl rfl ?_
  refine r_skip rfl rfl (r_skip rfl rfl (r_skip rfl rfl ?_))
  refine r_pick (v := .bool false) rfl rfl rfl ?_
  refine r_move (v := .bool false) rfl rfl rfl ?_
  refine r_skip rfl rfl (r_skip rfl rfl (r_skip rfl rfl ?_))
  refine r_pick (v := .bool false) rfl rfl rfl ?_
  refine r_doneN (x_then (c_false rfl (c_skip (x_then (c_seq (c_reg ?_))))))
  refine r_assign (v := .int .i64 70) rfl rfl rfl ?_
  refine r_doneN (x_then (c_ret (x_end ?_)))
  rw [show checkE h = 70 from by unfold checkE; rw [if_neg h1]]
  exact end_same (v := .int .i64 70) rfl rfl rfl (by kernel_rfl) rfl
def rightH (h : Head) : Prop := (1 ≤ h.region ∧ h.region ≤ 5) ∧ (1 ≤ h.epoch ∧ h.epoch ≤ 900000000) ∧ (0 ≤ h.size ∧ h.size ≤ 100000) ∧ (0 ≤ h.tick ∧ h.tick ≤ 900000000)
instance (h : Head) : Decidable (rightH h) := inferInstanceAs (Decidable (_ ∧ _))
theorem checkE_eq (h : Head) : checkE h = if rightH h then 0 else 70 := by
  unfold checkE rightH
  repeat (first | split | omega)
theorem checkE_ok {h : Head} (hc : checkE h = 0) : (1 ≤ h.region ∧ h.region ≤ 5) ∧ (1 ≤ h.epoch ∧ h.epoch ≤ 900000000) ∧ (0 ≤ h.size ∧ h.size ≤ 100000) ∧ (0 ≤ h.tick ∧ h.tick ≤ 900000000) := by
  rw [checkE_eq] at hc
  split at hc
  · assumption
  · omega
def headL (h : Head) : List ByteArray := [(numS h.region).1, (numS h.epoch).1, (numS h.size).1, strOf (dgL h.root), (numS h.tick).1]
def putH (h : Head) : Bs × Int := if checkE h = 0 then (bytesR (headL h), 0) else ([], checkE h)
theorem row_s_ok (ls : List ByteArray) (n : Nat) (x : ByteArray) (hn : ls.length = n) (hb : n ≤ 1000) : CallL Tryd.prog G 34 [pt 0 0, .string x] [rfB (slv 1 0 n n), txB ls] (.tuple #[]) [rfB (slv 1 0 (n + 1) (n + 1)), txB (ls ++ [x])] := by
  refine walk (fn := Tryd.f34) (nt := 12) rfl rfl rfl rfl ?_
  refine c_hole 1 (H' := [rfB (slv 1 0 n n), txB ls, hole]) rfl ?_
  refine c_reg ?_
  refine r_move (v := pt 0 0) rfl rfl rfl ?_
  refine r_move (v := pt 0 0) rfl rfl rfl ?_
  refine r_nilCheck (p := pt 0 0) (v := pt 0 0) rfl rfl rfl rfl ?_
  refine r_load (p := pt 0 0) (v := slv 1 0 n n) rfl rfl rfl rfl ?_
  refine r_move (v := .string x) rfl rfl rfl ?_
  refine r_lit (vs := [(0, .string x)]) (v := slv 2 0 1 1) (blk := txB [x]) (nid := 2) (H' := [rfB (slv 1 0 n n), txB ls, txB [x]]) rfl rfl rfl (by kernel_rfl) (by kernel_rfl) ?_
  have hl2 : (ls ++ [x]).length = n + 1 := by have := hn; have := (rfl : _ = 1); first | (rw [List.length_append]; omega) | (simp; omega) | simp
  refine r_append (p := slv 1 0 n n) (q := slv 2 0 1 1) (v := slv 1 0 (n + 1) (n + 1)) (b := 1) (blk := txB (ls ++ [x])) (H' := [rfB (dead), txB (ls ++ [x]), txB [x]]) rfl rfl rfl (.inl ⟨_, rfl⟩) rfl rfl (appD_tx (by_ := 16) (k := 1) (n' := n + 1) (ms := [x]) rfl rfl (by kernel_rfl) rfl (by have := hn; omega) (by omega) (by decide) (by omega)) rfl (by kernel_rfl) ?_
  refine r_nilCheck (p := pt 0 0) (v := pt 0 0) rfl rfl rfl rfl ?_
  refine r_store (p := pt 0 0) (v := slv 1 0 (n + 1) (n + 1)) (b := 0) (blk := rfB (slv 1 0 (n + 1) (n + 1))) (H' := [rfB (slv 1 0 (n + 1) (n + 1)), txB (ls ++ [x]), txB [x]]) rfl rfl rfl (by kernel_rfl) (by kernel_rfl) ?_
  refine r_doneN (x_endN ?_)
  exact end_same (v := .tuple #[]) rfl rfl rfl (by simp [keptB, rfB, txB, okId, okId0]) trivial
theorem row_n_ok (ls : List ByteArray) (n : Nat) (x : Int) (hn : ls.length = n) (hb : n ≤ 1000) (hl : -9223372036854775808 ≤ x) (hh : x ≤ 9223372036854775807) : CallL Tryd.prog G 33 [pt 0 0, .int .i64 x] [rfB (slv 1 0 n n), txB ls] (.tuple #[]) [rfB (slv 1 0 (n + 1) (n + 1)), txB (ls ++ [(numS x).1])] := by
  refine walk (fn := Tryd.f33) (nt := 19) rfl rfl rfl rfl ?_
  refine c_hole 1 (H' := [rfB (slv 1 0 n n), txB ls, hole]) rfl ?_
  refine c_seq (c_reg ?_)
  refine r_move (v := .int .i64 x) rfl rfl rfl ?_
  refine r_callP (Number_ok (G := G) x (by omega) (by omega)) (vals := [.int .i64 x]) (res' := .tuple #[.string ((numS x).1), .int .i64 (((numS x).2))]) rfl rfl rfl rfl rfl (by kernel_rfl) ?_
  refine r_move (v := .tuple #[.string ((numS x).1), .int .i64 (((numS x).2))]) rfl rfl rfl ?_
  refine r_extract (vs := #[.string ((numS x).1), .int .i64 (((numS x).2))]) (v := .string ((numS x).1)) rfl rfl rfl rfl ?_
  refine r_extract (vs := #[.string ((numS x).1), .int .i64 (((numS x).2))]) (v := .int .i64 (((numS x).2))) rfl rfl rfl rfl ?_
  refine r_assign (v := .string ((numS x).1)) rfl rfl rfl ?_
  refine r_assign (v := .int .i64 (((numS x).2))) rfl rfl rfl ?_
  refine r_doneN (x_then (c_reg ?_))
  refine r_move (v := pt 0 0) rfl rfl rfl ?_
  refine r_move (v := pt 0 0) rfl rfl rfl ?_
  refine r_nilCheck (p := pt 0 0) (v := pt 0 0) rfl rfl rfl rfl ?_
  refine r_load (p := pt 0 0) (v := slv 1 0 n n) rfl rfl rfl rfl ?_
  refine r_move (v := .string ((numS x).1)) rfl rfl rfl ?_
  refine r_lit (vs := [(0, .string ((numS x).1))]) (v := slv 2 0 1 1) (blk := txB [(numS x).1]) (nid := 2) (H' := [rfB (slv 1 0 n n), txB ls, txB [(numS x).1]]) rfl rfl rfl (by kernel_rfl) (by kernel_rfl) ?_
  have hl2 : (ls ++ [(numS x).1]).length = n + 1 := by have := hn; have := (rfl : _ = 1); first | (rw [List.length_append]; omega) | (simp; omega) | simp
  refine r_append (p := slv 1 0 n n) (q := slv 2 0 1 1) (v := slv 1 0 (n + 1) (n + 1)) (b := 1) (blk := txB (ls ++ [(numS x).1])) (H' := [rfB (dead), txB (ls ++ [(numS x).1]), txB [(numS x).1]]) rfl rfl rfl (.inl ⟨_, rfl⟩) rfl rfl (appD_tx (by_ := 16) (k := 1) (n' := n + 1) (ms := [(numS x).1]) rfl rfl (by kernel_rfl) rfl (by have := hn; omega) (by omega) (by decide) (by omega)) rfl (by kernel_rfl) ?_
  refine r_nilCheck (p := pt 0 0) (v := pt 0 0) rfl rfl rfl rfl ?_
  refine r_store (p := pt 0 0) (v := slv 1 0 (n + 1) (n + 1)) (b := 0) (blk := rfB (slv 1 0 (n + 1) (n + 1))) (H' := [rfB (slv 1 0 (n + 1) (n + 1)), txB (ls ++ [(numS x).1]), txB [(numS x).1]]) rfl rfl rfl (by kernel_rfl) (by kernel_rfl) ?_
  refine r_doneN (x_endN ?_)
  exact end_same (v := .tuple #[]) rfl rfl rfl (by simp [keptB, rfB, txB, okId, okId0]) trivial
theorem bytes_ok (ls : List ByteArray) (n : Nat) (hn : ls.length = n) (hb : n ≤ 1000) : CallL Tryd.prog G 35 [pt 0 0] [rfB (slv 1 0 n n), txB ls] (slv 2 0 (bytesR ls).length (bytesR ls).length) [rfB (slv 1 0 n n), txB ls, rowB (bytesR ls)] := by
  refine walk (fn := Tryd.f35) (nt := 31) rfl rfl rfl rfl ?_
  refine c_hole 1 (H' := [rfB (slv 1 0 n n), txB ls, hole]) rfl ?_
  refine c_seq (c_reg ?_)
  refine r_assign (v := .slice none 0 0) rfl rfl rfl ?_
  refine r_doneN (x_then (c_seq (c_reg ?_)))
  refine r_assign (v := .slice none 0 0) rfl rfl rfl ?_
  refine r_doneN (x_then (c_seq (c_seq ?_)))
  refine c_weak (Weak.nilTmp (i := 3) (b := 2) true 2 rfl (by decide) rfl) ?_
  refine c_reg ?_
  refine r_move (v := pt 0 0) rfl rfl rfl ?_
  refine r_nilCheck (p := pt 0 0) (v := pt 0 0) rfl rfl rfl rfl ?_
  refine r_load (p := pt 0 0) (v := slv 1 0 n n) rfl rfl rfl rfl ?_
  refine r_len (p := slv 1 0 n n) (v := .int .i64 (n : Nat)) rfl rfl rfl rfl ?_
  refine r_move (v := .int .i64 0) rfl rfl rfl ?_
  refine r_doneN (x_then (c_block ?_))
  refine c_loopN (fun x : Nat × (List Field) => match x with | (i, acc) => [pt 0 0, dead, .slice none 0 0, slv 2 0 i i, dead, dead, dead, dead, pt 0 0, pt 0 0, slv 1 0 n n, .int .i64 (n : Nat), .int .i64 (i : Nat)]) (fun x : Nat × (List Field) => match x with | (i, acc) => [rfB (slv 1 0 n n), txB ls, rwB cFd acc]) (fun x : Nat × (List Field) => match x with | (i, acc) => acc ++ rowF i (ls.drop i) = rowF 0 ls ∧ i ≤ n ∧ acc.length = i) (fun x : Nat × (List Field) => match x with | (i, acc) => n - i) (0, []) ⟨rfl, by omega, rfl⟩ ?_ ?_
  · refine weak_to (n := 3) rfl ?_ (by kernel_rfl) (by kernel_rfl)
    repeat (first | exact trivial | refine ⟨.inl rfl, ?_⟩ | refine ⟨.inr ⟨rfl, rfl⟩, ?_⟩ | refine ⟨.inr ⟨congrArg (Value.int .i64) (by first | omega | (dsimp only; omega)), rfl⟩, ?_⟩)
  rintro ⟨i, acc⟩ ⟨hR, hi, ha⟩
  dsimp only at *
  refine c_hole 2 (H' := [rfB (slv 1 0 n n), txB ls, rwB cFd acc, hole, hole]) rfl ?_
  refine c_seq (c_reg ?_)
  by_cases h1 : (i : Nat) < (n : Nat)
  refine r_bin (v := .bool true) (vx := .int .i64 (i : Nat)) (vy := .int .i64 (n : Nat)) rfl rfl rfl rfl (lss_t (by omega)) ?_
  refine r_doneN (x_then (c_seq (c_true rfl (c_skip (x_then (c_seq (c_block (c_seq (c_reg ?_)))))))))
  refine r_move (v := .int .i64 (i : Nat)) rfl rfl rfl ?_
  refine r_idxS (b := 1) (o := 0) (j := i) (m := n) (c := n) (sz := 1) (i := (i : Nat)) (k := .i64) rfl rfl rfl rfl rfl (by omega) (by omega) (by omega) ?_
  refine r_load (p := pt 1 i) (v := .string (ls.getD i ⟨#[]⟩)) rfl rfl rfl (load_tx rfl rfl rfl (by have := hn; omega)) ?_
  refine r_assign (v := .int .i64 (i : Nat)) rfl rfl rfl ?_
  refine r_assign (v := .string (ls.getD i ⟨#[]⟩)) rfl rfl rfl ?_
  refine r_doneN (x_then (c_reg ?_))
  refine r_move (v := slv 2 0 i i) rfl rfl rfl ?_
  refine r_move (v := .int .i64 (i : Nat)) rfl rfl rfl ?_
  refine r_bin (v := .int .i64 ((i : Nat) + 1)) (vx := .int .i64 (i : Nat)) (vy := .int .i64 1) rfl rfl rfl rfl (bin_add (by omega) (by omega) (by omega)) ?_
  refine r_move (v := .string (ls.getD i ⟨#[]⟩)) rfl rfl rfl ?_
  refine r_build (vs := [(0, .int .i64 ((i : Nat) + 1)), (1, .string (ls.getD i ⟨#[]⟩))]) (v := fdV (⟨(i : Nat) + 1, (ls.getD i ⟨#[]⟩)⟩ : Field)) rfl rfl rfl (by kernel_rfl) ?_
  refine r_lit (vs := [(0, fdV (⟨(i : Nat) + 1, (ls.getD i ⟨#[]⟩)⟩ : Field))]) (v := slv 3 0 1 1) (blk := rwB cFd [(⟨(i : Nat) + 1, (ls.getD i ⟨#[]⟩)⟩ : Field)]) (nid := 3) (H' := [rfB (slv 1 0 n n), txB ls, rwB cFd acc, rwB cFd [(⟨(i : Nat) + 1, (ls.getD i ⟨#[]⟩)⟩ : Field)], hole]) rfl rfl rfl (by kernel_rfl) (by kernel_rfl) ?_
  have hl2 : (acc ++ [(⟨(i : Nat) + 1, (ls.getD i ⟨#[]⟩)⟩ : Field)]).length = i + 1 := by have := ha; have := (rfl : _ = 1); first | (rw [List.length_append]; omega) | (simp; omega) | simp
  refine r_append (p := slv 2 0 i i) (q := slv 3 0 1 1) (v := slv 2 0 (i + 1) (i + 1)) (b := 2) (blk := rwB cFd (acc ++ [(⟨(i : Nat) + 1, (ls.getD i ⟨#[]⟩)⟩ : Field)])) (H' := [rfB (slv 1 0 n n), txB ls, rwB cFd (acc ++ [(⟨(i : Nat) + 1, (ls.getD i ⟨#[]⟩)⟩ : Field)]), rwB cFd [(⟨(i : Nat) + 1, (ls.getD i ⟨#[]⟩)⟩ : Field)], hole]) rfl rfl rfl (.inl ⟨_, rfl⟩) rfl rfl (appD_rw cFd (by_ := 24) (k := 1) (n' := i + 1) (ms := [(⟨(i : Nat) + 1, (ls.getD i ⟨#[]⟩)⟩ : Field)]) (fun _ => rfl) rfl rfl (by kernel_rfl) rfl rfl (by have := ha; omega) (by omega) (by decide) (by omega)) rfl (by kernel_rfl) ?_
  refine r_assign (v := slv 2 0 (i + 1) (i + 1)) rfl rfl rfl ?_
  refine r_doneN (x_blockN (x_then (c_reg ?_)))
  refine r_bin (v := .int .i64 ((i : Nat) + 1)) (vx := .int .i64 (i : Nat)) (vy := .int .i64 1) rfl rfl rfl rfl (bin_add (by omega) (by omega) (by omega)) ?_
  refine r_move (v := .int .i64 ((i : Nat) + 1)) rfl rfl rfl ?_
  refine r_doneN ?_
  refine x_round ⟨((i + 1), (acc ++ [(⟨(i : Nat) + 1, (ls.getD i ⟨#[]⟩)⟩ : Field)])), ⟨rowF_step hR (by omega), by omega, by rw [List.length_append, ha]; rfl⟩, by show n - (i + 1) < n - i; omega, ?_⟩
  refine weak_to (n := 3) rfl ?_ (by kernel_rfl) (by kernel_rfl)
  repeat (first | exact trivial | refine ⟨.inl rfl, ?_⟩ | refine ⟨.inr ⟨rfl, rfl⟩, ?_⟩ | refine ⟨.inr ⟨congrArg (Value.int .i64) (by first | omega | (dsimp only; omega)), rfl⟩, ?_⟩)
  refine r_bin (v := .bool false) (vx := .int .i64 (i : Nat)) (vy := .int .i64 (n : Nat)) rfl rfl rfl rfl (lss_f (by omega)) ?_
  refine r_doneN (x_then (c_seq (c_false rfl (c_exit (x_thenE (x_leaveE (x_block rfl (x_then (c_seq (c_reg ?_))))))))))
  refine r_move (v := slv 2 0 i i) rfl rfl rfl ?_
  refine r_callN (e := [some (2, 0)]) (nid := 3) (Lay_ok (G := G) acc i i ha (by omega) (by omega)) (vals := [slv 2 0 i i]) (v := .tuple #[slv 3 0 ((layF acc 0 []).1.length) ((layF acc 0 []).1.length), .int .i64 (((layF acc 0 []).2))]) (H' := [rfB (slv 1 0 n n), txB ls, rwB cFd acc, rowB ((layF acc 0 []).1), hole]) rfl rfl rfl rfl rfl rfl rfl ⟨⟨⟨rfl, rfl, rfl, by first | omega | exact Nat.le_refl _, by first | omega | exact Nat.le_refl _⟩, trivial⟩, ⟨(emb_rwB rfl), trivial⟩, rfl, rfl, rfl⟩ (by kernel_rfl) (by kernel_rfl) ?_
  refine r_move (v := .tuple #[slv 3 0 ((layF acc 0 []).1.length) ((layF acc 0 []).1.length), .int .i64 (((layF acc 0 []).2))]) rfl rfl rfl ?_
  refine r_extract (vs := #[slv 3 0 ((layF acc 0 []).1.length) ((layF acc 0 []).1.length), .int .i64 (((layF acc 0 []).2))]) (v := slv 3 0 ((layF acc 0 []).1.length) ((layF acc 0 []).1.length)) rfl rfl rfl rfl ?_
  refine r_extract (vs := #[slv 3 0 ((layF acc 0 []).1.length) ((layF acc 0 []).1.length), .int .i64 (((layF acc 0 []).2))]) (v := .int .i64 (((layF acc 0 []).2))) rfl rfl rfl rfl ?_
  refine r_assign (v := slv 3 0 ((layF acc 0 []).1.length) ((layF acc 0 []).1.length)) rfl rfl rfl ?_
  refine r_assign (v := .int .i64 (((layF acc 0 []).2))) rfl rfl rfl ?_
  refine r_doneN (x_then (c_seq (c_reg ?_)))
  refine r_move (v := slv 3 0 ((layF acc 0 []).1.length) ((layF acc 0 []).1.length)) rfl rfl rfl ?_
  refine r_assign (v := slv 3 0 ((layF acc 0 []).1.length) ((layF acc 0 []).1.length)) rfl rfl rfl ?_
  refine r_doneN (x_then (c_ret (x_end ?_)))
  have hR' : acc = rowF 0 ls := by rw [← hR, List.drop_of_length_le (by omega)]; simp [rowF]
  rw [show bytesR ls = (layF acc 0 []).1 from by rw [hR']; rfl]
  exact end_map [0, 1, 3] (v := slv 3 0 ((layF acc 0 []).1.length) ((layF acc 0 []).1.length)) rfl (by kernel_rfl) rfl rfl (by decide) (by simp [keptB, rfB, txB, rowB, okId, okId0]) ⟨rfl, rfl, rfl, by first | omega | exact Nat.le_refl _ | exact Nat.zero_le _ | (dsimp only; omega), by first | omega | exact Nat.le_refl _ | exact Nat.zero_le _ | (dsimp only; omega)⟩
theorem Put_ok (h : Head) : CallL Tryd.prog G 14 [headV h] [] (.tuple #[slv 0 0 (putH h).1.length (putH h).1.length, .int .i64 (putH h).2]) [rowB (putH h).1] := by
  refine walk (fn := Tryd.f14) (nt := 34) rfl rfl rfl rfl ?_
  refine c_hole 4 (H' := [hole, hole, hole, hole]) rfl ?_
  refine c_seq (c_reg ?_)
  refine r_box (v := headV h) (b := bxB 36 (headC h)) (nid := 0) (H' := [bxB 36 (headC h), hole, hole, hole]) rfl rfl rfl (by kernel_rfl) (by kernel_rfl) ?_
  refine r_assign (v := .slice none 0 0) rfl rfl rfl ?_
  refine r_assign (v := .int .i64 0) rfl rfl rfl ?_
  refine r_doneN (x_then (c_seq (c_seq (c_reg ?_))))
  refine r_load (p := pt 0 0) (v := headV h) rfl rfl rfl (by kernel_rfl) ?_
  refine r_callP (Check_ok (G := G) h) (vals := [headV h]) (res' := .int .i64 ((checkE h))) rfl rfl rfl rfl rfl rfl ?_
  refine r_assign (v := .int .i64 ((checkE h))) rfl rfl rfl ?_
  refine r_doneN (x_then (c_seq (c_reg ?_)))
  refine r_move (v := .int .i64 ((checkE h))) rfl rfl rfl ?_
  by_cases h1 : ((checkE h)) ≠ 0
  refine r_bin (v := .bool true) (vx := .int .i64 ((checkE h))) (vy := .int .i64 0) rfl rfl rfl rfl (neq_t (by omega)) ?_
  refine r_doneN (x_then (c_true rfl (c_seq (c_reg ?_))))
  refine r_move (v := .int .i64 ((checkE h))) rfl rfl rfl ?_
  refine r_assign (v := .slice none 0 0) rfl rfl rfl ?_
  refine r_assign (v := .int .i64 ((checkE h))) rfl rfl rfl ?_
  refine r_doneN (x_then ?_)
  refine c_weak (Weak.nilTmp (i := 2) (b := 1) true 1 rfl (by decide) rfl) ?_
  refine c_ret (x_thenR (x_end ?_))
  rw [show putH h = ([], ((checkE h))) from if_neg (by omega)]
  exact end_map [1] (v := .tuple #[slv 1 0 0 0, .int .i64 ((checkE h))]) rfl (by kernel_rfl) rfl rfl (by decide) (by simp [keptB, rowB]) ⟨⟨rfl, rfl, rfl, by first | omega | exact Nat.le_refl _ | exact Nat.zero_le _ | (dsimp only; omega), by first | omega | exact Nat.le_refl _ | exact Nat.zero_le _ | (dsimp only; omega)⟩, rfl, trivial⟩
  refine r_bin (v := .bool false) (vx := .int .i64 ((checkE h))) (vy := .int .i64 0) rfl rfl rfl rfl (neq_f (by omega)) ?_
  refine r_doneN (x_then (c_false rfl (c_skip (x_then (c_seq (c_reg ?_))))))
  refine r_alloc (b := rfB (.slice none 0 0)) (nid := 1) (H' := [bxB 36 (headC h), rfB (.slice none 0 0), hole, hole]) rfl rfl (by kernel_rfl) (by kernel_rfl) ?_
  refine r_doneN (x_then (c_seq ?_))
  have hc := checkE_ok (h := h) (by omega)
  refine c_weak (Weak.nilCell (k := 1) (j := 0) (b := 2) true 1 rfl (by decide) rfl (by show 0 < 1; decide) rfl rfl) ?_
  refine c_reg ?_
  refine r_closure (vs := [pt 1 0]) (ws := []) rfl rfl rfl rfl rfl ?_
  refine r_assign (v := .func (.func 33) #[pt 1 0] #[]) rfl rfl rfl ?_
  refine r_doneN (x_then (c_seq (c_reg ?_)))
  refine r_move (v := .func (.func 33) #[pt 1 0] #[]) rfl rfl rfl ?_
  refine r_fieldAddr (b := 0) (o := 0) (n := 0) (o' := 0) rfl rfl rfl rfl rfl ?_
  refine r_load (p := pt 0 0) (v := .int .i64 h.region) rfl rfl rfl (by kernel_rfl) ?_
  refine r_call (e := [some (1, 0), some (2, 0)]) (nid := 0) (row_n_ok (G := G) [] 0 h.region rfl (by omega) (by omega) (by omega)) (vals := [pt 1 0, .int .i64 h.region]) (v := .tuple #[]) (H' := [bxB 36 (headC h), rfB (slv 2 0 1 1), txB ([] ++ [(numS h.region).1]), hole]) rfl rfl rfl rfl rfl rfl ⟨⟨⟨rfl, rfl⟩, rfl, trivial⟩, ⟨(emb_wr rfl rfl rfl rfl), (emb_wr rfl rfl rfl rfl), trivial⟩, rfl, rfl, rfl, Nat.le_refl _⟩ (by kernel_rfl) rfl (by kernel_rfl) ?_
  refine r_doneN (x_then (c_seq (c_reg ?_)))
  refine r_move (v := .func (.func 33) #[pt 1 0] #[]) rfl rfl rfl ?_
  refine r_fieldAddr (b := 0) (o := 0) (n := 1) (o' := 1) rfl rfl rfl rfl rfl ?_
  refine r_load (p := pt 0 1) (v := .int .i64 h.epoch) rfl rfl rfl (by kernel_rfl) ?_
  refine r_call (e := [some (1, 0), some (2, 0)]) (nid := 0) (row_n_ok (G := G) ([] ++ [(numS h.region).1]) 1 h.epoch rfl (by omega) (by omega) (by omega)) (vals := [pt 1 0, .int .i64 h.epoch]) (v := .tuple #[]) (H' := [bxB 36 (headC h), rfB (slv 2 0 2 2), txB (([] ++ [(numS h.region).1]) ++ [(numS h.epoch).1]), hole]) rfl rfl rfl rfl rfl rfl ⟨⟨⟨rfl, rfl⟩, rfl, trivial⟩, ⟨(emb_wr rfl rfl rfl rfl), (emb_wr rfl rfl rfl rfl), trivial⟩, rfl, rfl, rfl, Nat.le_refl _⟩ (by kernel_rfl) rfl (by kernel_rfl) ?_
  refine r_doneN (x_then (c_seq (c_reg ?_)))
  refine r_move (v := .func (.func 33) #[pt 1 0] #[]) rfl rfl rfl ?_
  refine r_fieldAddr (b := 0) (o := 0) (n := 2) (o' := 2) rfl rfl rfl rfl rfl ?_
  refine r_load (p := pt 0 2) (v := .int .i64 h.size) rfl rfl rfl (by kernel_rfl) ?_
  refine r_call (e := [some (1, 0), some (2, 0)]) (nid := 0) (row_n_ok (G := G) (([] ++ [(numS h.region).1]) ++ [(numS h.epoch).1]) 2 h.size rfl (by omega) (by omega) (by omega)) (vals := [pt 1 0, .int .i64 h.size]) (v := .tuple #[]) (H' := [bxB 36 (headC h), rfB (slv 2 0 3 3), txB ((([] ++ [(numS h.region).1]) ++ [(numS h.epoch).1]) ++ [(numS h.size).1]), hole]) rfl rfl rfl rfl rfl rfl ⟨⟨⟨rfl, rfl⟩, rfl, trivial⟩, ⟨(emb_wr rfl rfl rfl rfl), (emb_wr rfl rfl rfl rfl), trivial⟩, rfl, rfl, rfl, Nat.le_refl _⟩ (by kernel_rfl) rfl (by kernel_rfl) ?_
  refine r_doneN (x_then (c_seq (c_reg ?_)))
  refine r_fieldAddr (b := 0) (o := 0) (n := 3) (o' := 3) rfl rfl rfl rfl rfl ?_
  refine r_slice (p := pt 0 3) (vl := none) (vh := none) (v := slv 0 3 32 32) rfl rfl rfl rfl rfl rfl ?_
  refine r_str (p := slv 0 3 32 32) (v := .string (strOf (dgL h.root))) rfl rfl rfl (strD_row (l := (dgL h.root)) rfl rfl rfl rfl (of_decide_eq_true (by kernel_rfl)) (by kernel_rfl)) ?_
  refine r_call (e := [some (1, 0), some (2, 0)]) (nid := 0) (row_s_ok (G := G) ((([] ++ [(numS h.region).1]) ++ [(numS h.epoch).1]) ++ [(numS h.size).1]) 3 (strOf (dgL h.root)) rfl (by omega)) (vals := [pt 1 0, .string (strOf (dgL h.root))]) (v := .tuple #[]) (H' := [bxB 36 (headC h), rfB (slv 2 0 4 4), txB (((([] ++ [(numS h.region).1]) ++ [(numS h.epoch).1]) ++ [(numS h.size).1]) ++ [(strOf (dgL h.root))]), hole]) rfl rfl rfl rfl rfl rfl ⟨⟨⟨rfl, rfl⟩, rfl, trivial⟩, ⟨(emb_wr rfl rfl rfl rfl), (emb_wr rfl rfl rfl rfl), trivial⟩, rfl, rfl, rfl, Nat.le_refl _⟩ (by kernel_rfl) rfl (by kernel_rfl) ?_
  refine r_doneN (x_then (c_seq (c_reg ?_)))
  refine r_move (v := .func (.func 33) #[pt 1 0] #[]) rfl rfl rfl ?_
  refine r_fieldAddr (b := 0) (o := 0) (n := 35) (o' := 35) rfl rfl rfl rfl rfl ?_
  refine r_load (p := pt 0 35) (v := .int .i64 h.tick) rfl rfl rfl (by kernel_rfl) ?_
  refine r_call (e := [some (1, 0), some (2, 0)]) (nid := 0) (row_n_ok (G := G) (((([] ++ [(numS h.region).1]) ++ [(numS h.epoch).1]) ++ [(numS h.size).1]) ++ [(strOf (dgL h.root))]) 4 h.tick rfl (by omega) (by omega) (by omega)) (vals := [pt 1 0, .int .i64 h.tick]) (v := .tuple #[]) (H' := [bxB 36 (headC h), rfB (slv 2 0 5 5), txB ((((([] ++ [(numS h.region).1]) ++ [(numS h.epoch).1]) ++ [(numS h.size).1]) ++ [(strOf (dgL h.root))]) ++ [(numS h.tick).1]), hole]) rfl rfl rfl rfl rfl rfl ⟨⟨⟨rfl, rfl⟩, rfl, trivial⟩, ⟨(emb_wr rfl rfl rfl rfl), (emb_wr rfl rfl rfl rfl), trivial⟩, rfl, rfl, rfl, Nat.le_refl _⟩ (by kernel_rfl) rfl (by kernel_rfl) ?_
  refine r_doneN (x_then (c_seq (c_reg ?_)))
  refine r_call (e := [some (1, 0), some (2, 0)]) (nid := 3) (bytes_ok (G := G) ((((([] ++ [(numS h.region).1]) ++ [(numS h.epoch).1]) ++ [(numS h.size).1]) ++ [(strOf (dgL h.root))]) ++ [(numS h.tick).1]) 5 rfl (by omega)) (vals := [pt 1 0]) (v := slv 3 0 ((bytesR ((((([] ++ [(numS h.region).1]) ++ [(numS h.epoch).1]) ++ [(numS h.size).1]) ++ [(strOf (dgL h.root))]) ++ [(numS h.tick).1])).length) ((bytesR ((((([] ++ [(numS h.region).1]) ++ [(numS h.epoch).1]) ++ [(numS h.size).1]) ++ [(strOf (dgL h.root))]) ++ [(numS h.tick).1])).length)) (H' := [bxB 36 (headC h), rfB (slv 2 0 5 5), txB ((((([] ++ [(numS h.region).1]) ++ [(numS h.epoch).1]) ++ [(numS h.size).1]) ++ [(strOf (dgL h.root))]) ++ [(numS h.tick).1]), rowB (bytesR ((((([] ++ [(numS h.region).1]) ++ [(numS h.epoch).1]) ++ [(numS h.size).1]) ++ [(strOf (dgL h.root))]) ++ [(numS h.tick).1]))]) rfl rfl rfl rfl rfl rfl ⟨⟨⟨rfl, rfl⟩, trivial⟩, ⟨(emb_wr rfl rfl rfl rfl), (emb_wr rfl rfl rfl rfl), trivial⟩, rfl, rfl, rfl, Nat.le_refl _⟩ rfl rfl (by kernel_rfl) ?_
  refine r_assign (v := slv 3 0 ((bytesR ((((([] ++ [(numS h.region).1]) ++ [(numS h.epoch).1]) ++ [(numS h.size).1]) ++ [(strOf (dgL h.root))]) ++ [(numS h.tick).1])).length) ((bytesR ((((([] ++ [(numS h.region).1]) ++ [(numS h.epoch).1]) ++ [(numS h.size).1]) ++ [(strOf (dgL h.root))]) ++ [(numS h.tick).1])).length)) rfl rfl rfl ?_
  refine r_assign (v := .int .i64 0) rfl rfl rfl ?_
  refine r_doneN (x_then (c_ret (x_end ?_)))
  rw [show putH h = ((bytesR ((((([] ++ [(numS h.region).1]) ++ [(numS h.epoch).1]) ++ [(numS h.size).1]) ++ [(strOf (dgL h.root))]) ++ [(numS h.tick).1])), 0) from if_pos (by omega)]
  exact end_map [3] (v := .tuple #[slv 3 0 ((bytesR ((((([] ++ [(numS h.region).1]) ++ [(numS h.epoch).1]) ++ [(numS h.size).1]) ++ [(strOf (dgL h.root))]) ++ [(numS h.tick).1])).length) ((bytesR ((((([] ++ [(numS h.region).1]) ++ [(numS h.epoch).1]) ++ [(numS h.size).1]) ++ [(strOf (dgL h.root))]) ++ [(numS h.tick).1])).length), .int .i64 0]) rfl (by kernel_rfl) rfl rfl (by decide) (by simp [keptB, rowB]) ⟨⟨rfl, rfl, rfl, by first | omega | exact Nat.le_refl _ | exact Nat.zero_le _ | (dsimp only; omega), by first | omega | exact Nat.le_refl _ | exact Nat.zero_le _ | (dsimp only; omega)⟩, rfl, trivial⟩
end Go.Flat
