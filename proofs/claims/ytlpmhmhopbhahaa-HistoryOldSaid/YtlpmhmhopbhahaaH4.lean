/- Walks and plain laws: what each theorem says, within the bounds that it names. -/
import Derived.Test.YtlpmhmhopbhahaaH3
set_option linter.unusedVariables false
set_option linter.unusedSimpArgs false
set_option maxRecDepth 20000
set_option maxRecDepth 20000
namespace Go.Flat
open Go.Proofs
variable {G : Glob}
structure Head where
  region : Int
  epoch : Int
  size : Int
  root : D
  tick : Int
structure Signed where
  head : Head
  node : Int
  tag : D
def headC (h : Head) : List Value := [.int .i64 h.region, .int .i64 h.epoch, .int .i64 h.size] ++ rowE w8 32 h.root ++ [.int .i64 h.tick]
def headV (h : Head) : Value := .agg (headC h).toArray
def signedC (s : Signed) : List Value := headC s.head ++ [.int .i64 s.node] ++ rowE w8 32 s.tag
def signedV (s : Signed) : Value := .agg (signedC s).toArray
def rowF : Nat → List ByteArray → List Field
  | _, [] => []
  | k, x :: l => ⟨(k : Int) + 1, x⟩ :: rowF (k + 1) l
def bytesR (ls : List ByteArray) : Bs := (layF (rowF 0 ls) 0 []).1
theorem rowF_step {ls : List ByteArray} {i : Nat} {acc R : List Field} (hR : acc ++ rowF i (ls.drop i) = R) (hi : i < ls.length) : (acc ++ [⟨(i : Int) + 1, ls.getD i ⟨#[]⟩⟩]) ++ rowF (i + 1) (ls.drop (i + 1)) = R := by
  have e : ls.drop i = ls.getD i ⟨#[]⟩ :: ls.drop (i + 1) := by
    rw [List.drop_eq_getElem_cons hi, List.getD_eq_getElem?_getD, List.getElem?_eq_getElem hi]; rfl
  rw [e, rowF] at hR
  rw [← hR, List.append_assoc]; rfl
def withinB (n low high : Int) : Bool :=
  if low ≤ n then (if n ≤ high then true else
  false) else
  false
theorem within_ok (n low high : Int) : CallL Try.prog G 31 [.int .i64 n, .int .i64 low, .int .i64 high] [] (.bool (withinB n low high)) [] := by
  refine walk (fn := Try.f31) (nt := 15) rfl rfl rfl rfl ?_
  refine c_seq ?_
  refine c_reg ?_
  refine r_assign (v := .bool false) rfl rfl rfl ?_
  refine r_doneN ?_
  refine x_then ?_
  refine c_seq ?_
  refine c_reg ?_
  refine r_move (v := .int .i64 n) rfl rfl rfl ?_
  refine r_move (v := .int .i64 low) rfl rfl rfl ?_
  by_cases h1 : low ≤ n
  · skip
    refine r_bin (v := .bool true) (vx := .int .i64 n) (vy := .int .i64 low) rfl rfl rfl rfl (geq_t (by omega)) ?_
    refine r_move (v := .bool true) rfl rfl rfl ?_
    refine r_move (v := .int .i64 n) rfl rfl rfl ?_
    refine r_move (v := .int .i64 high) rfl rfl rfl ?_
    by_cases h2 : n ≤ high
    · skip
      refine r_bin (v := .bool true) (vx := .int .i64 n) (vy := .int .i64 high) rfl rfl rfl rfl (leq_t (by omega)) ?_
      refine r_pick (v := .bool true) rfl rfl rfl ?_
      refine r_assign (v := .bool true) rfl rfl rfl ?_
      refine r_doneN ?_
      refine x_then ?_
      refine c_ret ?_
      refine x_end ?_
      rw [show withinB n low high = true from by unfold withinB; rw [if_pos h1, if_pos h2]]
      exact end_same (v := .bool true) rfl rfl rfl (by kernel_rfl) rfl
    refine r_bin (v := .bool false) (vx := .int .i64 n) (vy := .int .i64 high) rfl rfl rfl rfl (leq_f (by omega)) ?_
    refine r_pick (v := .bool false) rfl rfl rfl ?_
    refine r_assign (v := .bool false) rfl rfl rfl ?_
    refine r_doneN ?_
    refine x_then ?_
    refine c_ret ?_
    refine x_end ?_
    rw [show withinB n low high = false from by unfold withinB; rw [if_pos h1, if_neg h2]]
    exact end_same (v := .bool false) rfl rfl rfl (by kernel_rfl) rfl
  refine r_bin (v := .bool false) (vx := .int .i64 n) (vy := .int .i64 low) rfl rfl rfl rfl (geq_f (by omega)) ?_
  refine r_move (v := .bool false) rfl rfl rfl ?_
  refine r_skip rfl rfl ?_
  refine r_skip rfl rfl ?_
  refine r_skip rfl rfl ?_
  refine r_pick (v := .bool false) rfl rfl rfl ?_
  refine r_assign (v := .bool false) rfl rfl rfl ?_
  refine r_doneN ?_
  refine x_then ?_
  refine c_ret ?_
  refine x_end ?_
  rw [show withinB n low high = false from by unfold withinB; rw [if_neg h1]]
  exact end_same (v := .bool false) rfl rfl rfl (by kernel_rfl) rfl
theorem withinB_t {n low high : Int} (h1 : low ≤ n) (h2 : n ≤ high) : withinB n low high = true := by unfold withinB; rw [if_pos h1, if_pos h2]
theorem withinB_f {n low high : Int} (h : n < low ∨ high < n) : withinB n low high = false := by
  unfold withinB
  by_cases h1 : low ≤ n
  · rw [if_pos h1, if_neg (by omega)]
  · rw [if_neg h1]
def checkE (h : Head) : Int :=
  if 1 ≤ h.region then (if h.region ≤ 5 then (if 1 ≤ h.epoch then (if h.epoch ≤ 900000000 then (if 0 ≤ h.size then (if h.size ≤ 100000 then (if 0 ≤ h.tick then (if h.tick ≤ 900000000 then 0 else
  70) else
  70) else
  70) else
  70) else
  70) else
  70) else
  70) else
  70
theorem Check_ok (h : Head) : CallL Try.prog G 26 [headV h] [] (.int .i64 (checkE h)) [] := by
  refine walk (fn := Try.f26) (nt := 21) rfl rfl rfl rfl ?_
  refine c_hole 1 (H' := [hole]) rfl ?_
  refine c_seq ?_
  refine c_reg ?_
  refine r_box (v := headV h) (b := bxB 36 (headC h)) (nid := 0) (H' := [bxB 36 (headC h)]) rfl rfl rfl (by kernel_rfl) (by kernel_rfl) ?_
  refine r_assign (v := .int .i64 0) rfl rfl rfl ?_
  refine r_doneN ?_
  refine x_then ?_
  refine c_seq ?_
  refine c_seq ?_
  refine c_reg ?_
  refine r_fieldAddr (b := 0) (o := 0) (n := 0) (o' := 0) rfl rfl rfl rfl rfl ?_
  refine r_load (p := pt 0 0) (v := .int .i64 h.region) rfl rfl rfl (by kernel_rfl) ?_
  by_cases h1 : 1 ≤ h.region
  · skip
    by_cases h2 : h.region ≤ 5
    · skip
      refine r_callP ((within_ok (G := G) h.region 1 5).res (congrArg Value.bool (withinB_t (by omega) (by omega)))) (vals := [.int .i64 h.region, .int .i64 1, .int .i64 5]) (res' := .bool true) rfl rfl rfl rfl rfl rfl ?_
      refine r_move (v := .bool true) rfl rfl rfl ?_
      refine r_fieldAddr (b := 0) (o := 0) (n := 1) (o' := 1) rfl rfl rfl rfl rfl ?_
      refine r_load (p := pt 0 1) (v := .int .i64 h.epoch) rfl rfl rfl (by kernel_rfl) ?_
      by_cases h3 : 1 ≤ h.epoch
      · skip
        by_cases h4 : h.epoch ≤ 900000000
        · skip
          refine r_callP ((within_ok (G := G) h.epoch 1 900000000).res (congrArg Value.bool (withinB_t (by omega) (by omega)))) (vals := [.int .i64 h.epoch, .int .i64 1, .int .i64 900000000]) (res' := .bool true) rfl rfl rfl rfl rfl rfl ?_
          refine r_pick (v := .bool true) rfl rfl rfl ?_
          refine r_move (v := .bool true) rfl rfl rfl ?_
          refine r_fieldAddr (b := 0) (o := 0) (n := 2) (o' := 2) rfl rfl rfl rfl rfl ?_
          refine r_load (p := pt 0 2) (v := .int .i64 h.size) rfl rfl rfl (by kernel_rfl) ?_
          by_cases h5 : 0 ≤ h.size
          · skip
            by_cases h6 : h.size ≤ 100000
            · skip
              refine r_callP ((within_ok (G := G) h.size 0 100000).res (congrArg Value.bool (withinB_t (by omega) (by omega)))) (vals := [.int .i64 h.size, .int .i64 0, .int .i64 100000]) (res' := .bool true) rfl rfl rfl rfl rfl rfl ?_
              refine r_pick (v := .bool true) rfl rfl rfl ?_
              refine r_move (v := .bool true) rfl rfl rfl ?_
              refine r_fieldAddr (b := 0) (o := 0) (n := 35) (o' := 35) rfl rfl rfl rfl rfl ?_
              refine r_load (p := pt 0 35) (v := .int .i64 h.tick) rfl rfl rfl (by kernel_rfl) ?_
              by_cases h7 : 0 ≤ h.tick
              · skip
                by_cases h8 : h.tick ≤ 900000000
                · skip
                  refine r_callP ((within_ok (G := G) h.tick 0 900000000).res (congrArg Value.bool (withinB_t (by omega) (by omega)))) (vals := [.int .i64 h.tick, .int .i64 0, .int .i64 900000000]) (res' := .bool true) rfl rfl rfl rfl rfl rfl ?_
                  refine r_pick (v := .bool true) rfl rfl rfl ?_
                  refine r_doneN ?_
                  refine x_then ?_
                  refine c_true rfl ?_
                  refine c_seq ?_
                  refine c_reg ?_
                  refine r_assign (v := .int .i64 0) rfl rfl rfl ?_
                  refine r_doneN ?_
                  refine x_then ?_
                  refine c_ret ?_
                  refine x_thenR ?_
                  refine x_end ?_
                  rw [show checkE h = 0 from by unfold checkE; rw [if_pos h1, if_pos h2, if_pos h3, if_pos h4, if_pos h5, if_pos h6, if_pos h7, if_pos h8]]
                  exact end_same (v := .int .i64 0) rfl rfl rfl (by kernel_rfl) rfl
                refine r_callP ((within_ok (G := G) h.tick 0 900000000).res (congrArg Value.bool (withinB_f (by omega)))) (vals := [.int .i64 h.tick, .int .i64 0, .int .i64 900000000]) (res' := .bool false) rfl rfl rfl rfl rfl rfl ?_
                refine r_pick (v := .bool false) rfl rfl rfl ?_
                refine r_doneN ?_
                refine x_then ?_
                refine c_false rfl ?_
                refine c_skip ?_
                refine x_then ?_
                refine c_seq ?_
                refine c_reg ?_
                refine r_assign (v := .int .i64 70) rfl rfl rfl ?_
                refine r_doneN ?_
                refine x_then ?_
                refine c_ret ?_
                refine x_end ?_
                rw [show checkE h = 70 from by unfold checkE; rw [if_pos h1, if_pos h2, if_pos h3, if_pos h4, if_pos h5, if_pos h6, if_pos h7, if_neg h8]]
                exact end_same (v := .int .i64 70) rfl rfl rfl (by kernel_rfl) rfl
              refine r_callP ((within_ok (G := G) h.tick 0 900000000).res (congrArg Value.bool (withinB_f (by omega)))) (vals := [.int .i64 h.tick, .int .i64 0, .int .i64 900000000]) (res' := .bool false) rfl rfl rfl rfl rfl rfl ?_
              refine r_pick (v := .bool false) rfl rfl rfl ?_
              refine r_doneN ?_
              refine x_then ?_
              refine c_false rfl ?_
              refine c_skip ?_
              refine x_then ?_
              refine c_seq ?_
              refine c_reg ?_
              refine r_assign (v := .int .i64 70) rfl rfl rfl ?_
              refine r_doneN ?_
              refine x_then ?_
              refine c_ret ?_
              refine x_end ?_
              rw [show checkE h = 70 from by unfold checkE; rw [if_pos h1, if_pos h2, if_pos h3, if_pos h4, if_pos h5, if_pos h6, if_neg h7]]
              exact end_same (v := .int .i64 70) rfl rfl rfl (by kernel_rfl) rfl
            refine r_callP ((within_ok (G := G) h.size 0 100000).res (congrArg Value.bool (withinB_f (by omega)))) (vals := [.int .i64 h.size, .int .i64 0, .int .i64 100000]) (res' := .bool false) rfl rfl rfl rfl rfl rfl ?_
            refine r_pick (v := .bool false) rfl rfl rfl ?_
            refine r_move (v := .bool false) rfl rfl rfl ?_
            refine r_skip rfl rfl ?_
            refine r_skip rfl rfl ?_
            refine r_skip rfl rfl ?_
            refine r_pick (v := .bool false) rfl rfl rfl ?_
            refine r_doneN ?_
            refine x_then ?_
            refine c_false rfl ?_
            refine c_skip ?_
            refine x_then ?_
            refine c_seq ?_
            refine c_reg ?_
            refine r_assign (v := .int .i64 70) rfl rfl rfl ?_
            refine r_doneN ?_
            refine x_then ?_
            refine c_ret ?_
            refine x_end ?_
            rw [show checkE h = 70 from by unfold checkE; rw [if_pos h1, if_pos h2, if_pos h3, if_pos h4, if_pos h5, if_neg h6]]
            exact end_same (v := .int .i64 70) rfl rfl rfl (by kernel_rfl) rfl
          refine r_callP ((within_ok (G := G) h.size 0 100000).res (congrArg Value.bool (withinB_f (by omega)))) (vals := [.int .i64 h.size, .int .i64 0, .int .i64 100000]) (res' := .bool false) rfl rfl rfl rfl rfl rfl ?_
          refine r_pick (v := .bool false) rfl rfl rfl ?_
          refine r_move (v := .bool false) rfl rfl rfl ?_
          refine r_skip rfl rfl ?_
          refine r_skip rfl rfl ?_
          refine r_skip rfl rfl ?_
          refine r_pick (v := .bool false) rfl rfl rfl ?_
          refine r_doneN ?_
          refine x_then ?_
          refine c_false rfl ?_
          refine c_skip ?_
          refine x_then ?_
          refine c_seq ?_
          refine c_reg ?_
          refine r_assign (v := .int .i64 70) rfl rfl rfl ?_
          refine r_doneN ?_
          refine x_then ?_
          refine c_ret ?_
          refine x_end ?_
          rw [show checkE h = 70 from by unfold checkE; rw [if_pos h1, if_pos h2, if_pos h3, if_pos h4, if_neg h5]]
          exact end_same (v := .int .i64 70) rfl rfl rfl (by kernel_rfl) rfl
        refine r_callP ((within_ok (G := G) h.epoch 1 900000000).res (congrArg Value.bool (withinB_f (by omega)))) (vals := [.int .i64 h.epoch, .int .i64 1, .int .i64 900000000]) (res' := .bool false) rfl rfl rfl rfl rfl rfl ?_
        refine r_pick (v := .bool false) rfl rfl rfl ?_
        refine r_move (v := .bool false) rfl rfl rfl ?_
        refine r_skip rfl rfl ?_
        refine r_skip rfl rfl ?_
        refine r_skip rfl rfl ?_
        refine r_pick (v := .bool false) rfl rfl rfl ?_
        refine r_move (v := .bool false) rfl rfl rfl ?_
        refine r_skip rfl rfl ?_
        refine r_skip rfl rfl ?_
        refine r_skip rfl rfl ?_
        refine r_pick (v := .bool false) rfl rfl rfl ?_
        refine r_doneN ?_
        refine x_then ?_
        refine c_false rfl ?_
        refine c_skip ?_
        refine x_then ?_
        refine c_seq ?_
        refine c_reg ?_
        refine r_assign (v := .int .i64 70) rfl rfl rfl ?_
        refine r_doneN ?_
        refine x_then ?_
        refine c_ret ?_
        refine x_end ?_
        rw [show checkE h = 70 from by unfold checkE; rw [if_pos h1, if_pos h2, if_pos h3, if_neg h4]]
        exact end_same (v := .int .i64 70) rfl rfl rfl (by kernel_rfl) rfl
      refine r_callP ((within_ok (G := G) h.epoch 1 900000000).res (congrArg Value.bool (withinB_f (by omega)))) (vals := [.int .i64 h.epoch, .int .i64 1, .int .i64 900000000]) (res' := .bool false) rfl rfl rfl rfl rfl rfl ?_
      refine r_pick (v := .bool false) rfl rfl rfl ?_
      refine r_move (v := .bool false) rfl rfl rfl ?_
      refine r_skip rfl rfl ?_
      refine r_skip rfl rfl ?_
      refine r_skip rfl rfl ?_
      refine r_pick (v := .bool false) rfl rfl rfl ?_
      refine r_move (v := .bool false) rfl rfl rfl ?_
      refine r_skip rfl rfl ?_
      refine r_skip rfl rfl ?_
      refine r_skip rfl rfl ?_
      refine r_pick (v := .bool false) rfl rfl rfl ?_
      refine r_doneN ?_
      refine x_then ?_
      refine c_false rfl ?_
      refine c_skip ?_
      refine x_then ?_
      refine c_seq ?_
      refine c_reg ?_
      refine r_assign (v := .int .i64 70) rfl rfl rfl ?_
      refine r_doneN ?_
      refine x_then ?_
      refine c_ret ?_
      refine x_end ?_
      rw [show checkE h = 70 from by unfold checkE; rw [if_pos h1, if_pos h2, if_neg h3]]
      exact end_same (v := .int .i64 70) rfl rfl rfl (by kernel_rfl) rfl
    refine r_callP ((within_ok (G := G) h.region 1 5).res (congrArg Value.bool (withinB_f (by omega)))) (vals := [.int .i64 h.region, .int .i64 1, .int .i64 5]) (res' := .bool false) rfl rfl rfl rfl rfl rfl ?_
    refine r_move (v := .bool false) rfl rfl rfl ?_
    refine r_skip rfl rfl ?_
    refine r_skip rfl rfl ?_
    refine r_skip rfl rfl ?_
    refine r_pick (v := .bool false) rfl rfl rfl ?_
    refine r_move (v := .bool false) rfl rfl rfl ?_
    refine r_skip rfl rfl ?_
    refine r_skip rfl rfl ?_
    refine r_skip rfl rfl ?_
    refine r_pick (v := .bool false) rfl rfl rfl ?_
    refine r_move (v := .bool false) rfl rfl rfl ?_
    refine r_skip rfl rfl ?_
    refine r_skip rfl rfl ?_
    refine r_skip rfl rfl ?_
    refine r_pick (v := .bool false) rfl rfl rfl ?_
    refine r_doneN ?_
    refine x_then ?_
    refine c_false rfl ?_
    refine c_skip ?_
    refine x_then ?_
    refine c_seq ?_
    refine c_reg ?_
    refine r_assign (v := .int .i64 70) rfl rfl rfl ?_
    refine r_doneN ?_
    refine x_then ?_
    refine c_ret ?_
    refine x_end ?_
    rw [show checkE h = 70 from by unfold checkE; rw [if_pos h1, if_neg h2]]
    exact end_same (v := .int .i64 70) rfl rfl rfl (by kernel_rfl) rfl
  refine r_callP ((within_ok (G := G) h.region 1 5).res (congrArg Value.bool (withinB_f (by omega)))) (vals := [.int .i64 h.region, .int .i64 1, .int .i64 5]) (res' := .bool false) rfl rfl rfl rfl rfl rfl ?_
  refine r_move (v := .bool false) rfl rfl rfl ?_
  refine r_skip rfl rfl ?_
  refine r_skip rfl rfl ?_
  refine r_skip rfl rfl ?_
  refine r_pick (v := .bool false) rfl rfl rfl ?_
  refine r_move (v := .bool false) rfl rfl rfl ?_
  refine r_skip rfl rfl ?_
  refine r_skip rfl rfl ?_
  refine r_skip rfl rfl ?_
  refine r_pick (v := .bool false) rfl rfl rfl ?_
  refine r_move (v := .bool false) rfl rfl rfl ?_
  refine r_skip rfl rfl ?_
  refine r_skip rfl rfl ?_
  refine r_skip rfl rfl ?_
  refine r_pick (v := .bool false) rfl rfl rfl ?_
  refine r_doneN ?_
  refine x_then ?_
  refine c_false rfl ?_
  refine c_skip ?_
  refine x_then ?_
  refine c_seq ?_
  refine c_reg ?_
  refine r_assign (v := .int .i64 70) rfl rfl rfl ?_
  refine r_doneN ?_
  refine x_then ?_
  refine c_ret ?_
  refine x_end ?_
  rw [show checkE h = 70 from by unfold checkE; rw [if_neg h1]]
  exact end_same (v := .int .i64 70) rfl rfl rfl (by kernel_rfl) rfl
def rightH (h : Head) : Prop := (1 ≤ h.region ∧ h.region ≤ 5) ∧ (1 ≤ h.epoch ∧ h.epoch ≤ 900000000) ∧ (0 ≤ h.size ∧ h.size ≤ 100000) ∧ (0 ≤ h.tick ∧ h.tick ≤ 900000000)
instance (h : Head) : Decidable (rightH h) := inferInstanceAs (Decidable (_ ∧ _))
theorem checkE_eq (h : Head) : checkE h = if rightH h then 0 else 70 := by
  unfold checkE rightH
  repeat (first | split | omega)
theorem checkE_ok {h : Head} (hc : checkE h = 0) : (1 ≤ h.region ∧ h.region ≤ 5) ∧ (1 ≤ h.epoch ∧ h.epoch ≤ 900000000) ∧ (0 ≤ h.size ∧ h.size ≤ 100000) ∧ (0 ≤ h.tick ∧ h.tick ≤ 900000000) := by
  rw [checkE_eq] at hc
  split at hc
  · assumption
  · omega
def headL (h : Head) : List ByteArray := [(numS h.region).1, (numS h.epoch).1, (numS h.size).1, strOf (dgL h.root), (numS h.tick).1]
def putH (h : Head) : Bs × Int := if checkE h = 0 then (bytesR (headL h), 0) else ([], checkE h)
end Go.Flat
