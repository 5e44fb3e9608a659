/- Walks and plain laws: what each theorem says, within the bounds that it names. -/
import Derived.Test.YthfklplpfbmkgaaDoorH6
set_option linter.unusedVariables false
set_option linter.unusedSimpArgs false
set_option maxRecDepth 20000
namespace Go.Flat
open Go.Proofs
variable {G : Glob}
def beL : Nat → Nat → Bs → Bs
  | 0, _, l => l
  | f + 1, n, l => if n = 0 then l else beL f (n / 256) (BitVec.ofInt 8 (n : Int) :: l)
theorem beL_zero (f : Nat) (l : Bs) : beL f 0 l = l := by cases f <;> simp [beL]
theorem rowL_drop_upd (b : D) (a : Nat) (x : BitVec 8) (h : a < 8) : (rowL 8 (updN b a x)).drop a = x :: (rowL 8 b).drop (a + 1) := by
  apply List.ext_getElem?
  intro i
  cases i with
  | zero => simp [rowL, updN, h]
  | succ i =>
    simp only [List.getElem?_drop, List.getElem?_cons_succ, rowL, List.getElem?_map]
    by_cases hi : a + 1 + i < 8
    · rw [show a + (i + 1) = a + 1 + i by omega, List.getElem?_range hi]
      simp only [Option.map_some, updN]
      rw [if_neg (by omega)]
    · rw [show a + (i + 1) = a + 1 + i by omega, List.getElem?_eq_none (by simp; omega)]; rfl
theorem numF_beL : ∀ (a n : Nat) (b : D), a ≤ 8 → numF a n a b = beL a n ((rowL 8 b).drop a)
  | 0, n, b, _ => by rw [numF, beL]
  | a + 1, n, b, h => by
    rw [numF, beL]
    split
    · rfl
    · rw [Nat.add_sub_cancel, numF_beL a _ _ (by omega), rowL_drop_upd b a _ (by omega)]
theorem numF_be (m : Nat) : numF 8 m 8 dz = beL 8 m [] := by
  rw [numF_beL 8 m dz (by omega), List.drop_of_length_le (by rw [rowL_len]; omega)]
def rowX : Nat → List ByteArray → Bs
  | _, [] => []
  | k, x :: l => fldB ⟨(k : Int) + 1, x⟩ ++ rowX (k + 1) l
theorem mayE_zero {f : Field} {last : Int} (h1 : last < f.tag) (h2 : f.tag ≤ 255) (h3 : f.data.size ≤ 65536) : mayE f last = 0 := by
  unfold mayE
  rw [if_neg (by omega), if_neg (by omega), if_neg (by omega)]
theorem layF_rowX : ∀ (ls : List ByteArray) (k : Nat) (acc : Bs), k + ls.length ≤ 255 → (∀ x, x ∈ ls → x.size ≤ 65536) → layF (rowF k ls) (k : Nat) acc = (acc ++ rowX k ls, 0)
  | [], k, acc, _, _ => by simp [layF, rowF, rowX]
  | x :: l, k, acc, h, hs => by
    simp only [List.length_cons] at h
    rw [rowF, layF, if_pos (mayE_zero (by dsimp only; omega) (by dsimp only; omega) (hs x (by simp))), rowX]
    have := layF_rowX l (k + 1) (acc ++ fldB ⟨(k : Int) + 1, x⟩) (by omega) (fun y hy => hs y (by simp [hy]))
    rw [show (((k + 1 : Nat)) : Int) = (k : Int) + 1 by omega] at this
    rw [this, List.append_assoc]
theorem bytesR_X (ls : List ByteArray) (h : ls.length ≤ 255) (hs : ∀ x, x ∈ ls → x.size ≤ 65536) : bytesR ls = rowX 0 ls := by
  have := layF_rowX ls 0 [] (by omega) hs
  unfold bytesR
  rw [show (0 : Int) = ((0 : Nat) : Int) from rfl, this, List.nil_append]
theorem getD_size {ls : List ByteArray} {m : Nat} (hs : ∀ x, x ∈ ls → x.size ≤ m) (i : Nat) : (ls.getD i ⟨#[]⟩).size ≤ m := by
  rw [List.getD_eq_getElem?_getD]
  cases h : ls[i]? with
  | none => show 0 ≤ m; omega
  | some x => exact hs x (List.mem_of_getElem? h)
theorem refWithin_ok (n low high : Int) : CallL Tryd.prog G 26 [.int .i64 n, .int .i64 low, .int .i64 high] [] (.bool (withinB n low high)) [] := by
  refine walk (fn := Tryd.f26) (nt := 15) rfl rfl rfl rfl ?_
  refine c_seq (c_reg ?_)
  refine r_assign (v := .bool false) rfl rfl rfl ?_
  refine r_doneN (x_then (c_seq (c_reg ?_)))
  refine r_move (v := .int .i64 n) rfl rfl rfl ?_
  refine r_move (v := .int .i64 low) rfl rfl rfl ?_
  by_cases h1 : low ≤ n
  refine r_bin (v := .bool true) (vx := .int .i64 n) (vy := .int .i64 low) rfl rfl rfl rfl (geq_t (by omega)) ?_
  refine r_move (v := .bool true) rfl rfl rfl ?_
  refine r_move (v := .int .i64 n) rfl rfl rfl ?_
  refine r_move (v := .int .i64 high) rfl rfl rfl ?_
  by_cases h2 : n ≤ high
  refine r_bin (v := .bool true) (vx := .int .i64 n) (vy := .int .i64 high) rfl rfl rfl rfl (leq_t (by omega)) ?_
  refine r_pick (v := .bool true) rfl rfl rfl ?_
  refine r_assign (v := .bool true) rfl rfl rfl ?_
  refine r_doneN (x_then (c_ret (x_end ?_)))
  rw [show withinB n low high = true from withinB_t (by omega) (by omega)]
  exact end_same (v := .bool true) rfl rfl rfl (by kernel_rfl) rfl
  refine r_bin (v := .bool false) (vx := .int .i64 n) (vy := .int .i64 high) rfl rfl rfl rfl (leq_f (by omega)) ?_
  refine r_pick (v := .bool false) rfl rfl rfl ?_
  refine r_assign (v := .bool false) rfl rfl rfl ?_
  refine r_doneN (x_then (c_ret (x_end ?_)))
  rw [show withinB n low high = false from withinB_f (by omega)]
  exact end_same (v := .bool false) rfl rfl rfl (by kernel_rfl) rfl
  refine r_bin (v := .bool false) (vx := .int .i64 n) (vy := .int .i64 low) rfl rfl rfl rfl (geq_f (by omega)) ?_
  refine r_move (v := .bool false) rfl rfl rfl ?_
  refine r_skip rfl rfl (r_skip rfl rfl (r_skip rfl rfl ?_))
  refine r_pick (v := .bool false) rfl rfl rfl ?_
  refine r_assign (v := .bool false) rfl rfl rfl ?_
  refine r_doneN (x_then (c_ret (x_end ?_)))
  rw [show withinB n low high = false from withinB_f (by omega)]
  exact end_same (v := .bool false) rfl rfl rfl (by kernel_rfl) rfl
theorem refRight_ok (h : Head) : CallL Tryd.prog G 25 [headV h] [] (.bool (decide (rightH h))) [] := by
  refine walk (fn := Tryd.f25) (nt := 21) rfl rfl rfl rfl ?_
  refine c_hole 1 (H' := [hole]) rfl ?_
  refine c_seq (c_reg ?_)
  refine r_box (v := headV h) (b := bxB 36 (headC h)) (nid := 0) (H' := [bxB 36 (headC h)]) rfl rfl rfl (by kernel_rfl) (by kernel_rfl) ?_
  refine r_assign (v := .bool false) rfl rfl rfl ?_
  refine r_doneN (x_then (c_seq (c_reg ?_)))
  refine r_fieldAddr (b := 0) (o := 0) (n := 0) (o' := 0) rfl rfl rfl rfl rfl ?_
  refine r_load (p := pt 0 0) (v := .int .i64 h.region) rfl rfl rfl (by kernel_rfl) ?_
  by_cases h1 : 1 ≤ h.region
  by_cases h2 : h.region ≤ 5
  refine r_callP ((refWithin_ok (G := G) h.region 1 5).res (congrArg Value.bool (withinB_t (by omega) (by omega)))) (vals := [.int .i64 h.region, .int .i64 1, .int .i64 5]) (res' := .bool true) rfl rfl rfl rfl rfl rfl ?_
  refine r_move (v := .bool true) rfl rfl rfl ?_
  refine r_fieldAddr (b := 0) (o := 0) (n := 1) (o' := 1) rfl rfl rfl rfl rfl ?_
  refine r_load (p := pt 0 1) (v := .int .i64 h.epoch) rfl rfl rfl (by kernel_rfl) ?_
  by_cases h3 : 1 ≤ h.epoch
  by_cases h4 : h.epoch ≤ 900000000
  refine r_callP ((refWithin_ok (G := G) h.epoch 1 900000000).res (congrArg Value.bool (withinB_t (by omega) (by omega)))) (vals := [.int .i64 h.epoch, .int .i64 1, .int .i64 900000000]) (res' := .bool true) rfl rfl rfl rfl rfl rfl ?_
  refine r_pick (v := .bool true) rfl rfl rfl ?_
  refine r_move (v := .bool true) rfl rfl rfl ?_
  refine r_fieldAddr (b := 0) (o := 0) (n := 2) (o' := 2) rfl rfl rfl rfl rfl ?_
  refine r_load (p := pt 0 2) (v := .int .i64 h.size) rfl rfl rfl (by kernel_rfl) ?_
  by_cases h5 : 0 ≤ h.size
  by_cases h6 : h.size ≤ 100000
  refine r_callP ((refWithin_ok (G := G) h.size 0 100000).res (congrArg Value.bool (withinB_t (by omega) (by omega)))) (vals := [.int .i64 h.size, .int .i64 0, .int .i64 100000]) (res' := .bool true) rfl rfl rfl rfl rfl rfl ?_
  refine r_pick (v := .bool true) rfl rfl rfl ?_
  refine r_move (v := .bool true) rfl rfl rfl ?_
  refine r_fieldAddr (b := 0) (o := 0) (n := 35) (o' := 35) rfl rfl rfl rfl rfl ?_
  refine r_load (p := pt 0 35) (v := .int .i64 h.tick) rfl rfl rfl (by kernel_rfl) ?_
  by_cases h7 : 0 ≤ h.tick
  by_cases h8 : h.tick ≤ 900000000
  refine r_callP ((refWithin_ok (G := G) h.tick 0 900000000).res (congrArg Value.bool (withinB_t (by omega) (by omega)))) (vals := [.int .i64 h.tick, .int .i64 0, .int .i64 900000000]) (res' := .bool true) rfl rfl rfl rfl rfl rfl ?_
  refine r_pick (v := .bool true) rfl rfl rfl ?_
  refine r_assign (v := .bool true) rfl rfl rfl ?_
  refine r_doneN (x_then (c_ret (x_end ?_)))
  rw [show decide (rightH h) = true from decide_eq_true (by unfold rightH; omega)]
  exact end_same (v := .bool true) rfl rfl rfl (by kernel_rfl) rfl
  refine r_callP ((refWithin_ok (G := G) h.tick 0 900000000).res (congrArg Value.bool (withinB_f (by omega)))) (vals := [.int .i64 h.tick, .int .i64 0, .int .i64 900000000]) (res' := .bool false) rfl rfl rfl rfl rfl rfl ?_
  refine r_pick (v := .bool false) rfl rfl rfl ?_
  refine r_assign (v := .bool false) rfl rfl rfl ?_
  refine r_doneN (x_then (c_ret (x_end ?_)))
  rw [show decide (rightH h) = false from decide_eq_false (by unfold rightH; omega)]
  exact end_same (v := .bool false) rfl rfl rfl (by kernel_rfl) rfl
  refine r_callP ((refWithin_ok (G := G) h.tick 0 900000000).res (congrArg Value.bool (withinB_f (by omega)))) (vals := [.int .i64 h.tick, .int .i64 0, .int .i64 900000000]) (res' := .bool false) rfl rfl rfl rfl rfl rfl ?_
  refine r_pick (v := .bool false) rfl rfl rfl ?_
  refine r_assign (v := .bool false) rfl rfl rfl ?_
  refine r_doneN (x_then (c_ret (x_end ?_)))
  rw [show decide (rightH h) = false from decide_eq_false (by unfold rightH; omega)]
  exact end_same (v := .bool false) rfl rfl rfl (by kernel_rfl) rfl
  refine r_callP ((refWithin_ok (G := G) h.size 0 100000).res (congrArg Value.bool (withinB_f (by omega)))) (vals := [.int .i64 h.size, .int .i64 0, .int .i64 100000]) (res' := .bool false) rfl rfl rfl rfl rfl rfl ?_
  refine r_pick (v := .bool false) rfl rfl rfl ?_
  refine r_move (v := .bool false) rfl rfl rfl ?_
  refine r_skip rfl rfl (r_skip rfl rfl (r_skip rfl rfl ?_))
  refine r_pick (v := .bool false) rfl rfl rfl ?_
  refine r_assign (v := .bool false) rfl rfl rfl ?_
  refine r_doneN (x_then (c_ret (x_end ?_)))
  rw [show decide (rightH h) = false from decide_eq_false (by unfold rightH; omega)]
  exact end_same (v := .bool false) rfl rfl rfl (by kernel_rfl) rfl
  refine r_callP ((refWithin_ok (G := G) h.size 0 100000).res (congrArg Value.bool (withinB_f (by omega)))) (vals := [.int .i64 h.size, .int .i64 0, .int .i64 100000]) (res' := .bool false) rfl rfl rfl rfl rfl rfl ?_
  refine r_pick (v := .bool false) rfl rfl rfl ?_
  refine r_move (v := .bool false) rfl rfl rfl ?_
  refine r_skip rfl rfl (r_skip rfl rfl (r_skip rfl rfl ?_))
  refine r_pick (v := .bool false) rfl rfl rfl ?_
  refine r_assign (v := .bool false) rfl rfl rfl ?_
  refine r_doneN (x_then (c_ret (x_end ?_)))
  rw [show decide (rightH h) = false from decide_eq_false (by unfold rightH; omega)]
  exact end_same (v := .bool false) rfl rfl rfl (by kernel_rfl) rfl
  refine r_callP ((refWithin_ok (G := G) h.epoch 1 900000000).res (congrArg Value.bool (withinB_f (by omega)))) (vals := [.int .i64 h.epoch, .int .i64 1, .int .i64 900000000]) (res' := .bool false) rfl rfl rfl rfl rfl rfl ?_
  refine r_pick (v := .bool false) rfl rfl rfl ?_
  refine r_move (v := .bool false) rfl rfl rfl ?_
  refine r_skip rfl rfl (r_skip rfl rfl (r_skip rfl rfl ?_))
  refine r_pick (v := .bool false) rfl rfl rfl ?_
  refine r_move (v := .bool false) rfl rfl rfl ?_
  refine r_skip rfl rfl (r_skip rfl rfl (r_skip rfl rfl ?_))
  refine r_pick (v := .bool false) rfl rfl rfl ?_
  refine r_assign (v := .bool false) rfl rfl rfl ?_
  refine r_doneN (x_then (c_ret (x_end ?_)))
  rw [show decide (rightH h) = false from decide_eq_false (by unfold rightH; omega)]
  exact end_same (v := .bool false) rfl rfl rfl (by kernel_rfl) rfl
  refine r_callP ((refWithin_ok (G := G) h.epoch 1 900000000).res (congrArg Value.bool (withinB_f (by omega)))) (vals := [.int .i64 h.epoch, .int .i64 1, .int .i64 900000000]) (res' := .bool false) rfl rfl rfl rfl rfl rfl ?_
  refine r_pick (v := .bool false) rfl rfl rfl ?_
  refine r_move (v := .bool false) rfl rfl rfl ?_
  refine r_skip rfl rfl (r_skip rfl rfl (r_skip rfl rfl ?_))
  refine r_pick (v := .bool false) rfl rfl rfl ?_
  refine r_move (v := .bool false) rfl rfl rfl ?_
  refine r_skip rfl rfl (r_skip rfl rfl (r_skip rfl rfl ?_))
  refine r_pick (v := .bool false) rfl rfl rfl ?_
  refine r_assign (v := .bool false) rfl rfl rfl ?_
  refine r_doneN (x_then (c_ret (x_end ?_)))
  rw [show decide (rightH h) = false from decide_eq_false (by unfold rightH; omega)]
  exact end_same (v := .bool false) rfl rfl rfl (by kernel_rfl) rfl
  refine r_callP ((refWithin_ok (G := G) h.region 1 5).res (congrArg Value.bool (withinB_f (by omega)))) (vals := [.int .i64 h.region, .int .i64 1, .int .i64 5]) (res' := .bool false) rfl rfl rfl rfl rfl rfl ?_
  refine r_move (v := .bool false) rfl rfl rfl ?_
  refine r_skip rfl rfl (r_skip rfl rfl (r_skip rfl rfl ?_))
  refine r_pick (v := .bool false) rfl rfl rfl ?_
  refine r_move (v := .bool false) rfl rfl rfl ?_
  refine r_skip rfl rfl (r_skip rfl rfl (r_skip rfl rfl ?_))
  refine r_pick (v := .bool false) rfl rfl rfl ?_
  refine r_move (v := .bool false) rfl rfl rfl ?_
  refine r_skip rfl rfl (r_skip rfl rfl (r_skip rfl rfl ?_))
  refine r_pick (v := .bool false) rfl rfl rfl ?_
  refine r_assign (v := .bool false) rfl rfl rfl ?_
  refine r_doneN (x_then (c_ret (x_end ?_)))
  rw [show decide (rightH h) = false from decide_eq_false (by unfold rightH; omega)]
  exact end_same (v := .bool false) rfl rfl rfl (by kernel_rfl) rfl
  refine r_callP ((refWithin_ok (G := G) h.region 1 5).res (congrArg Value.bool (withinB_f (by omega)))) (vals := [.int .i64 h.region, .int .i64 1, .int .i64 5]) (res' := .bool false) rfl rfl rfl rfl rfl rfl ?_
  refine r_move (v := .bool false) rfl rfl rfl ?_
  refine r_skip rfl rfl (r_skip rfl rfl (r_skip rfl rfl ?_))
  refine r_pick (v := .bool false) rfl rfl rfl ?_
  refine r_move (v := .bool false) rfl rfl rfl ?_
  refine r_skip rfl rfl (r_skip rfl rfl (r_skip rfl rfl ?_))
  refine r_pick (v := .bool false) rfl rfl rfl ?_
  refine r_move (v := .bool false) rfl rfl rfl ?_
  refine r_skip rfl rfl (r_skip rfl rfl (r_skip rfl rfl ?_))
  refine r_pick (v := .bool false) rfl rfl rfl ?_
  refine r_assign (v := .bool false) rfl rfl rfl ?_
  refine r_doneN (x_then (c_ret (x_end ?_)))
  rw [show decide (rightH h) = false from decide_eq_false (by unfold rightH; omega)]
  exact end_same (v := .bool false) rfl rfl rfl (by kernel_rfl) rfl
end Go.Flat
