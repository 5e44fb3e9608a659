/- Walks and plain laws: what each theorem says, within the bounds that it names. -/
import Derived.Test.YtoheeojjdpdljaaDoorP1
import Derived.Test.YtoheeojjdpdljaaDoorH15
set_option linter.unusedVariables false
set_option linter.unusedSimpArgs false
set_option maxRecDepth 20000
namespace Go.Flat
open Go.Proofs
variable {G : Glob}
def cpM (w : D) (s : ByteArray) : D := fun i => if i < s.size then (bl s).getD i 0 else w i
theorem copy_mid {P : Program} {H : List Blk} {t : TypeId} {b o c by_ : Nat} {zc : List Value} {s : ByteArray} {blk : Blk} {w : D} {pre rest : List Value} (ht : sliceTyA P t = some (1, zc, by_)) (hb : H[b]? = some blk) (hw : blk.wr = true) (hpu : blk.pur = true) (hc : blk.cells = pre ++ (rowE w8 32 w ++ rest)) (ho : o = pre.length) :
    copyD P H t (slv b o 32 c) (.string s) = some (.int .i64 (min s.size 32 : Nat), b, { blk with cells := pre ++ (rowE w8 32 (cpM w s) ++ rest) }) := by
  have hs : srcA H 1 (.string s) = some (s.size, bytesV s) := rfl
  have hl : (bytesV s).length = s.size := bytesV_length s
  have hp : okCells blk.pur ((bytesV s).take (min s.size 32 * 1)) = true := by
    rw [hpu]
    show ((bytesV s).take (min s.size 32 * 1)).all pureC = true
    rw [List.all_eq_true]
    intro v hv
    exact List.all_eq_true.1 (bytesV_pure s) v (List.mem_of_mem_take hv)
  unfold copyD
  rw [ht]
  simp only [hs, Option.bind_some, hb]
  rw [if_pos (by
    simp only [Bool.and_eq_true, decide_eq_true_eq]
    refine ⟨⟨⟨hw, hp⟩, by rw [hc, ho]; simp [rowE_len]⟩, by rw [List.length_take, hl]; omega⟩)]
  have hx : ((bytesV s).take (min s.size 32 * 1)).length = min s.size 32 := by rw [List.length_take, hl]; omega
  have e : (bytesV s).take (min s.size 32 * 1) ++ (rowE w8 32 w).drop (min s.size 32) = rowE w8 32 (cpM w s) := by
    rw [bytesV_bl]
    have hbl : (bl s).length = s.size := bl_len s
    apply List.ext_getElem?
    intro i
    by_cases hi : i < min s.size 32
    · rw [List.getElem?_append_left (by simp [hbl]; omega), List.getElem?_take, if_pos (by omega), rowE_get (by omega), List.getElem?_map, List.getElem?_eq_getElem (by omega)]
      simp only [Option.map_some, cpM]
      rw [if_pos (by omega), List.getD_eq_getElem?_getD, List.getElem?_eq_getElem (by omega)]; rfl
    · rw [List.getElem?_append_right (by simp [hbl]; omega), List.getElem?_drop]
      simp only [List.length_take, List.length_map, hbl]
      by_cases h32 : i < 32
      · have e2 : min s.size 32 + (i - min (min s.size 32 * 1) s.size) = i := by omega
        rw [e2, rowE_get h32, rowE_get h32]
        simp only [cpM]
        rw [if_neg (by omega)]
      · rw [List.getElem?_eq_none (by rw [rowE_len]; omega), List.getElem?_eq_none (by rw [rowE_len]; omega)]
  congr 3
  unfold splice
  rw [hc, ho, hx, List.take_left' rfl, ← e]
  rw [show (pre ++ (rowE w8 32 w ++ rest)).drop (pre.length + min s.size 32) = (rowE w8 32 w).drop (min s.size 32) ++ rest from by
    rw [← List.drop_drop, List.drop_left' rfl, List.drop_append_of_le_length (by rw [rowE_len]; omega)]]
  simp
def takeC (x : Claim) (f : Field) : Claim :=
  if f.tag = 1 then ⟨(valS f.data).1, x.epoch, x.node, x.size, x.root⟩ else
  if f.tag = 2 then ⟨x.region, (valS f.data).1, x.node, x.size, x.root⟩ else
  if f.tag = 3 then ⟨x.region, x.epoch, (valS f.data).1, x.size, x.root⟩ else
  if f.tag = 4 then ⟨x.region, x.epoch, x.node, (valS f.data).1, x.root⟩ else
  if f.tag = 5 then ⟨x.region, x.epoch, x.node, x.size, cpM x.root f.data⟩ else x
theorem dropF_gd (l : List Field) (i : Nat) (h : i < l.length) : l.drop i = l.getD i default :: l.drop (i + 1) := drop_getD h
def takeCL : List Field → Claim → Claim
  | [], x => x
  | f :: fs, x => takeCL fs (takeC x f)
theorem takeCL_step {fs : List Field} {i : Nat} {x R : Claim} (hR : takeCL (fs.drop i) x = R) (hi : i < fs.length) : takeCL (fs.drop (i + 1)) (takeC x (fs.getD i default)) = R := by
  rw [dropF_gd fs i hi] at hR; exact hR
def gotC (l : Bs) : Claim × Int := if (readF l).2 = 0 ∧ (putC (takeCL (readF l).1 ⟨0, 0, 0, 0, dz⟩)).2 = 0 ∧ sameT (strOf (putC (takeCL (readF l).1 ⟨0, 0, 0, 0, dz⟩)).1) (strOf l) = true then (takeCL (readF l).1 ⟨0, 0, 0, 0, dz⟩, 0) else (⟨0, 0, 0, 0, dz⟩, 60)
theorem readL_cnt : ∀ (f : Nat) (l : Bs) (last : Int) (acc : List Field), (readL f l last acc).1.length ≤ acc.length + l.length
  | 0, l, last, acc => Nat.le_add_right _ _
  | f + 1, l, last, acc => by
    rw [readL]
    split
    · exact Nat.le_add_right _ _
    · split
      · simp
      · split
        · simp
        · rename_i h1 h2 h3
          refine Nat.le_trans (readL_cnt f _ _ _) ?_
          have hp := getF_pos (l := l) (n := l.length) (by omega)
          rw [List.length_append, List.length_drop]
          simp only [List.length_cons, List.length_nil]
          omega
theorem readF_cnt (l : Bs) : (readF l).1.length ≤ l.length := by
  have := readL_cnt (l.length + 1) l 0 []
  simpa [readF] using this
theorem enumber_ok (s : ByteArray) : CallL Tryd.prog G 40 [.string s] [] (.int .i64 (valS s).1) [] := by
  refine walk (fn := Tryd.f40) (nt := 11) rfl rfl rfl rfl ?_
  refine c_seq (c_reg ?_)
  refine r_assign (v := .int .i64 0) rfl rfl rfl ?_
  refine r_doneN (x_then (c_seq (c_reg ?_)))
  refine r_move (v := .string s) rfl rfl rfl ?_
  refine r_callP (Value_ok (G := G) s) (vals := [.string s]) (res' := .tuple #[.int .i64 (((valS s).1)), .int .i64 (((valS s).2))]) rfl rfl rfl rfl rfl (by kernel_rfl) ?_
  refine r_move (v := .tuple #[.int .i64 (((valS s).1)), .int .i64 (((valS s).2))]) rfl rfl rfl ?_
  refine r_extract (vs := #[.int .i64 (((valS s).1)), .int .i64 (((valS s).2))]) (v := .int .i64 (((valS s).1))) rfl rfl rfl rfl ?_
  refine r_extract (vs := #[.int .i64 (((valS s).1)), .int .i64 (((valS s).2))]) (v := .int .i64 (((valS s).2))) rfl rfl rfl rfl ?_
  refine r_assign (v := .int .i64 (((valS s).1))) rfl rfl rfl ?_
  refine r_assign (v := .int .i64 (((valS s).2))) rfl rfl rfl ?_
  refine r_doneN (x_then (c_seq (c_reg ?_)))
  refine r_move (v := .int .i64 (((valS s).1))) rfl rfl rfl ?_
  refine r_assign (v := .int .i64 (((valS s).1))) rfl rfl rfl ?_
  refine r_doneN (x_then (c_ret (x_end ?_)))
  exact end_same (v := .int .i64 (((valS s).1))) rfl rfl rfl (by kernel_rfl) rfl
theorem takeC_ok (x : Claim) (f : Field) : CallL Tryd.prog G 49 [pt 0 0, fdV f] [bxB 36 (claimC x)] (.tuple #[]) [bxB 36 (claimC (takeC x f))] := by
  refine walk (fn := Tryd.f49) (nt := 47) rfl rfl rfl rfl ?_
  refine c_hole 1 (H' := [bxB 36 (claimC x), hole]) rfl ?_
  refine c_seq (c_reg ?_)
  refine r_box (v := fdV f) (b := bxB 2 (fdC f)) (nid := 1) (H' := [bxB 36 (claimC x), bxB 2 (fdC f)]) rfl rfl rfl (by kernel_rfl) (by kernel_rfl) ?_
  refine r_doneN (x_then (c_seq (c_reg ?_)))
  refine r_fieldAddr (b := 1) (o := 0) (n := 0) (o' := 0) rfl rfl rfl rfl rfl ?_
  refine r_load (p := pt 1 0) (v := .int .i64 f.tag) rfl rfl rfl (by kernel_rfl) ?_
  refine r_doneN (x_then (c_block (c_seq (c_reg ?_))))
  by_cases h1 : f.tag = 1
  refine r_bin (v := .bool true) (vx := .int .i64 f.tag) (vy := .int .i64 1) rfl rfl rfl rfl (eql_t (by omega)) ?_
  refine r_assign (v := .bool true) rfl rfl rfl ?_
  refine r_doneN (x_then (c_true rfl (c_reg ?_)))
  refine r_move (v := pt 0 0) rfl rfl rfl ?_
  refine r_fieldAddr (b := 1) (o := 0) (n := 1) (o' := 1) rfl rfl rfl rfl rfl ?_
  refine r_load (p := pt 1 1) (v := .string f.data) rfl rfl rfl (by kernel_rfl) ?_
  refine r_callP (enumber_ok (G := G) f.data) (vals := [.string f.data]) (res' := .int .i64 (((valS f.data).1))) rfl rfl rfl rfl rfl rfl ?_
  refine r_nilCheck (p := pt 0 0) (v := pt 0 0) rfl rfl rfl rfl ?_
  refine r_fieldAddr (b := 0) (o := 0) (n := 0) (o' := 0) rfl rfl rfl rfl rfl ?_
  refine r_store (p := pt 0 0) (v := .int .i64 (((valS f.data).1))) (b := 0) (blk := bxB 36 (claimC (⟨(((valS f.data).1)), x.epoch, x.node, x.size, x.root⟩ : Claim))) (H' := [bxB 36 (claimC (⟨(((valS f.data).1)), x.epoch, x.node, x.size, x.root⟩ : Claim)), bxB 2 (fdC f)]) rfl rfl rfl (by kernel_rfl) (by kernel_rfl) ?_
  refine r_doneN (x_blockN (x_endN ?_))
  rw [show takeC x f = (⟨(((valS f.data).1)), x.epoch, x.node, x.size, x.root⟩ : Claim) from by unfold takeC; first | (rw [if_pos (by omega)]) | (rw [if_neg (by omega), if_pos (by omega)]) | (rw [if_neg (by omega), if_neg (by omega), if_pos (by omega)]) | (rw [if_neg (by omega), if_neg (by omega), if_neg (by omega), if_pos (by omega)]) | (rw [if_neg (by omega), if_neg (by omega), if_neg (by omega), if_neg (by omega), if_pos (by omega)]) | (rw [if_neg (by omega), if_neg (by omega), if_neg (by omega), if_neg (by omega), if_neg (by omega)])]
  exact end_same (v := .tuple #[]) rfl rfl rfl (by simp [keptB, bxB, okId, okId0]) trivial
  refine r_bin (v := .bool false) (vx := .int .i64 f.tag) (vy := .int .i64 1) rfl rfl rfl rfl (eql_f (by omega)) ?_
  refine r_assign (v := .bool false) rfl rfl rfl ?_
  refine r_doneN (x_then (c_false rfl (c_seq (c_reg ?_))))
  by_cases h2 : f.tag = 2
  refine r_bin (v := .bool true) (vx := .int .i64 f.tag) (vy := .int .i64 2) rfl rfl rfl rfl (eql_t (by omega)) ?_
  refine r_assign (v := .bool true) rfl rfl rfl ?_
  refine r_doneN (x_then (c_true rfl (c_reg ?_)))
  refine r_move (v := pt 0 0) rfl rfl rfl ?_
  refine r_fieldAddr (b := 1) (o := 0) (n := 1) (o' := 1) rfl rfl rfl rfl rfl ?_
  refine r_load (p := pt 1 1) (v := .string f.data) rfl rfl rfl (by kernel_rfl) ?_
  refine r_callP (enumber_ok (G := G) f.data) (vals := [.string f.data]) (res' := .int .i64 (((valS f.data).1))) rfl rfl rfl rfl rfl rfl ?_
  refine r_nilCheck (p := pt 0 0) (v := pt 0 0) rfl rfl rfl rfl ?_
  refine r_fieldAddr (b := 0) (o := 0) (n := 1) (o' := 1) rfl rfl rfl rfl rfl ?_
  refine r_store (p := pt 0 1) (v := .int .i64 (((valS f.data).1))) (b := 0) (blk := bxB 36 (claimC (⟨x.region, (((valS f.data).1)), x.node, x.size, x.root⟩ : Claim))) (H' := [bxB 36 (claimC (⟨x.region, (((valS f.data).1)), x.node, x.size, x.root⟩ : Claim)), bxB 2 (fdC f)]) rfl rfl rfl (by kernel_rfl) (by kernel_rfl) ?_
  refine r_doneN (x_blockN (x_endN ?_))
  rw [show takeC x f = (⟨x.region, (((valS f.data).1)), x.node, x.size, x.root⟩ : Claim) from by unfold takeC; first | (rw [if_pos (by omega)]) | (rw [if_neg (by omega), if_pos (by omega)]) | (rw [if_neg (by omega), if_neg (by omega), if_pos (by omega)]) | (rw [if_neg (by omega), if_neg (by omega), if_neg (by omega), if_pos (by omega)]) | (rw [if_neg (by omega), if_neg (by omega), if_neg (by omega), if_neg (by omega), if_pos (by omega)]) | (rw [if_neg (by omega), if_neg (by omega), if_neg (by omega), if_neg (by omega), if_neg (by omega)])]
  exact end_same (v := .tuple #[]) rfl rfl rfl (by simp [keptB, bxB, okId, okId0]) trivial
  refine r_bin (v := .bool false) (vx := .int .i64 f.tag) (vy := .int .i64 2) rfl rfl rfl rfl (eql_f (by omega)) ?_
  refine r_assign (v := .bool false) rfl rfl rfl ?_
  refine r_doneN (x_then (c_false rfl (c_seq (c_reg ?_))))
  by_cases h3 : f.tag = 3
  refine r_bin (v := .bool true) (vx := .int .i64 f.tag) (vy := .int .i64 3) rfl rfl rfl rfl (eql_t (by omega)) ?_
  refine r_assign (v := .bool true) rfl rfl rfl ?_
  refine r_doneN (x_then (c_true rfl (c_reg ?_)))
  refine r_move (v := pt 0 0) rfl rfl rfl ?_
  refine r_fieldAddr (b := 1) (o := 0) (n := 1) (o' := 1) rfl rfl rfl rfl rfl ?_
  refine r_load (p := pt 1 1) (v := .string f.data) rfl rfl rfl (by kernel_rfl) ?_
  refine r_callP (enumber_ok (G := G) f.data) (vals := [.string f.data]) (res' := .int .i64 (((valS f.data).1))) rfl rfl rfl rfl rfl rfl ?_
  refine r_nilCheck (p := pt 0 0) (v := pt 0 0) rfl rfl rfl rfl ?_
  refine r_fieldAddr (b := 0) (o := 0) (n := 2) (o' := 2) rfl rfl rfl rfl rfl ?_
  refine r_store (p := pt 0 2) (v := .int .i64 (((valS f.data).1))) (b := 0) (blk := bxB 36 (claimC (⟨x.region, x.epoch, (((valS f.data).1)), x.size, x.root⟩ : Claim))) (H' := [bxB 36 (claimC (⟨x.region, x.epoch, (((valS f.data).1)), x.size, x.root⟩ : Claim)), bxB 2 (fdC f)]) rfl rfl rfl (by kernel_rfl) (by kernel_rfl) ?_
  refine r_doneN (x_blockN (x_endN ?_))
  rw [show takeC x f = (⟨x.region, x.epoch, (((valS f.data).1)), x.size, x.root⟩ : Claim) from by unfold takeC; first | (rw [if_pos (by omega)]) | (rw [if_neg (by omega), if_pos (by omega)]) | (rw [if_neg (by omega), if_neg (by omega), if_pos (by omega)]) | (rw [if_neg (by omega), if_neg (by omega), if_neg (by omega), if_pos (by omega)]) | (rw [if_neg (by omega), if_neg (by omega), if_neg (by omega), if_neg (by omega), if_pos (by omega)]) | (rw [if_neg (by omega), if_neg (by omega), if_neg (by omega), if_neg (by omega), if_neg (by omega)])]
  exact end_same (v := .tuple #[]) rfl rfl rfl (by simp [keptB, bxB, okId, okId0]) trivial
  refine r_bin (v := .bool false) (vx := .int .i64 f.tag) (vy := .int .i64 3) rfl rfl rfl rfl (eql_f (by omega)) ?_
  refine r_assign (v := .bool false) rfl rfl rfl ?_
  refine r_doneN (x_then (c_false rfl (c_seq (c_reg ?_))))
  by_cases h4 : f.tag = 4
  refine r_bin (v := .bool true) (vx := .int .i64 f.tag) (vy := .int .i64 4) rfl rfl rfl rfl (eql_t (by omega)) ?_
  refine r_assign (v := .bool true) rfl rfl rfl ?_
  refine r_doneN (x_then (c_true rfl (c_reg ?_)))
  refine r_move (v := pt 0 0) rfl rfl rfl ?_
  refine r_fieldAddr (b := 1) (o := 0) (n := 1) (o' := 1) rfl rfl rfl rfl rfl ?_
  refine r_load (p := pt 1 1) (v := .string f.data) rfl rfl rfl (by kernel_rfl) ?_
  refine r_callP (enumber_ok (G := G) f.data) (vals := [.string f.data]) (res' := .int .i64 (((valS f.data).1))) rfl rfl rfl rfl rfl rfl ?_
  refine r_nilCheck (p := pt 0 0) (v := pt 0 0) rfl rfl rfl rfl ?_
  refine r_fieldAddr (b := 0) (o := 0) (n := 3) (o' := 3) rfl rfl rfl rfl rfl ?_
  refine r_store (p := pt 0 3) (v := .int .i64 (((valS f.data).1))) (b := 0) (blk := bxB 36 (claimC (⟨x.region, x.epoch, x.node, (((valS f.data).1)), x.root⟩ : Claim))) (H' := [bxB 36 (claimC (⟨x.region, x.epoch, x.node, (((valS f.data).1)), x.root⟩ : Claim)), bxB 2 (fdC f)]) rfl rfl rfl (by kernel_rfl) (by kernel_rfl) ?_
  refine r_doneN (x_blockN (x_endN ?_))
  rw [show takeC x f = (⟨x.region, x.epoch, x.node, (((valS f.data).1)), x.root⟩ : Claim) from by unfold takeC; first | (rw [if_pos (by omega)]) | (rw [if_neg (by omega), if_pos (by omega)]) | (rw [if_neg (by omega), if_neg (by omega), if_pos (by omega)]) | (rw [if_neg (by omega), if_neg (by omega), if_neg (by omega), if_pos (by omega)]) | (rw [if_neg (by omega), if_neg (by omega), if_neg (by omega), if_neg (by omega), if_pos (by omega)]) | (rw [if_neg (by omega), if_neg (by omega), if_neg (by omega), if_neg (by omega), if_neg (by omega)])]
  exact end_same (v := .tuple #[]) rfl rfl rfl (by simp [keptB, bxB, okId, okId0]) trivial
  refine r_bin (v := .bool false) (vx := .int .i64 f.tag) (vy := .int .i64 4) rfl rfl rfl rfl (eql_f (by omega)) ?_
  refine r_assign (v := .bool false) rfl rfl rfl ?_
  refine r_doneN (x_then (c_false rfl (c_seq (c_reg ?_))))
  by_cases h5 : f.tag = 5
  refine r_bin (v := .bool true) (vx := .int .i64 f.tag) (vy := .int .i64 5) rfl rfl rfl rfl (eql_t (by omega)) ?_
  refine r_assign (v := .bool true) rfl rfl rfl ?_
  refine r_doneN (x_then (c_true rfl ?_))
  refine c_draw (by kernel_rfl) ?_
  refine r_move (v := pt 0 0) rfl rfl rfl ?_
  refine r_nilCheck (p := pt 0 0) (v := pt 0 0) rfl rfl rfl rfl ?_
  refine r_fieldAddr (b := 0) (o := 0) (n := 4) (o' := 4) rfl rfl rfl rfl rfl ?_
  refine r_slice (p := pt 0 4) (vl := none) (vh := none) (v := slv 0 4 32 32) rfl rfl rfl rfl rfl rfl ?_
  refine r_fieldAddr (b := 1) (o := 0) (n := 1) (o' := 1) rfl rfl rfl rfl rfl ?_
  refine r_load (p := pt 1 1) (v := .string f.data) rfl rfl rfl (by kernel_rfl) ?_
  refine r_copy (p := slv 0 4 32 32) (q := .string f.data) (v := .int .i64 (((min f.data.size 32) : Nat) : Int)) (b := 0) (blk := bxB 36 (claimC (⟨x.region, x.epoch, x.node, x.size, (cpM x.root f.data)⟩ : Claim))) (H' := [bxB 36 (claimC (⟨x.region, x.epoch, x.node, x.size, (cpM x.root f.data)⟩ : Claim)), bxB 2 (fdC f)]) rfl rfl rfl rfl (Eq.trans (copy_mid (w := x.root) (pre := (claimC x).take 4) (rest := (claimC x).drop 36) rfl rfl rfl rfl (by kernel_rfl) rfl) (by kernel_rfl)) (by kernel_rfl) ?_
  refine r_doneD (drawnT_ok [[], [0], [0, 1], [0, 1, 2], [], [4], [0, 1, 2, 3, 4, 5]] (by kernel_rfl) (by kernel_rfl)) ?_
  refine x_blockN (x_endN ?_)
  rw [show takeC x f = (⟨x.region, x.epoch, x.node, x.size, (cpM x.root f.data)⟩ : Claim) from by unfold takeC; first | (rw [if_pos (by omega)]) | (rw [if_neg (by omega), if_pos (by omega)]) | (rw [if_neg (by omega), if_neg (by omega), if_pos (by omega)]) | (rw [if_neg (by omega), if_neg (by omega), if_neg (by omega), if_pos (by omega)]) | (rw [if_neg (by omega), if_neg (by omega), if_neg (by omega), if_neg (by omega), if_pos (by omega)]) | (rw [if_neg (by omega), if_neg (by omega), if_neg (by omega), if_neg (by omega), if_neg (by omega)])]
  exact end_same (v := .tuple #[]) rfl rfl rfl (by simp [keptB, bxB, okId, okId0]) trivial
  refine r_bin (v := .bool false) (vx := .int .i64 f.tag) (vy := .int .i64 5) rfl rfl rfl rfl (eql_f (by omega)) ?_
  refine r_assign (v := .bool false) rfl rfl rfl ?_
  refine r_doneN (x_then (c_false rfl (c_skip (x_blockN (x_endN ?_)))))
  rw [show takeC x f = x from by unfold takeC; first | (rw [if_pos (by omega)]) | (rw [if_neg (by omega), if_pos (by omega)]) | (rw [if_neg (by omega), if_neg (by omega), if_pos (by omega)]) | (rw [if_neg (by omega), if_neg (by omega), if_neg (by omega), if_pos (by omega)]) | (rw [if_neg (by omega), if_neg (by omega), if_neg (by omega), if_neg (by omega), if_pos (by omega)]) | (rw [if_neg (by omega), if_neg (by omega), if_neg (by omega), if_neg (by omega), if_neg (by omega)])]
  exact end_same (v := .tuple #[]) rfl rfl rfl (by simp [keptB, bxB, okId, okId0]) trivial
theorem bytesEq_ok (l m : Bs) (n c p d : Nat) (hn : l.length = n) (hm : m.length = p) (hc : n ≤ c) (hd : p ≤ d) : CallL Tryd.prog G 68 [slv 0 0 n c, slv 1 0 p d] [rdB l, rdB m] (.bool (sameT (strOf l) (strOf m))) [rdB l, rdB m] := by
  refine walk (fn := Tryd.f68) (nt := 10) rfl rfl rfl rfl ?_
  refine c_seq (c_reg ?_)
  refine r_assign (v := .bool false) rfl rfl rfl ?_
  refine r_doneN (x_then (c_seq (c_reg ?_)))
  refine r_move (v := slv 0 0 n c) rfl rfl rfl ?_
  refine r_str (p := slv 0 0 n c) (v := .string (strOf l)) rfl rfl rfl (str_whole rfl rfl rfl rfl rfl (by have := hn; omega)) ?_
  refine r_move (v := slv 1 0 p d) rfl rfl rfl ?_
  refine r_str (p := slv 1 0 p d) (v := .string (strOf m)) rfl rfl rfl (str_whole rfl rfl rfl rfl rfl (by have := hm; omega)) ?_
  rcases Bool.eq_false_or_eq_true (sameT (strOf l) (strOf m)) with h1 | h1
  refine r_bin (v := .bool true) (vx := .string (strOf l)) (vy := .string (strOf m)) rfl rfl rfl rfl (Eq.trans (eql_str _ _) (by rw [h1] <;> rfl)) ?_
  refine r_assign (v := .bool true) rfl rfl rfl ?_
  refine r_doneN (x_then (c_ret (x_end ?_)))
  rw [show sameT (strOf l) (strOf m) = true from by assumption]
  exact end_same (v := .bool true) rfl rfl rfl (by simp [keptB, rdB]) rfl
  refine r_bin (v := .bool false) (vx := .string (strOf l)) (vy := .string (strOf m)) rfl rfl rfl rfl (Eq.trans (eql_str _ _) (by rw [h1] <;> rfl)) ?_
  refine r_assign (v := .bool false) rfl rfl rfl ?_
  refine r_doneN (x_then (c_ret (x_end ?_)))
  rw [show sameT (strOf l) (strOf m) = false from by assumption]
  exact end_same (v := .bool false) rfl rfl rfl (by simp [keptB, rdB]) rfl
theorem gotC_ok (l : Bs) (c : Nat) (hc : l.length ≤ c) (hb : l.length ≤ 1048576) : CallL Tryd.prog G 48 [slv 0 0 l.length c, .func (.func 49) #[] #[], .func (.func 25) #[] #[]] [rdB l] (.tuple #[claimV (gotC l).1, .int .i64 (gotC l).2]) [rdB l] := by
  refine walk (fn := Tryd.f48) (nt := 50) rfl rfl rfl rfl ?_
  refine c_hole 4 (H' := [rdB l, hole, hole, hole, hole]) rfl ?_
  refine c_seq (c_reg ?_)
  refine r_alloc (b := bxB 36 (claimC (⟨0, 0, 0, 0, dz⟩ : Claim))) (nid := 1) (H' := [rdB l, bxB 36 (claimC (⟨0, 0, 0, 0, dz⟩ : Claim)), hole, hole, hole]) rfl rfl (by kernel_rfl) (by kernel_rfl) ?_
  refine r_assign (v := .int .i64 0) rfl rfl rfl ?_
  refine r_doneN (x_then (c_seq (c_reg ?_)))
  refine r_alloc (b := bxB 36 (claimC (⟨0, 0, 0, 0, dz⟩ : Claim))) (nid := 2) (H' := [rdB l, bxB 36 (claimC (⟨0, 0, 0, 0, dz⟩ : Claim)), bxB 36 (claimC (⟨0, 0, 0, 0, dz⟩ : Claim)), hole, hole]) rfl rfl (by kernel_rfl) (by kernel_rfl) ?_
  refine r_alloc (b := bxB 36 (claimC (⟨0, 0, 0, 0, dz⟩ : Claim))) (nid := 3) (H' := [rdB l, bxB 36 (claimC (⟨0, 0, 0, 0, dz⟩ : Claim)), bxB 36 (claimC (⟨0, 0, 0, 0, dz⟩ : Claim)), bxB 36 (claimC (⟨0, 0, 0, 0, dz⟩ : Claim)), hole]) rfl rfl (by kernel_rfl) (by kernel_rfl) ?_
  refine r_doneN (x_then (c_seq (c_reg ?_)))
  refine r_move (v := slv 0 0 l.length c) rfl rfl rfl ?_
  have hrl4 := readF_cnt l
  refine r_callN (e := [some (0, 0)]) (nid := 4) (Read_ok (G := G) l c (by omega) (by omega)) (vals := [slv 0 0 l.length c]) (v := .tuple #[slv 4 0 ((readF l).1.length) ((readF l).1.length), .int .i64 (((readF l).2))]) (H' := [rdB l, bxB 36 (claimC (⟨0, 0, 0, 0, dz⟩ : Claim)), bxB 36 (claimC (⟨0, 0, 0, 0, dz⟩ : Claim)), bxB 36 (claimC (⟨0, 0, 0, 0, dz⟩ : Claim)), rwB cFd ((readF l).1)]) rfl rfl rfl rfl rfl rfl rfl ⟨⟨⟨rfl, rfl, rfl, by first | omega | exact Nat.le_refl _, by first | omega | exact Nat.le_refl _⟩, trivial⟩, ⟨(emb_rd rfl), trivial⟩, rfl, rfl, rfl⟩ (by kernel_rfl) (by kernel_rfl) ?_
  refine r_move (v := .tuple #[slv 4 0 ((readF l).1.length) ((readF l).1.length), .int .i64 (((readF l).2))]) rfl rfl rfl ?_
  refine r_extract (vs := #[slv 4 0 ((readF l).1.length) ((readF l).1.length), .int .i64 (((readF l).2))]) (v := slv 4 0 ((readF l).1.length) ((readF l).1.length)) rfl rfl rfl rfl ?_
  refine r_extract (vs := #[slv 4 0 ((readF l).1.length) ((readF l).1.length), .int .i64 (((readF l).2))]) (v := .int .i64 (((readF l).2))) rfl rfl rfl rfl ?_
  refine r_assign (v := slv 4 0 ((readF l).1.length) ((readF l).1.length)) rfl rfl rfl ?_
  refine r_assign (v := .int .i64 (((readF l).2))) rfl rfl rfl ?_
  refine r_doneN (x_then (c_seq (c_seq (c_reg ?_))))
  refine r_move (v := slv 4 0 ((readF l).1.length) ((readF l).1.length)) rfl rfl rfl ?_
  refine r_len (p := slv 4 0 ((readF l).1.length) ((readF l).1.length)) (v := .int .i64 ((((readF l).1.length) : Nat) : Int)) rfl rfl rfl rfl ?_
  refine r_move (v := .int .i64 0) rfl rfl rfl ?_
  refine r_doneN (x_then (c_block ?_))
  refine c_loopN (fun x : Nat × Claim => match x with | (i, x) => [slv 0 0 l.length c, .func (.func 49) #[] #[], .func (.func 25) #[] #[], dead, dead, dead, pt 1 0, .int .i64 0, pt 2 0, pt 3 0, slv 4 0 ((readF l).1.length) ((readF l).1.length), .int .i64 (((readF l).2)), dead, dead, dead, dead, .tuple #[slv 4 0 ((readF l).1.length) ((readF l).1.length), .int .i64 (((readF l).2))], slv 0 0 l.length c, .tuple #[slv 4 0 ((readF l).1.length) ((readF l).1.length), .int .i64 (((readF l).2))], slv 4 0 ((readF l).1.length) ((readF l).1.length), .int .i64 (((readF l).2)), slv 4 0 ((readF l).1.length) ((readF l).1.length), .int .i64 ((((readF l).1.length) : Nat) : Int), .int .i64 (i : Nat)]) (fun x : Nat × Claim => match x with | (i, x) => [rdB l, bxB 36 (claimC (⟨0, 0, 0, 0, dz⟩ : Claim)), bxB 36 (claimC x), bxB 36 (claimC (⟨0, 0, 0, 0, dz⟩ : Claim)), rwB cFd ((readF l).1)]) (fun x : Nat × Claim => match x with | (i, x) => takeCL ((readF l).1.drop i) x = takeCL (readF l).1 ⟨0, 0, 0, 0, dz⟩ ∧ i ≤ (readF l).1.length) (fun x : Nat × Claim => match x with | (i, x) => (readF l).1.length - i) (0, ⟨0, 0, 0, 0, dz⟩) ⟨rfl, Nat.zero_le _⟩ ?_ ?_
  · refine weak_to (n := 5) rfl ?_ (by kernel_rfl) (by kernel_rfl)
    repeat (first | exact trivial | refine ⟨.inl rfl, ?_⟩ | refine ⟨.inr ⟨rfl, rfl⟩, ?_⟩ | refine ⟨.inr ⟨congrArg (Value.int .i64) (by first | omega | (dsimp only; omega)), rfl⟩, ?_⟩)
  rintro ⟨i, x⟩ ⟨hR, hi⟩
  dsimp only at *
  refine c_hole 1 (H' := [rdB l, bxB 36 (claimC (⟨0, 0, 0, 0, dz⟩ : Claim)), bxB 36 (claimC x), bxB 36 (claimC (⟨0, 0, 0, 0, dz⟩ : Claim)), rwB cFd ((readF l).1), hole]) rfl ?_
  refine c_seq (c_reg ?_)
  by_cases h1 : (i : Nat) < ((((readF l).1.length) : Nat) : Int)
  refine r_bin (v := .bool true) (vx := .int .i64 (i : Nat)) (vy := .int .i64 ((((readF l).1.length) : Nat) : Int)) rfl rfl rfl rfl (lss_t (by omega)) ?_
  refine r_doneN (x_then (c_seq (c_true rfl (c_skip (x_then (c_seq (c_block (c_seq (c_reg ?_)))))))))
  refine r_idxS (b := 4) (o := 0) (j := i * 2) (m := ((readF l).1.length)) (c := ((readF l).1.length)) (sz := 2) (i := (i : Nat)) (k := .i64) rfl rfl rfl rfl rfl (by omega) (by omega) (by omega) ?_
  refine r_load (p := pt 4 (i * 2)) (v := fdV ((((readF l).1)).getD i default)) rfl rfl rfl (load_rw (n := 0) (m := 2) cFd rfl rfl rfl rfl (by omega) (by omega)) ?_
  refine r_alloc (b := bxB 2 (fdC (⟨0, ⟨#[]⟩⟩ : Field))) (nid := 5) (H' := [rdB l, bxB 36 (claimC (⟨0, 0, 0, 0, dz⟩ : Claim)), bxB 36 (claimC x), bxB 36 (claimC (⟨0, 0, 0, 0, dz⟩ : Claim)), rwB cFd ((readF l).1), bxB 2 (fdC (⟨0, ⟨#[]⟩⟩ : Field))]) rfl rfl (by kernel_rfl) (by kernel_rfl) ?_
  refine r_store (p := pt 5 0) (v := fdV ((((readF l).1)).getD i default)) (b := 5) (blk := bxB 2 (fdC ((((readF l).1)).getD i default))) (H' := [rdB l, bxB 36 (claimC (⟨0, 0, 0, 0, dz⟩ : Claim)), bxB 36 (claimC x), bxB 36 (claimC (⟨0, 0, 0, 0, dz⟩ : Claim)), rwB cFd ((readF l).1), bxB 2 (fdC ((((readF l).1)).getD i default))]) rfl rfl rfl (by kernel_rfl) (by kernel_rfl) ?_
  refine r_doneN (x_then (c_reg ?_))
  refine r_move (v := .func (.func 49) #[] #[]) rfl rfl rfl ?_
  refine r_load (p := pt 5 0) (v := fdV ((((readF l).1)).getD i default)) rfl rfl rfl (by kernel_rfl) ?_
  refine r_callN (e := [some (2, 0)]) (nid := 0) (takeC_ok (G := G) x ((((readF l).1)).getD i default)) (vals := [pt 2 0, fdV ((((readF l).1)).getD i default)]) (v := .tuple #[]) (H' := [rdB l, bxB 36 (claimC (⟨0, 0, 0, 0, dz⟩ : Claim)), bxB 36 (claimC (takeC x ((((readF l).1)).getD i default))), bxB 36 (claimC (⟨0, 0, 0, 0, dz⟩ : Claim)), rwB cFd ((readF l).1), bxB 2 (fdC ((((readF l).1)).getD i default))]) rfl rfl rfl rfl rfl rfl rfl ⟨⟨⟨rfl, rfl⟩, rfl, trivial⟩, ⟨(emb_wr rfl rfl rfl rfl), trivial⟩, rfl, rfl, rfl⟩ (by kernel_rfl) (by kernel_rfl) ?_
  refine r_doneN (x_blockN (x_then (c_reg ?_)))
  refine r_bin (v := .int .i64 ((i : Nat) + 1)) (vx := .int .i64 (i : Nat)) (vy := .int .i64 1) rfl rfl rfl rfl (bin_add (by omega) (by omega) (by omega)) ?_
  refine r_move (v := .int .i64 ((i : Nat) + 1)) rfl rfl rfl ?_
  refine r_doneN ?_
  refine x_round ⟨((i + 1), (takeC x ((((readF l).1)).getD i default))), ⟨takeCL_step hR (by omega), by dsimp only; omega⟩, by show (readF l).1.length - (i + 1) < (readF l).1.length - i; omega, ?_⟩
  refine weak_to (n := 5) rfl ?_ (by kernel_rfl) (by kernel_rfl)
  repeat (first | exact trivial | refine ⟨.inl rfl, ?_⟩ | refine ⟨.inr ⟨rfl, rfl⟩, ?_⟩ | refine ⟨.inr ⟨congrArg (Value.int .i64) (by first | omega | (dsimp only; omega)), rfl⟩, ?_⟩)
  refine r_bin (v := .bool false) (vx := .int .i64 (i : Nat)) (vy := .int .i64 ((((readF l).1.length) : Nat) : Int)) rfl rfl rfl rfl (lss_f (by omega)) ?_
  refine r_doneN (x_then (c_seq (c_false rfl (c_exit (x_thenE (x_leaveE (x_block rfl (x_then (c_seq (c_seq (c_reg ?_)))))))))))
  refine r_move (v := .func (.func 25) #[] #[]) rfl rfl rfl ?_
  refine r_load (p := pt 2 0) (v := claimV x) rfl rfl rfl (by kernel_rfl) ?_
  have hpl5 := putC_len x
  refine r_callN (e := []) (nid := 5) (PutClaim_ok (G := G) x) (vals := [claimV x]) (v := .tuple #[slv 5 0 ((putC x).1.length) ((putC x).1.length), .int .i64 (((putC x).2))]) (H' := [rdB l, bxB 36 (claimC (⟨0, 0, 0, 0, dz⟩ : Claim)), bxB 36 (claimC x), bxB 36 (claimC (⟨0, 0, 0, 0, dz⟩ : Claim)), rwB cFd ((readF l).1), rowB ((putC x).1)]) rfl rfl rfl rfl rfl rfl rfl ⟨⟨rfl, trivial⟩, trivial, rfl, rfl, rfl⟩ (by kernel_rfl) (by kernel_rfl) ?_
  refine r_move (v := .tuple #[slv 5 0 ((putC x).1.length) ((putC x).1.length), .int .i64 (((putC x).2))]) rfl rfl rfl ?_
  refine r_extract (vs := #[slv 5 0 ((putC x).1.length) ((putC x).1.length), .int .i64 (((putC x).2))]) (v := slv 5 0 ((putC x).1.length) ((putC x).1.length)) rfl rfl rfl rfl ?_
  refine r_extract (vs := #[slv 5 0 ((putC x).1.length) ((putC x).1.length), .int .i64 (((putC x).2))]) (v := .int .i64 (((putC x).2))) rfl rfl rfl rfl ?_
  refine r_assign (v := slv 5 0 ((putC x).1.length) ((putC x).1.length)) rfl rfl rfl ?_
  refine r_assign (v := .int .i64 (((putC x).2))) rfl rfl rfl ?_
  refine r_doneN (x_then (c_seq (c_reg ?_)))
  refine r_move (v := .int .i64 (((readF l).2))) rfl rfl rfl ?_
  by_cases h2 : (((readF l).2)) = 0
  refine r_bin (v := .bool true) (vx := .int .i64 (((readF l).2))) (vy := .int .i64 0) rfl rfl rfl rfl (eql_t (by omega)) ?_
  refine r_move (v := .bool true) rfl rfl rfl ?_
  refine r_move (v := .int .i64 (((putC x).2))) rfl rfl rfl ?_
  by_cases h3 : (((putC x).2)) = 0
  refine r_bin (v := .bool true) (vx := .int .i64 (((putC x).2))) (vy := .int .i64 0) rfl rfl rfl rfl (eql_t (by omega)) ?_
  refine r_pick (v := .bool true) rfl rfl rfl ?_
  refine r_move (v := .bool true) rfl rfl rfl ?_
  refine r_move (v := slv 5 0 ((putC x).1.length) ((putC x).1.length)) rfl rfl rfl ?_
  refine r_move (v := slv 0 0 l.length c) rfl rfl rfl ?_
  refine r_callN (e := [some (5, 0), some (0, 0)]) (nid := 0) (bytesEq_ok (G := G) ((putC x).1) l ((putC x).1.length) ((putC x).1.length) l.length c rfl rfl (by omega) (by omega)) (vals := [slv 5 0 ((putC x).1.length) ((putC x).1.length), slv 0 0 l.length c]) (v := .bool (sameT (strOf ((putC x).1)) (strOf l))) (H' := [rdB l, bxB 36 (claimC (⟨0, 0, 0, 0, dz⟩ : Claim)), bxB 36 (claimC x), bxB 36 (claimC (⟨0, 0, 0, 0, dz⟩ : Claim)), rwB cFd ((readF l).1), rowB ((putC x).1)]) rfl rfl rfl rfl rfl rfl rfl ⟨⟨⟨rfl, rfl, rfl, by first | omega | exact Nat.le_refl _, by first | omega | exact Nat.le_refl _⟩, ⟨rfl, rfl, rfl, by first | omega | exact Nat.le_refl _, by first | omega | exact Nat.le_refl _⟩, trivial⟩, ⟨(emb_rdW rfl), (emb_rd rfl), trivial⟩, rfl, rfl, rfl⟩ rfl (by kernel_rfl) ?_
  refine r_pick (v := .bool (sameT (strOf ((putC x).1)) (strOf l))) rfl rfl rfl ?_
  refine r_doneN (x_then ?_)
  rcases Bool.eq_false_or_eq_true (sameT (strOf ((putC x).1)) (strOf l)) with h4 | h4
  refine c_true (congrArg Value.bool h4) ?_
  refine c_seq (c_reg ?_)
  refine r_load (p := pt 2 0) (v := claimV x) rfl rfl rfl (by kernel_rfl) ?_
  refine r_store (p := pt 1 0) (v := claimV x) (b := 1) (blk := bxB 36 (claimC x)) (H' := [rdB l, bxB 36 (claimC x), bxB 36 (claimC x), bxB 36 (claimC (⟨0, 0, 0, 0, dz⟩ : Claim)), rwB cFd ((readF l).1), rowB ((putC x).1)]) rfl rfl rfl (by kernel_rfl) (by kernel_rfl) ?_
  refine r_assign (v := .int .i64 0) rfl rfl rfl ?_
  refine r_doneN (x_then (c_ret (x_thenR (x_end ?_))))
  have hx : x = takeCL (readF l).1 ⟨0, 0, 0, 0, dz⟩ := by rw [← hR, List.drop_of_length_le (by omega)]; rfl
  rw [show gotC l = (x, 0) from by unfold gotC; rw [← hx]; exact if_pos ⟨by omega, by omega, by assumption⟩]
  exact end_same (v := .tuple #[claimV x, .int .i64 0]) (by kernel_rfl) rfl rfl (by simp [keptB, rdB]) ⟨(argV_p (by kernel_rfl) rfl), rfl, trivial⟩
  refine c_false (congrArg Value.bool h4) ?_
  refine c_skip (x_then (c_seq (c_reg ?_)))
  refine r_load (p := pt 3 0) (v := claimV (⟨0, 0, 0, 0, dz⟩ : Claim)) rfl rfl rfl (by kernel_rfl) ?_
  refine r_store (p := pt 1 0) (v := claimV (⟨0, 0, 0, 0, dz⟩ : Claim)) (b := 1) (blk := bxB 36 (claimC (⟨0, 0, 0, 0, dz⟩ : Claim))) (H' := [rdB l, bxB 36 (claimC (⟨0, 0, 0, 0, dz⟩ : Claim)), bxB 36 (claimC x), bxB 36 (claimC (⟨0, 0, 0, 0, dz⟩ : Claim)), rwB cFd ((readF l).1), rowB ((putC x).1)]) rfl rfl rfl (by kernel_rfl) (by kernel_rfl) ?_
  refine r_assign (v := .int .i64 60) rfl rfl rfl ?_
  refine r_doneN (x_then (c_ret (x_end ?_)))
  have hx : x = takeCL (readF l).1 ⟨0, 0, 0, 0, dz⟩ := by rw [← hR, List.drop_of_length_le (by omega)]; rfl
  rw [show gotC l = (⟨0, 0, 0, 0, dz⟩, 60) from by unfold gotC; rw [← hx]; exact if_neg (fun q => by have q1 := q.1; have q2 := q.2.1; have q3 := q.2.2; first | omega | (simp_all; done))]
  exact end_same (v := .tuple #[claimV (⟨0, 0, 0, 0, dz⟩ : Claim), .int .i64 60]) (by kernel_rfl) rfl rfl (by simp [keptB, rdB]) ⟨(argV_p (by kernel_rfl) rfl), rfl, trivial⟩
  refine r_bin (v := .bool false) (vx := .int .i64 (((putC x).2))) (vy := .int .i64 0) rfl rfl rfl rfl (eql_f (by omega)) ?_
  refine r_pick (v := .bool false) rfl rfl rfl ?_
  refine r_move (v := .bool false) rfl rfl rfl ?_
  refine r_skip rfl rfl (r_skip rfl rfl (r_skip rfl rfl ?_))
  refine r_pick (v := .bool false) rfl rfl rfl ?_
  refine r_doneN (x_then (c_false rfl (c_skip (x_then (c_seq (c_reg ?_))))))
  refine r_load (p := pt 3 0) (v := claimV (⟨0, 0, 0, 0, dz⟩ : Claim)) rfl rfl rfl (by kernel_rfl) ?_
  refine r_store (p := pt 1 0) (v := claimV (⟨0, 0, 0, 0, dz⟩ : Claim)) (b := 1) (blk := bxB 36 (claimC (⟨0, 0, 0, 0, dz⟩ : Claim))) (H' := [rdB l, bxB 36 (claimC (⟨0, 0, 0, 0, dz⟩ : Claim)), bxB 36 (claimC x), bxB 36 (claimC (⟨0, 0, 0, 0, dz⟩ : Claim)), rwB cFd ((readF l).1), rowB ((putC x).1)]) rfl rfl rfl (by kernel_rfl) (by kernel_rfl) ?_
  refine r_assign (v := .int .i64 60) rfl rfl rfl ?_
  refine r_doneN (x_then (c_ret (x_end ?_)))
  have hx : x = takeCL (readF l).1 ⟨0, 0, 0, 0, dz⟩ := by rw [← hR, List.drop_of_length_le (by omega)]; rfl
  rw [show gotC l = (⟨0, 0, 0, 0, dz⟩, 60) from by unfold gotC; rw [← hx]; exact if_neg (fun q => by have q1 := q.1; have q2 := q.2.1; have q3 := q.2.2; first | omega | (simp_all; done))]
  exact end_same (v := .tuple #[claimV (⟨0, 0, 0, 0, dz⟩ : Claim), .int .i64 60]) (by kernel_rfl) rfl rfl (by simp [keptB, rdB]) ⟨(argV_p (by kernel_rfl) rfl), rfl, trivial⟩
  refine r_bin (v := .bool false) (vx := .int .i64 (((readF l).2))) (vy := .int .i64 0) rfl rfl rfl rfl (eql_f (by omega)) ?_
  refine r_move (v := .bool false) rfl rfl rfl ?_
  refine r_skip rfl rfl (r_skip rfl rfl ?_)
  refine r_pick (v := .bool false) rfl rfl rfl ?_
  refine r_move (v := .bool false) rfl rfl rfl ?_
  refine r_skip rfl rfl (r_skip rfl rfl (r_skip rfl rfl ?_))
  refine r_pick (v := .bool false) rfl rfl rfl ?_
  refine r_doneN (x_then (c_false rfl (c_skip (x_then (c_seq (c_reg ?_))))))
  refine r_load (p := pt 3 0) (v := claimV (⟨0, 0, 0, 0, dz⟩ : Claim)) rfl rfl rfl (by kernel_rfl) ?_
  refine r_store (p := pt 1 0) (v := claimV (⟨0, 0, 0, 0, dz⟩ : Claim)) (b := 1) (blk := bxB 36 (claimC (⟨0, 0, 0, 0, dz⟩ : Claim))) (H' := [rdB l, bxB 36 (claimC (⟨0, 0, 0, 0, dz⟩ : Claim)), bxB 36 (claimC x), bxB 36 (claimC (⟨0, 0, 0, 0, dz⟩ : Claim)), rwB cFd ((readF l).1), rowB ((putC x).1)]) rfl rfl rfl (by kernel_rfl) (by kernel_rfl) ?_
  refine r_assign (v := .int .i64 60) rfl rfl rfl ?_
  refine r_doneN (x_then (c_ret (x_end ?_)))
  have hx : x = takeCL (readF l).1 ⟨0, 0, 0, 0, dz⟩ := by rw [← hR, List.drop_of_length_le (by omega)]; rfl
  rw [show gotC l = (⟨0, 0, 0, 0, dz⟩, 60) from by unfold gotC; rw [← hx]; exact if_neg (fun q => by have q1 := q.1; have q2 := q.2.1; have q3 := q.2.2; first | omega | (simp_all; done))]
  exact end_same (v := .tuple #[claimV (⟨0, 0, 0, 0, dz⟩ : Claim), .int .i64 60]) (by kernel_rfl) rfl rfl (by simp [keptB, rdB]) ⟨(argV_p (by kernel_rfl) rfl), rfl, trivial⟩
theorem GetClaim_ok (l : Bs) (c : Nat) (hc : l.length ≤ c) (hb : l.length ≤ 1048576) : CallL Tryd.prog G 20 [slv 0 0 l.length c] [rdB l] (.tuple #[claimV (gotC l).1, .int .i64 (gotC l).2]) [rdB l] := by
  refine walk (fn := Tryd.f20) (nt := 8) rfl rfl rfl rfl ?_
  refine c_hole 1 (H' := [rdB l, hole]) rfl ?_
  refine c_seq (c_reg ?_)
  refine r_alloc (b := bxB 36 (claimC (⟨0, 0, 0, 0, dz⟩ : Claim))) (nid := 1) (H' := [rdB l, bxB 36 (claimC (⟨0, 0, 0, 0, dz⟩ : Claim))]) rfl rfl (by kernel_rfl) (by kernel_rfl) ?_
  refine r_assign (v := .int .i64 0) rfl rfl rfl ?_
  refine r_doneN (x_then (c_seq (c_reg ?_)))
  refine r_move (v := slv 0 0 l.length c) rfl rfl rfl ?_
  refine r_callN (e := [some (0, 0)]) (nid := 0) (gotC_ok (G := G) l c (by omega) (by omega)) (vals := [slv 0 0 l.length c, .func (.func 49) #[] #[], .func (.func 25) #[] #[]]) (v := .tuple #[claimV ((gotC l).1), .int .i64 (((gotC l).2))]) (H' := [rdB l, bxB 36 (claimC (⟨0, 0, 0, 0, dz⟩ : Claim))]) rfl rfl rfl rfl rfl rfl rfl ⟨⟨⟨rfl, rfl, rfl, by first | omega | exact Nat.le_refl _, by first | omega | exact Nat.le_refl _⟩, ⟨by simp [renC, renC0], by kernel_rfl⟩, ⟨by simp [renC, renC0], by kernel_rfl⟩, trivial⟩, ⟨(emb_rd rfl), trivial⟩, rfl, rfl, rfl⟩ (by kernel_rfl) (by kernel_rfl) ?_
  refine r_extract (vs := #[claimV ((gotC l).1), .int .i64 (((gotC l).2))]) (v := claimV ((gotC l).1)) rfl rfl rfl rfl ?_
  refine r_extract (vs := #[claimV ((gotC l).1), .int .i64 (((gotC l).2))]) (v := .int .i64 (((gotC l).2))) rfl rfl rfl rfl ?_
  refine r_store (p := pt 1 0) (v := claimV ((gotC l).1)) (b := 1) (blk := bxB 36 (claimC ((gotC l).1))) (H' := [rdB l, bxB 36 (claimC ((gotC l).1))]) rfl rfl rfl (by kernel_rfl) (by kernel_rfl) ?_
  refine r_assign (v := .int .i64 (((gotC l).2))) rfl rfl rfl ?_
  refine r_doneN (x_then (c_ret (x_end ?_)))
  exact end_same (v := .tuple #[claimV ((gotC l).1), .int .i64 (((gotC l).2))]) (by kernel_rfl) rfl rfl (by simp [keptB, rdB]) ⟨(argV_p (by kernel_rfl) rfl), rfl, trivial⟩
end Go.Flat
