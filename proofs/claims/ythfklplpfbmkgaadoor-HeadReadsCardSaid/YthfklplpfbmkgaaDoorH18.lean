/- Walks and plain laws: what each theorem says, within the bounds that it names. -/
import Derived.Test.YthfklplpfbmkgaaDoorH17
set_option linter.unusedVariables false
set_option linter.unusedSimpArgs false
set_option maxRecDepth 20000
namespace Go.Flat
open Go.Proofs
variable {G : Glob}
def cpD (s : ByteArray) : D := fun i => if i < s.size then (bl s).getD i 0 else 0
def digD (ok : Bool) (s : ByteArray) : D := if ok = true then cpD s else dz
theorem copy_str {P : Program} {H : List Blk} {t : TypeId} {b c by_ : Nat} {zc : List Value} {s : ByteArray} (ht : sliceTyA P t = some (1, zc, by_)) (hb : H[b]? = some (dgB dz)) : copyD P H t (slv b 0 32 c) (.string s) = some (.int .i64 (min s.size 32 : Nat), b, dgB (cpD s)) := by
  have hs : srcA H 1 (.string s) = some (s.size, bytesV s) := rfl
  have hl : (bytesV s).length = s.size := bytesV_length s
  have hcl : (dgB dz).cells.length = 32 := rfl
  have hp : okCells (dgB dz).pur ((bytesV s).take (min s.size 32 * 1)) = true := by
    show ((bytesV s).take (min s.size 32 * 1)).all pureC = true
    rw [List.all_eq_true]
    intro v hv
    exact List.all_eq_true.1 (bytesV_pure s) v (List.mem_of_mem_take hv)
  unfold copyD
  rw [ht]
  simp only [hs, Option.bind_some, hb]
  rw [if_pos (by
    simp only [Bool.and_eq_true, decide_eq_true_eq]
    refine ⟨⟨⟨rfl, hp⟩, by rw [hcl]; omega⟩, by rw [List.length_take, hl]; omega⟩)]
  have e : splice (dgB dz).cells 0 ((bytesV s).take (min s.size 32 * 1)) = rowE w8 32 (cpD s) := by
    unfold splice
    rw [List.take_zero, List.nil_append, List.length_take, hl, bytesV_bl]
    apply List.ext_getElem?
    intro i
    have hbl : (bl s).length = s.size := bl_len s
    by_cases hi : i < min s.size 32
    · rw [List.getElem?_append_left (by simp [hbl]; omega), List.getElem?_take, if_pos (by omega), rowE_get (by omega), List.getElem?_map, List.getElem?_eq_getElem (by omega)]
      simp only [Option.map_some, cpD]
      rw [if_pos (by omega), List.getD_eq_getElem?_getD, List.getElem?_eq_getElem (by omega)]; rfl
    · rw [List.getElem?_append_right (by simp [hbl]; omega), List.getElem?_drop]
      simp only [List.length_take, List.length_map, hbl]
      by_cases h32 : i < 32
      · have e2 : 0 + min (min s.size 32 * 1) s.size + (i - min (min s.size 32 * 1) s.size) = i := by omega
        rw [e2, show (dgB dz).cells = rowE w8 32 dz from rfl, rowE_get h32, rowE_get h32]
        simp only [cpD]
        rw [if_neg (by omega)]; rfl
      · rw [List.getElem?_eq_none (by rw [hcl]; omega), List.getElem?_eq_none (by rw [rowE_len]; omega)]
  rw [e]
  rfl
theorem digest_ok (ls : List ByteArray) (L p : Nat) (ok : Bool) (hL : ls.length = L) (hp : p ≤ L) : CallL Tryd.prog G 40 [pt 0 0, pt 2 0] [rfB (slv 1 p (remP L p) (remP L p)), strB ls, bxB 1 ([.bool ok])] (dgV (digD (ok && decide (p < L)) (ls.getD p ⟨#[]⟩))) [rfB (slv 1 (nxP L p) (remP L (nxP L p)) (remP L (nxP L p))), strB ls, bxB 1 [.bool (((ok && decide (p < L)) && decide ((ls.getD p ⟨#[]⟩).size = 32)))]] := by
  refine walk (fn := Tryd.f40) (nt := 29) rfl rfl rfl rfl ?_
  refine c_hole 2 (H' := [rfB (slv 1 p (remP L p) (remP L p)), strB ls, bxB 1 ([.bool ok]), hole, hole]) rfl ?_
  refine c_seq (c_reg ?_)
  refine r_alloc (b := dgB dz) (nid := 3) (H' := [rfB (slv 1 p (remP L p) (remP L p)), strB ls, bxB 1 ([.bool ok]), dgB dz, hole]) rfl rfl (by kernel_rfl) (by kernel_rfl) ?_
  refine r_doneN (x_then (c_seq (c_reg ?_)))
  refine r_alloc (b := dgB dz) (nid := 4) (H' := [rfB (slv 1 p (remP L p) (remP L p)), strB ls, bxB 1 ([.bool ok]), dgB dz, dgB dz]) rfl rfl (by kernel_rfl) (by kernel_rfl) ?_
  refine r_doneN (x_then (c_seq (c_reg ?_)))
  refine r_move (v := pt 0 0) rfl rfl rfl ?_
  refine r_move (v := pt 2 0) rfl rfl rfl ?_
  have hnx2 := nxP_le (L := L) (p := p) (by omega)
  refine r_callN (e := [some (0, 0), some (1, 0), some (2, 0)]) (nid := 0) (next_ok (G := G) ls L p ok hL (by omega)) (vals := [pt 0 0, pt 2 0]) (v := .string (ls.getD p ⟨#[]⟩)) (H' := [rfB (slv 1 (nxP L p) (remP L (nxP L p)) (remP L (nxP L p))), strB ls, bxB 1 ([.bool (ok && decide (p < L))]), dgB dz, dgB dz]) rfl rfl rfl rfl rfl rfl rfl ⟨⟨⟨rfl, rfl⟩, ⟨rfl, rfl⟩, trivial⟩, ⟨(emb_wr rfl rfl rfl (by show [_] = [renC _ _]; simp [renC, renC0])), (emb_str rfl), (emb_wr rfl rfl rfl rfl), trivial⟩, rfl, rfl, rfl⟩ rfl (Eq.trans (b := [rfB (slv 1 (0 + (nxP L p)) (remP L (nxP L p)) (remP L (nxP L p))), strB ls, bxB 1 ([.bool (ok && decide (p < L))]), dgB dz, dgB dz]) (by kernel_rfl) (by rw [Nat.zero_add])) ?_
  refine r_assign (v := .string (ls.getD p ⟨#[]⟩)) rfl rfl rfl ?_
  refine r_doneN (x_then (c_seq (c_reg ?_)))
  refine r_move (v := pt 2 0) rfl rfl rfl ?_
  refine r_move (v := pt 2 0) rfl rfl rfl ?_
  refine r_nilCheck (p := pt 2 0) (v := pt 2 0) rfl rfl rfl rfl ?_
  refine r_load (p := pt 2 0) (v := .bool (ok && decide (p < L))) rfl rfl rfl (by kernel_rfl) ?_
  refine r_move (v := .bool (ok && decide (p < L))) rfl rfl rfl ?_
  rcases Bool.eq_false_or_eq_true (ok && decide (p < L)) with h1 | h1
  refine r_slice (p := pt 4 0) (vl := none) (vh := none) (v := slv 4 0 32 32) (by exact congrArg (fun b => some (b == true)) h1) rfl rfl rfl rfl rfl ?_
  refine r_move (v := .string (ls.getD p ⟨#[]⟩)) (by exact congrArg (fun b => some (b == true)) h1) rfl rfl ?_
  refine r_copy (p := slv 4 0 32 32) (q := .string (ls.getD p ⟨#[]⟩)) (v := .int .i64 (((min (ls.getD p ⟨#[]⟩).size 32) : Nat) : Int)) (b := 4) (blk := dgB (cpD (ls.getD p ⟨#[]⟩))) (H' := [rfB (slv 1 (nxP L p) (remP L (nxP L p)) (remP L (nxP L p))), strB ls, bxB 1 ([.bool (ok && decide (p < L))]), dgB dz, dgB (cpD (ls.getD p ⟨#[]⟩))]) (by exact congrArg (fun b => some (b == true)) h1) rfl rfl rfl (copy_str rfl rfl) (by kernel_rfl) ?_
  refine r_move (v := .string (ls.getD p ⟨#[]⟩)) (by exact congrArg (fun b => some (b == true)) h1) rfl rfl ?_
  refine r_len (p := .string (ls.getD p ⟨#[]⟩)) (v := .int .i64 ((((ls.getD p ⟨#[]⟩).size) : Nat) : Int)) (by exact congrArg (fun b => some (b == true)) h1) rfl rfl rfl ?_
  by_cases h2 : (((min (ls.getD p ⟨#[]⟩).size 32) : Nat) : Int) = ((((ls.getD p ⟨#[]⟩).size) : Nat) : Int)
  refine r_bin (v := .bool true) (vx := .int .i64 (((min (ls.getD p ⟨#[]⟩).size 32) : Nat) : Int)) (vy := .int .i64 ((((ls.getD p ⟨#[]⟩).size) : Nat) : Int)) (by exact congrArg (fun b => some (b == true)) h1) rfl rfl rfl (eql_t (by omega)) ?_
  refine r_pick (v := .bool true) rfl rfl (by show some (if _ then _ else _) = _; rw [h1] <;> rfl) ?_
  refine r_move (v := .bool true) rfl rfl rfl ?_
  refine r_move (v := .string (ls.getD p ⟨#[]⟩)) rfl rfl rfl ?_
  refine r_len (p := .string (ls.getD p ⟨#[]⟩)) (v := .int .i64 ((((ls.getD p ⟨#[]⟩).size) : Nat) : Int)) rfl rfl rfl rfl ?_
  by_cases h3 : ((((ls.getD p ⟨#[]⟩).size) : Nat) : Int) = 32
  refine r_bin (v := .bool true) (vx := .int .i64 ((((ls.getD p ⟨#[]⟩).size) : Nat) : Int)) (vy := .int .i64 32) rfl rfl rfl rfl (eql_t (by omega)) ?_
  refine r_pick (v := .bool true) rfl rfl rfl ?_
  refine r_nilCheck (p := pt 2 0) (v := pt 2 0) rfl rfl rfl rfl ?_
  refine r_store (p := pt 2 0) (v := .bool true) (b := 2) (blk := bxB 1 ([.bool true])) (H' := [rfB (slv 1 (nxP L p) (remP L (nxP L p)) (remP L (nxP L p))), strB ls, bxB 1 ([.bool true]), dgB dz, dgB (cpD (ls.getD p ⟨#[]⟩))]) rfl rfl rfl (by kernel_rfl) (by kernel_rfl) ?_
  refine r_doneN (x_then (c_seq (c_reg ?_)))
  refine r_load (p := pt 4 0) (v := dgV (cpD (ls.getD p ⟨#[]⟩))) rfl rfl rfl (by kernel_rfl) ?_
  refine r_store (p := pt 3 0) (v := dgV (cpD (ls.getD p ⟨#[]⟩))) (b := 3) (blk := dgB (cpD (ls.getD p ⟨#[]⟩))) (H' := [rfB (slv 1 (nxP L p) (remP L (nxP L p)) (remP L (nxP L p))), strB ls, bxB 1 ([.bool true]), dgB (cpD (ls.getD p ⟨#[]⟩)), dgB (cpD (ls.getD p ⟨#[]⟩))]) rfl rfl rfl (by kernel_rfl) (by kernel_rfl) ?_
  refine r_doneN (x_then (c_ret (x_end ?_)))
  rw [show ((ok && decide (p < L)) && decide ((ls.getD p ⟨#[]⟩).size = 32)) = true from by simp only [*, Bool.true_and]; exact decide_eq_true (by omega)]
  rw [show digD (ok && decide (p < L)) (ls.getD p ⟨#[]⟩) = (cpD (ls.getD p ⟨#[]⟩)) from by simp only [*]; rfl]
  exact end_same (v := dgV (cpD (ls.getD p ⟨#[]⟩))) (by kernel_rfl) rfl rfl (by simp [keptB, strB, bxB, rfB, okId, okId0]) (argV_pure (pure_row fun _ => rfl) rfl)
  refine r_bin (v := .bool false) (vx := .int .i64 ((((ls.getD p ⟨#[]⟩).size) : Nat) : Int)) (vy := .int .i64 32) rfl rfl rfl rfl (eql_f (by omega)) ?_
  refine r_pick (v := .bool false) rfl rfl rfl ?_
  refine r_nilCheck (p := pt 2 0) (v := pt 2 0) rfl rfl rfl rfl ?_
  refine r_store (p := pt 2 0) (v := .bool false) (b := 2) (blk := bxB 1 ([.bool false])) (H' := [rfB (slv 1 (nxP L p) (remP L (nxP L p)) (remP L (nxP L p))), strB ls, bxB 1 ([.bool false]), dgB dz, dgB (cpD (ls.getD p ⟨#[]⟩))]) rfl rfl rfl (by kernel_rfl) (by kernel_rfl) ?_
  refine r_doneN (x_then (c_seq (c_reg ?_)))
  refine r_load (p := pt 4 0) (v := dgV (cpD (ls.getD p ⟨#[]⟩))) rfl rfl rfl (by kernel_rfl) ?_
  refine r_store (p := pt 3 0) (v := dgV (cpD (ls.getD p ⟨#[]⟩))) (b := 3) (blk := dgB (cpD (ls.getD p ⟨#[]⟩))) (H' := [rfB (slv 1 (nxP L p) (remP L (nxP L p)) (remP L (nxP L p))), strB ls, bxB 1 ([.bool false]), dgB (cpD (ls.getD p ⟨#[]⟩)), dgB (cpD (ls.getD p ⟨#[]⟩))]) rfl rfl rfl (by kernel_rfl) (by kernel_rfl) ?_
  refine r_doneN (x_then (c_ret (x_end ?_)))
  rw [show ((ok && decide (p < L)) && decide ((ls.getD p ⟨#[]⟩).size = 32)) = false from by simp only [*, Bool.true_and, Bool.false_and]; try exact decide_eq_false (by omega)]
  rw [show digD (ok && decide (p < L)) (ls.getD p ⟨#[]⟩) = (cpD (ls.getD p ⟨#[]⟩)) from by simp only [*]; rfl]
  exact end_same (v := dgV (cpD (ls.getD p ⟨#[]⟩))) (by kernel_rfl) rfl rfl (by simp [keptB, strB, bxB, rfB, okId, okId0]) (argV_pure (pure_row fun _ => rfl) rfl)
  refine r_bin (v := .bool false) (vx := .int .i64 (((min (ls.getD p ⟨#[]⟩).size 32) : Nat) : Int)) (vy := .int .i64 ((((ls.getD p ⟨#[]⟩).size) : Nat) : Int)) (by exact congrArg (fun b => some (b == true)) h1) rfl rfl rfl (eql_f (by omega)) ?_
  refine r_pick (v := .bool false) rfl rfl (by show some (if _ then _ else _) = _; rw [h1] <;> rfl) ?_
  refine r_move (v := .bool false) rfl rfl rfl ?_
  refine r_skip rfl rfl (r_skip rfl rfl (r_skip rfl rfl ?_))
  refine r_pick (v := .bool false) rfl rfl rfl ?_
  refine r_nilCheck (p := pt 2 0) (v := pt 2 0) rfl rfl rfl rfl ?_
  refine r_store (p := pt 2 0) (v := .bool false) (b := 2) (blk := bxB 1 ([.bool false])) (H' := [rfB (slv 1 (nxP L p) (remP L (nxP L p)) (remP L (nxP L p))), strB ls, bxB 1 ([.bool false]), dgB dz, dgB (cpD (ls.getD p ⟨#[]⟩))]) rfl rfl rfl (by kernel_rfl) (by kernel_rfl) ?_
  refine r_doneN (x_then (c_seq (c_reg ?_)))
  refine r_load (p := pt 4 0) (v := dgV (cpD (ls.getD p ⟨#[]⟩))) rfl rfl rfl (by kernel_rfl) ?_
  refine r_store (p := pt 3 0) (v := dgV (cpD (ls.getD p ⟨#[]⟩))) (b := 3) (blk := dgB (cpD (ls.getD p ⟨#[]⟩))) (H' := [rfB (slv 1 (nxP L p) (remP L (nxP L p)) (remP L (nxP L p))), strB ls, bxB 1 ([.bool false]), dgB (cpD (ls.getD p ⟨#[]⟩)), dgB (cpD (ls.getD p ⟨#[]⟩))]) rfl rfl rfl (by kernel_rfl) (by kernel_rfl) ?_
  refine r_doneN (x_then (c_ret (x_end ?_)))
  rw [show ((ok && decide (p < L)) && decide ((ls.getD p ⟨#[]⟩).size = 32)) = false from by simp only [*, Bool.true_and, Bool.false_and]; try exact decide_eq_false (by omega)]
  rw [show digD (ok && decide (p < L)) (ls.getD p ⟨#[]⟩) = (cpD (ls.getD p ⟨#[]⟩)) from by simp only [*]; rfl]
  exact end_same (v := dgV (cpD (ls.getD p ⟨#[]⟩))) (by kernel_rfl) rfl rfl (by simp [keptB, strB, bxB, rfB, okId, okId0]) (argV_pure (pure_row fun _ => rfl) rfl)
  refine r_skip (by exact congrArg (fun b => some (b == true)) h1) rfl ?_
  refine r_skip (by exact congrArg (fun b => some (b == true)) h1) rfl ?_
  refine r_skip (by exact congrArg (fun b => some (b == true)) h1) rfl ?_
  refine r_skip (by exact congrArg (fun b => some (b == true)) h1) rfl ?_
  refine r_skip (by exact congrArg (fun b => some (b == true)) h1) rfl ?_
  refine r_skip (by exact congrArg (fun b => some (b == true)) h1) rfl ?_
  refine r_pick (v := .bool false) rfl rfl (by show some (if _ then _ else _) = _; rw [h1] <;> rfl) ?_
  refine r_move (v := .bool false) rfl rfl rfl ?_
  refine r_skip rfl rfl (r_skip rfl rfl (r_skip rfl rfl ?_))
  refine r_pick (v := .bool false) rfl rfl rfl ?_
  refine r_nilCheck (p := pt 2 0) (v := pt 2 0) rfl rfl rfl rfl ?_
  refine r_store (p := pt 2 0) (v := .bool false) (b := 2) (blk := bxB 1 ([.bool false])) (H' := [rfB (slv 1 (nxP L p) (remP L (nxP L p)) (remP L (nxP L p))), strB ls, bxB 1 ([.bool false]), dgB dz, dgB dz]) rfl rfl rfl (by kernel_rfl) (by kernel_rfl) ?_
  refine r_doneN (x_then (c_seq (c_reg ?_)))
  refine r_load (p := pt 4 0) (v := dgV dz) rfl rfl rfl (by kernel_rfl) ?_
  refine r_store (p := pt 3 0) (v := dgV dz) (b := 3) (blk := dgB dz) (H' := [rfB (slv 1 (nxP L p) (remP L (nxP L p)) (remP L (nxP L p))), strB ls, bxB 1 ([.bool false]), dgB dz, dgB dz]) rfl rfl rfl (by kernel_rfl) (by kernel_rfl) ?_
  refine r_doneN (x_then (c_ret (x_end ?_)))
  rw [show ((ok && decide (p < L)) && decide ((ls.getD p ⟨#[]⟩).size = 32)) = false from by simp only [*, Bool.true_and, Bool.false_and]; try exact decide_eq_false (by omega)]
  rw [show digD (ok && decide (p < L)) (ls.getD p ⟨#[]⟩) = dz from by simp only [*]; rfl]
  exact end_same (v := dgV dz) (by kernel_rfl) rfl rfl (by simp [keptB, strB, bxB, rfB, okId, okId0]) (argV_pure (pure_row fun _ => rfl) rfl)
end Go.Flat
