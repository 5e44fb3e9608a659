/- Walks and plain laws: what each theorem says, within the bounds that it names. -/
import Derived.Test.YthfklplpfbmkgaaDoorH20
import Derived.Test.YthfklplpfbmkgaaDoorH10
set_option linter.unusedVariables false
set_option linter.unusedSimpArgs false
set_option maxRecDepth 20000
namespace Go.Flat
open Go.Proofs
variable {G : Glob}
def b54 : Bs := ([1, 0, 0, 1, 1, 2, 0, 0, 1, 1, 3, 0, 0, 0, 4, 0, 0, 32, 0, 0, 0, 0, 0, 0, 0, 0, 0, 0, 0, 0, 0, 0, 0, 0, 0, 0, 0, 0, 0, 0, 0, 0, 0, 0, 0, 0, 0, 0, 0, 0, 5, 0, 0, 0] : List Nat).map (BitVec.ofNat 8)
theorem b54_len : b54.length = 54 := rfl
def b14 : ByteArray := ⟨#[1, 0, 0, 1, 1, 2, 0, 0, 1, 1, 3, 0, 0, 0]⟩
theorem one_b54 : bytesR (headL oneH) = b54 := by kernel_rfl
theorem get54 : (getH b54).2 = 0 ∧ eqHead (getH b54).1 oneH = true := ⟨by kernel_rfl, by kernel_rfl⟩
theorem get53 : (getH (b54.take 53)).2 = 70 := by kernel_rfl
theorem Put_one : CallL Tryd.prog G 14 [headV oneH] [] (.tuple #[slv 0 0 54 54, .int .i64 0]) [rowB b54] := by
  have h := Put_ok (G := G) oneH
  rw [putH_one oneH_right, one_b54] at h
  exact h
def h54 : Head := (getH b54).1
def h53 : Head := (getH (b54.take 53)).1
theorem Get_one {c : Nat} (hc : 54 ≤ c := by omega) : CallL Tryd.prog G 19 [slv 0 0 54 c] [rdB b54] (.tuple #[headV h54, .int .i64 0]) [rdB b54] := by
  have h := HGet_ok (G := G) b54 54 c rfl hc (by decide)
  rw [get54.1] at h; exact h
theorem Get_53 {c : Nat} (hc : 53 ≤ c := by omega) : CallL Tryd.prog G 19 [slv 0 0 53 c] [rdB ((b54.drop 0).take 53)] (.tuple #[headV h53, .int .i64 70]) [rdB ((b54.drop 0).take 53)] := by
  have h := HGet_ok (G := G) (b54.take 53) 53 c rfl hc (by decide)
  rw [get53] at h; exact h
theorem Check_one : CallL Tryd.prog G 32 [headV oneH] [] (.int .i64 0) [] := by
  have h := Check_ok (G := G) oneH
  rw [show checkE oneH = 0 from by kernel_rfl] at h; exact h
theorem Check_zero : CallL Tryd.prog G 32 [headV ⟨0, 0, 0, dz, 0⟩] [] (.int .i64 70) [] := by
  have h := Check_ok (G := G) ⟨0, 0, 0, dz, 0⟩
  rw [show checkE ⟨0, 0, 0, dz, 0⟩ = 70 from by kernel_rfl] at h; exact h
theorem e54 : eqHead h54 oneH = true := get54.2
theorem s14 : sameT (strOf ((b54.drop 0).take 14)) b14 = true := by kernel_rfl
theorem lays_ok  : CallL Tryd.prog G 13 [] [] (.bool true) [] := by
  refine walk (fn := Tryd.f13) (nt := 57) rfl rfl rfl rfl ?_
  refine c_hole 3 (H' := [hole, hole, hole]) rfl ?_
  refine c_seq (c_reg ?_)
  refine r_assign (v := .bool false) rfl rfl rfl ?_
  refine r_doneN (x_then (c_seq (c_reg ?_)))
  refine r_callP (one_ok (G := G)) (vals := []) (res' := headV oneH) rfl rfl rfl rfl rfl (by kernel_rfl) ?_
  refine r_callN (e := []) (nid := 0) (Put_one (G := G)) (vals := [headV oneH]) (v := .tuple #[slv 0 0 54 54, .int .i64 0]) (H' := [rowB b54, hole, hole]) rfl rfl rfl rfl rfl rfl rfl ⟨⟨rfl, trivial⟩, trivial, rfl, rfl, rfl⟩ (by kernel_rfl) (by kernel_rfl) ?_
  refine r_move (v := .tuple #[slv 0 0 54 54, .int .i64 0]) rfl rfl rfl ?_
  refine r_extract (vs := #[slv 0 0 54 54, .int .i64 0]) (v := slv 0 0 54 54) rfl rfl rfl rfl ?_
  refine r_extract (vs := #[slv 0 0 54 54, .int .i64 0]) (v := .int .i64 0) rfl rfl rfl rfl ?_
  refine r_assign (v := slv 0 0 54 54) rfl rfl rfl ?_
  refine r_assign (v := .int .i64 0) rfl rfl rfl ?_
  refine r_doneN (x_then (c_seq (c_seq (c_reg ?_))))
  refine r_move (v := .int .i64 0) rfl rfl rfl ?_
  refine r_bin (v := .bool false) (vx := .int .i64 0) (vy := .int .i64 0) rfl rfl rfl rfl (neq_f (by omega)) ?_
  refine r_move (v := .bool false) rfl rfl rfl ?_
  refine r_move (v := slv 0 0 54 54) rfl rfl rfl ?_
  refine r_len (p := slv 0 0 54 54) (v := .int .i64 54) rfl rfl rfl rfl ?_
  refine r_bin (v := .bool false) (vx := .int .i64 54) (vy := .int .i64 54) rfl rfl rfl rfl (neq_f (by omega)) ?_
  refine r_pick (v := .bool false) rfl rfl rfl ?_
  refine r_move (v := .bool false) rfl rfl rfl ?_
  refine r_move (v := slv 0 0 54 54) rfl rfl rfl ?_
  refine r_slice (p := slv 0 0 54 54) (vl := none) (vh := some (.int .i64 14)) (v := slv 0 0 14 54) rfl rfl rfl rfl rfl (slice_hi (h := 14) rfl rfl (by omega) (by omega) rfl) ?_
  refine r_str (p := slv 0 0 14 54) (v := .string (strOf ((b54.drop 0).take 14))) rfl rfl rfl (str_row rfl rfl rfl rfl rfl (by have := b54_len; omega) rfl) ?_
  refine r_bin (v := .bool false) (vx := .string (strOf ((b54.drop 0).take 14))) (vy := .string b14) rfl rfl rfl rfl (Eq.trans (neq_str _ _) (by rw [s14] <;> rfl)) ?_
  refine r_pick (v := .bool false) rfl rfl rfl ?_
  refine r_doneN (x_then (c_false rfl (c_skip (x_then (c_seq (c_reg ?_))))))
  refine r_move (v := slv 0 0 54 54) rfl rfl rfl ?_
  refine r_callN (e := [some (0, 0)]) (nid := 0) (Get_one (G := G) (c := 54) (by decide)) (vals := [slv 0 0 54 54]) (v := .tuple #[headV h54, .int .i64 0]) (H' := [rowB b54, hole, hole]) rfl rfl rfl rfl rfl rfl rfl ⟨⟨⟨rfl, rfl, rfl, by first | omega | exact Nat.le_refl _, by first | omega | exact Nat.le_refl _⟩, trivial⟩, ⟨(emb_rdW rfl), trivial⟩, rfl, rfl, rfl⟩ (by kernel_rfl) (by kernel_rfl) ?_
  refine r_move (v := .tuple #[headV h54, .int .i64 0]) rfl rfl rfl ?_
  refine r_extract (vs := #[headV h54, .int .i64 0]) (v := headV h54) rfl rfl rfl rfl ?_
  refine r_extract (vs := #[headV h54, .int .i64 0]) (v := .int .i64 0) rfl rfl rfl rfl ?_
  refine r_alloc (b := bxB 36 (headC (⟨0, 0, 0, dz, 0⟩ : Head))) (nid := 1) (H' := [rowB b54, bxB 36 (headC (⟨0, 0, 0, dz, 0⟩ : Head)), hole]) rfl rfl (by kernel_rfl) (by kernel_rfl) ?_
  refine r_store (p := pt 1 0) (v := headV h54) (b := 1) (blk := bxB 36 (headC h54)) (H' := [rowB b54, bxB 36 (headC h54), hole]) rfl rfl rfl (by kernel_rfl) (by kernel_rfl) ?_
  refine r_assign (v := .int .i64 0) rfl rfl rfl ?_
  refine r_doneN (x_then (c_seq (c_reg ?_)))
  refine r_move (v := slv 0 0 54 54) rfl rfl rfl ?_
  refine r_slice (p := slv 0 0 54 54) (vl := none) (vh := some (.int .i64 53)) (v := slv 0 0 53 54) rfl rfl rfl rfl rfl (slice_hi (h := 53) rfl rfl (by omega) (by omega) rfl) ?_
  refine r_callN (e := [some (0, 0)]) (nid := 0) (Get_53 (G := G) (c := 54) (by decide)) (vals := [slv 0 0 53 54]) (v := .tuple #[headV h53, .int .i64 70]) (H' := [rowB b54, bxB 36 (headC h54), hole]) rfl rfl rfl rfl rfl rfl rfl ⟨⟨⟨rfl, by omega, rfl, by omega, by omega⟩, trivial⟩, ⟨(emb_rdS rfl (.inr rfl) (by have := b54_len; omega)), trivial⟩, rfl, rfl, rfl⟩ (by kernel_rfl) (by kernel_rfl) ?_
  refine r_move (v := .tuple #[headV h53, .int .i64 70]) rfl rfl rfl ?_
  refine r_extract (vs := #[headV h53, .int .i64 70]) (v := headV h53) rfl rfl rfl rfl ?_
  refine r_extract (vs := #[headV h53, .int .i64 70]) (v := .int .i64 70) rfl rfl rfl rfl ?_
  refine r_alloc (b := bxB 36 (headC (⟨0, 0, 0, dz, 0⟩ : Head))) (nid := 2) (H' := [rowB b54, bxB 36 (headC h54), bxB 36 (headC (⟨0, 0, 0, dz, 0⟩ : Head))]) rfl rfl (by kernel_rfl) (by kernel_rfl) ?_
  refine r_store (p := pt 2 0) (v := headV h53) (b := 2) (blk := bxB 36 (headC h53)) (H' := [rowB b54, bxB 36 (headC h54), bxB 36 (headC h53)]) rfl rfl rfl (by kernel_rfl) (by kernel_rfl) ?_
  refine r_assign (v := .int .i64 70) rfl rfl rfl ?_
  refine r_doneN (x_then (c_seq ?_))
  refine c_drawK (by kernel_rfl) ?_
  refine r_move (v := .int .i64 0) rfl rfl rfl ?_
  refine r_bin (v := .bool true) (vx := .int .i64 0) (vy := .int .i64 0) rfl rfl rfl rfl (eql_t (by omega)) ?_
  refine r_move (v := .bool true) rfl rfl rfl ?_
  refine r_load (p := pt 1 0) (v := headV h54) rfl rfl rfl (by kernel_rfl) ?_
  refine r_callP (one_ok (G := G)) (vals := []) (res' := headV oneH) rfl rfl rfl rfl rfl (by kernel_rfl) ?_
  refine r_bin (v := .bool true) (vx := headV h54) (vy := headV oneH) rfl rfl rfl rfl (Eq.trans (eql_Head h54 oneH) (by rw [e54] <;> rfl)) ?_
  refine r_pick (v := .bool true) rfl rfl rfl ?_
  refine r_move (v := .bool true) rfl rfl rfl ?_
  refine r_move (v := .int .i64 70) rfl rfl rfl ?_
  refine r_bin (v := .bool true) (vx := .int .i64 70) (vy := .int .i64 70) rfl rfl rfl rfl (eql_t (by omega)) ?_
  refine r_pick (v := .bool true) rfl rfl rfl ?_
  refine r_move (v := .bool true) rfl rfl rfl ?_
  refine r_callP (one_ok (G := G)) (vals := []) (res' := headV oneH) rfl rfl rfl rfl rfl (by kernel_rfl) ?_
  refine r_callP (Check_one (G := G)) (vals := [headV oneH]) (res' := .int .i64 0) rfl rfl rfl rfl rfl rfl ?_
  refine r_bin (v := .bool true) (vx := .int .i64 0) (vy := .int .i64 0) rfl rfl rfl rfl (eql_t (by omega)) ?_
  refine r_pick (v := .bool true) rfl rfl rfl ?_
  refine r_move (v := .bool true) rfl rfl rfl ?_
  refine r_build (vs := []) (v := headV (⟨0, 0, 0, dz, 0⟩ : Head)) rfl rfl rfl (by kernel_rfl) ?_
  refine r_callP (Check_zero (G := G)) (vals := [headV (⟨0, 0, 0, dz, 0⟩ : Head)]) (res' := .int .i64 70) rfl rfl rfl rfl rfl rfl ?_
  refine r_bin (v := .bool true) (vx := .int .i64 70) (vy := .int .i64 70) rfl rfl rfl rfl (eql_t (by omega)) ?_
  refine r_pick (v := .bool true) rfl rfl rfl ?_
  refine r_assign (v := .bool true) rfl rfl rfl ?_
  refine r_doneK (by kernel_rfl) ?_
  refine x_then (c_ret (x_end ?_))
  exact end_pv (v := .bool true) rfl rfl rfl
end Go.Flat
