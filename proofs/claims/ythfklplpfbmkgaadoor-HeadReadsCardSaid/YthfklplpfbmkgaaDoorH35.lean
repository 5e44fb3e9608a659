/- Walks and plain laws: what each theorem says, within the bounds that it names. -/
import Derived.Test.YthfklplpfbmkgaaDoorH34
import Derived.Test.YthfklplpfbmkgaaDoorH25
import Derived.Test.YthfklplpfbmkgaaDoorH21
set_option linter.unusedVariables false
set_option linter.unusedSimpArgs false
set_option maxRecDepth 20000
namespace Go.Flat
open Go.Proofs
variable {G : Glob}
theorem parts_size {l : Bs} {M n : Nat} (h : l.length ≤ M) (i : Nat) : ((partsR l n).1.getD i ⟨#[]⟩).size ≤ M := by
  unfold partsR
  split
  · exact of_size h i
  · exact Nat.zero_le _
theorem rHGet_ok' (l : Bs) (n c : Nat) (hn : l.length = n) (hc : n ≤ c) (hb : n ≤ 1099511627776) (hcc : c ≤ 9223372036854775807) : CallL Tryd.prog G 20 [slv 0 0 n c] [rdB l] (.tuple #[headV (getH l).1, .int .i64 (getH l).2]) [rdB l] := by
  subst hn; exact rHGet_ok l c hc hb hcc
theorem getS_bad {l : Bs} (h : (getS l).2 ≠ 0) : getS l = (⟨⟨0, 0, 0, dz, 0⟩, 0, dz⟩, 70) := by
  unfold getS at h ⊢
  generalize ofF l = p at h ⊢
  split at h
  · rename_i q1
    rw [if_pos q1]
    split at h
    · rename_i q2; rw [if_pos q2]
    · rename_i q2
      rw [if_neg q2]
      split at h
      · rename_i q3; rw [if_pos q3]
      · rename_i q3
        rw [if_neg q3]
        split at h
        · rename_i q4
          rw [if_pos q4]
          split at h
          · exact absurd rfl h
          · rename_i q5; rw [if_neg q5]
        · rename_i q4; rw [if_neg q4]
  · rename_i q1; rw [if_neg q1]
def threeS (ls : List ByteArray) : Signed := ⟨(getH (bl (ls.getD 0 ⟨#[]⟩))).1, vR (ls.getD 1 ⟨#[]⟩), (digR (ls.getD 2 ⟨#[]⟩)).1⟩
theorem getS_yes {l : Bs} (h1 : (partsR l 3).2 = true) (h0 : (getH (bl ((partsR l 3).1.getD 0 ⟨#[]⟩))).2 = 0) (h2 : (digR ((partsR l 3).1.getD 2 ⟨#[]⟩)).2 = true) (h3 : mayS (threeS (partsR l 3).1)) : getS l = (threeS (partsR l 3).1, 0) := by
  obtain ⟨q1, q2⟩ := parts_len h1
  generalize (partsR l 3).1 = ls at *
  match ls, q1 with
  | [a, b, c], _ =>
    obtain ⟨d1, d2⟩ := digR_t h2
    have r1 : 1 ≤ vR b ∧ vR b ≤ 3 := h3.2
    have v1 := vR_pos (s := b) (by omega)
    have e2 : (digR c).1 = cpD c := d2
    have hh : getH (bl a) = ((getH (bl a)).1, 0) := Prod.ext rfl h0
    have := getS_three q2 hh v1 d1 r1
    rw [this]
    show ((⟨(getH (bl a)).1, vR b, cpD c⟩ : Signed), (0 : Int)) = (⟨(getH (bl a)).1, vR b, (digR c).1⟩, 0)
    rw [e2]
theorem getS_not {l : Bs} (h : (partsR l 3).2 = false ∨ (getH (bl ((partsR l 3).1.getD 0 ⟨#[]⟩))).2 ≠ 0 ∨ (digR ((partsR l 3).1.getD 2 ⟨#[]⟩)).2 = false ∨ ¬ mayS (threeS (partsR l 3).1)) : getS l = (⟨⟨0, 0, 0, dz, 0⟩, 0, dz⟩, 70) := by
  refine getS_bad fun e => ?_
  obtain ⟨a, b, c, h0, h1, h2, h4, h6, h7⟩ := getS_inv e
  have hp := parts_of h0
  rw [show [a, b, c].length = 3 from rfl] at hp
  rw [hp] at h
  have hd : digR c = (cpD c, true) := if_pos h4
  have e5 : threeS [a, b, c] = (getS l).1 := by
    rw [h6]; show Signed.mk (getH (bl a)).1 (vR b) (digR c).1 = _
    rw [vR_0 h2, hd]
  rcases h with h | h | h | h
  · exact absurd (show true = false from h) (by decide)
  · exact h h1
  · rw [show ([a, b, c], true).1.getD 2 ⟨#[]⟩ = c from rfl, hd] at h; exact absurd (show true = false from h) (by decide)
  · exact h (by rw [e5]; exact h7)
theorem pad_take {b : Bs} {n : Nat} (hn : b.length = n) : ((b ++ List.replicate 7 195#8).drop 0).take n = b := by
  rw [List.drop_zero, List.take_append_of_le_length (by omega), List.take_of_length_le (by omega)]
theorem HGet_x (b : Bs) (n c : Nat) (hn : b.length = n) (hc : n ≤ c) (hb : n ≤ 1099511627776) : CallL Tryd.prog G 19 [slv 0 0 n c] [rdB (((b ++ List.replicate 7 195#8).drop 0).take n)] (.tuple #[headV (getH b).1, .int .i64 (getH b).2]) [rdB (((b ++ List.replicate 7 195#8).drop 0).take n)] := by
  rw [pad_take hn]; exact HGet_ok b n c hn hc hb
theorem HGetSigned_x (b : Bs) (n c : Nat) (hn : b.length = n) (hc : n ≤ c) (hb : n ≤ 1099511627776) : CallL Tryd.prog G 17 [slv 0 0 n c] [rdB (((b ++ List.replicate 7 195#8).drop 0).take n)] (.tuple #[signedV (getS b).1, .int .i64 (getS b).2]) [rdB (((b ++ List.replicate 7 195#8).drop 0).take n)] := by
  rw [pad_take hn]; exact HGetSigned_ok b n c hn hc hb (by omega)
theorem reads_H {b : Bs} (e : (getH b).2 = 0) : sameT (strOf (putH (getH b).1).1) (strOf b) = true := by
  obtain ⟨h1, h2⟩ := putH_getH e
  rw [putH_one h1, h2]; exact sameT_refl _
theorem reads_S {b : Bs} (e : (getS b).2 = 0) : sameT (strOf (putSF (getS b).1).1) (strOf b) = true := by
  obtain ⟨h1, h2⟩ := putS_getS e
  rw [putSF_pos h1, h2]; exact sameT_refl _
def cU8 : Cod (BitVec 8) := ⟨fun b => [w8 b], 1, fun _ => rfl, by decide⟩
theorem rwR_u8 (l : Bs) : rwR cU8 l = rdB l := by
  unfold rwR rdB
  congr 1
  unfold Cod.row cU8
  induction l with
  | nil => rfl
  | cons x l ih => simp at ih ⊢; exact ih
theorem rHGetSigned_ok (l : Bs) (c : Nat) (hc : l.length ≤ c) (hb : l.length ≤ 1099511627776) (hcc : c ≤ 9223372036854775807) : CallL Tryd.prog G 21 [slv 0 0 l.length c] [rdB l] (.tuple #[signedV (getS l).1, .int .i64 (getS l).2]) [rdB l] := by
  refine walk (fn := Tryd.f21) (nt := 53) rfl rfl rfl rfl ?_
  refine c_hole 6 (H' := [rdB l, hole, hole, hole, hole, hole, hole]) rfl ?_
  refine c_seq (c_reg ?_)
  refine r_alloc (b := bxB 69 (signedC (⟨(⟨0, 0, 0, dz, 0⟩ : Head), 0, dz⟩ : Signed))) (nid := 1) (H' := [rdB l, bxB 69 (signedC (⟨(⟨0, 0, 0, dz, 0⟩ : Head), 0, dz⟩ : Signed)), hole, hole, hole, hole, hole]) rfl rfl (by kernel_rfl) (by kernel_rfl) ?_
  refine r_assign (v := .int .i64 0) rfl rfl rfl ?_
  refine r_doneN (x_then (c_seq (c_reg ?_)))
  refine r_move (v := slv 0 0 l.length c) rfl rfl rfl ?_
  refine r_callN (e := [some (0, 0)]) (nid := 2) (rParts_ok (G := G) l c 3 hc hb hcc (by omega)) (vals := [slv 0 0 l.length c, .int .i64 3]) (v := .tuple #[slv 2 0 ((partsR l 3).1.length) ((partsR l 3).1.length), .bool ((partsR l 3).2)]) (H' := [rdB l, bxB 69 (signedC (⟨(⟨0, 0, 0, dz, 0⟩ : Head), 0, dz⟩ : Signed)), txB ((partsR l 3).1), hole, hole, hole, hole]) rfl rfl rfl rfl rfl rfl rfl ⟨⟨⟨rfl, rfl, rfl, by omega, by omega⟩, rfl, trivial⟩, ⟨(emb_rd rfl), trivial⟩, rfl, rfl, rfl⟩ (by kernel_rfl) (by kernel_rfl) ?_
  refine r_move (v := .tuple #[slv 2 0 ((partsR l 3).1.length) ((partsR l 3).1.length), .bool ((partsR l 3).2)]) rfl rfl rfl ?_
  refine r_extract (vs := #[slv 2 0 ((partsR l 3).1.length) ((partsR l 3).1.length), .bool ((partsR l 3).2)]) (v := slv 2 0 ((partsR l 3).1.length) ((partsR l 3).1.length)) rfl rfl rfl rfl ?_
  refine r_extract (vs := #[slv 2 0 ((partsR l 3).1.length) ((partsR l 3).1.length), .bool ((partsR l 3).2)]) (v := .bool ((partsR l 3).2)) rfl rfl rfl rfl ?_
  refine r_assign (v := slv 2 0 ((partsR l 3).1.length) ((partsR l 3).1.length)) rfl rfl rfl ?_
  refine r_assign (v := .bool ((partsR l 3).2)) rfl rfl rfl ?_
  refine r_doneN (x_then (c_seq (c_seq (c_reg ?_))))
  refine r_move (v := .bool ((partsR l 3).2)) rfl rfl rfl ?_
  rcases Bool.eq_false_or_eq_true ((partsR l 3).2) with h1 | h1
  refine r_un (v := .bool false) (vx := .bool ((partsR l 3).2)) rfl rfl rfl (Eq.trans un_not (congrArg (fun b => some (Value.bool !b)) h1)) ?_
  refine r_doneN (x_then (c_false rfl (c_skip (x_then (c_seq ?_)))))
  have hp5 := (parts_len (l := l) (n := 3) (by assumption)).1
  have hs40 := parts_size (n := 3) hb 0
  refine c_reg ?_
  refine r_move (v := slv 2 0 ((partsR l 3).1.length) ((partsR l 3).1.length)) rfl rfl rfl ?_
  refine r_idxS (b := 2) (o := 0) (j := 0) (m := ((partsR l 3).1.length)) (c := ((partsR l 3).1.length)) (sz := 1) (i := 0) (k := .i64) rfl rfl rfl rfl rfl (by omega) (by omega) (by omega) ?_
  refine r_load (p := pt 2 0) (v := .string (((partsR l 3).1).getD 0 ⟨#[]⟩)) rfl rfl rfl (load_tx rfl rfl rfl (by omega)) ?_
  refine r_toBytes (p := .string (((partsR l 3).1).getD 0 ⟨#[]⟩)) (v := slv 3 0 ((((partsR l 3).1).getD 0 ⟨#[]⟩).size) ((((partsR l 3).1).getD 0 ⟨#[]⟩).size)) (blk := rowB (bl (((partsR l 3).1).getD 0 ⟨#[]⟩))) (nid := 3) (H' := [rdB l, bxB 69 (signedC (⟨(⟨0, 0, 0, dz, 0⟩ : Head), 0, dz⟩ : Signed)), txB ((partsR l 3).1), rowB (bl (((partsR l 3).1).getD 0 ⟨#[]⟩)), hole, hole, hole]) rfl rfl rfl (bytes_of rfl rfl rfl) (by kernel_rfl) ?_
  have hsz5 := parts_size (n := 3) hb 0
  refine r_callN (e := [some (3, 0)]) (nid := 0) (rHGet_ok' (G := G) (bl (((partsR l 3).1).getD 0 ⟨#[]⟩)) ((((partsR l 3).1).getD 0 ⟨#[]⟩).size) ((((partsR l 3).1).getD 0 ⟨#[]⟩).size) (bl_len (((partsR l 3).1).getD 0 ⟨#[]⟩)) (by omega) hsz5 (by omega)) (vals := [slv 3 0 ((((partsR l 3).1).getD 0 ⟨#[]⟩).size) ((((partsR l 3).1).getD 0 ⟨#[]⟩).size)]) (v := .tuple #[headV ((getH (bl (((partsR l 3).1).getD 0 ⟨#[]⟩))).1), .int .i64 (((getH (bl (((partsR l 3).1).getD 0 ⟨#[]⟩))).2))]) (H' := [rdB l, bxB 69 (signedC (⟨(⟨0, 0, 0, dz, 0⟩ : Head), 0, dz⟩ : Signed)), txB ((partsR l 3).1), rowB (bl (((partsR l 3).1).getD 0 ⟨#[]⟩)), hole, hole, hole]) rfl rfl rfl rfl rfl rfl rfl ⟨⟨⟨rfl, rfl, rfl, by first | omega | exact Nat.le_refl _, by first | omega | exact Nat.le_refl _⟩, trivial⟩, ⟨(emb_rdW rfl), trivial⟩, rfl, rfl, rfl⟩ (by kernel_rfl) (by kernel_rfl) ?_
  refine r_move (v := .tuple #[headV ((getH (bl (((partsR l 3).1).getD 0 ⟨#[]⟩))).1), .int .i64 (((getH (bl (((partsR l 3).1).getD 0 ⟨#[]⟩))).2))]) rfl rfl rfl ?_
  refine r_extract (vs := #[headV ((getH (bl (((partsR l 3).1).getD 0 ⟨#[]⟩))).1), .int .i64 (((getH (bl (((partsR l 3).1).getD 0 ⟨#[]⟩))).2))]) (v := headV ((getH (bl (((partsR l 3).1).getD 0 ⟨#[]⟩))).1)) rfl rfl rfl rfl ?_
  refine r_extract (vs := #[headV ((getH (bl (((partsR l 3).1).getD 0 ⟨#[]⟩))).1), .int .i64 (((getH (bl (((partsR l 3).1).getD 0 ⟨#[]⟩))).2))]) (v := .int .i64 (((getH (bl (((partsR l 3).1).getD 0 ⟨#[]⟩))).2))) rfl rfl rfl rfl ?_
  refine r_alloc (b := bxB 36 (headC (⟨0, 0, 0, dz, 0⟩ : Head))) (nid := 4) (H' := [rdB l, bxB 69 (signedC (⟨(⟨0, 0, 0, dz, 0⟩ : Head), 0, dz⟩ : Signed)), txB ((partsR l 3).1), rowB (bl (((partsR l 3).1).getD 0 ⟨#[]⟩)), bxB 36 (headC (⟨0, 0, 0, dz, 0⟩ : Head)), hole, hole]) rfl rfl (by kernel_rfl) (by kernel_rfl) ?_
  refine r_store (p := pt 4 0) (v := headV ((getH (bl (((partsR l 3).1).getD 0 ⟨#[]⟩))).1)) (b := 4) (blk := bxB 36 (headC ((getH (bl (((partsR l 3).1).getD 0 ⟨#[]⟩))).1))) (H' := [rdB l, bxB 69 (signedC (⟨(⟨0, 0, 0, dz, 0⟩ : Head), 0, dz⟩ : Signed)), txB ((partsR l 3).1), rowB (bl (((partsR l 3).1).getD 0 ⟨#[]⟩)), bxB 36 (headC ((getH (bl (((partsR l 3).1).getD 0 ⟨#[]⟩))).1)), hole, hole]) rfl rfl rfl (by kernel_rfl) (by kernel_rfl) ?_
  refine r_assign (v := .int .i64 (((getH (bl (((partsR l 3).1).getD 0 ⟨#[]⟩))).2))) rfl rfl rfl ?_
  refine r_doneN (x_then (c_seq (c_reg ?_)))
  refine r_move (v := slv 2 0 ((partsR l 3).1.length) ((partsR l 3).1.length)) rfl rfl rfl ?_
  refine r_idxS (b := 2) (o := 0) (j := 2) (m := ((partsR l 3).1.length)) (c := ((partsR l 3).1.length)) (sz := 1) (i := 2) (k := .i64) rfl rfl rfl rfl rfl (by omega) (by omega) (by omega) ?_
  refine r_load (p := pt 2 2) (v := .string (((partsR l 3).1).getD 2 ⟨#[]⟩)) rfl rfl rfl (load_tx rfl rfl rfl (by omega)) ?_
  refine r_callP (rDigest_ok (G := G) (((partsR l 3).1).getD 2 ⟨#[]⟩)) (vals := [.string (((partsR l 3).1).getD 2 ⟨#[]⟩)]) (res' := .tuple #[dgV ((digR (((partsR l 3).1).getD 2 ⟨#[]⟩)).1), .bool ((digR (((partsR l 3).1).getD 2 ⟨#[]⟩)).2)]) rfl rfl rfl rfl rfl (by kernel_rfl) ?_
  refine r_move (v := .tuple #[dgV ((digR (((partsR l 3).1).getD 2 ⟨#[]⟩)).1), .bool ((digR (((partsR l 3).1).getD 2 ⟨#[]⟩)).2)]) rfl rfl rfl ?_
  refine r_extract (vs := #[dgV ((digR (((partsR l 3).1).getD 2 ⟨#[]⟩)).1), .bool ((digR (((partsR l 3).1).getD 2 ⟨#[]⟩)).2)]) (v := dgV ((digR (((partsR l 3).1).getD 2 ⟨#[]⟩)).1)) rfl rfl rfl rfl ?_
  refine r_extract (vs := #[dgV ((digR (((partsR l 3).1).getD 2 ⟨#[]⟩)).1), .bool ((digR (((partsR l 3).1).getD 2 ⟨#[]⟩)).2)]) (v := .bool ((digR (((partsR l 3).1).getD 2 ⟨#[]⟩)).2)) rfl rfl rfl rfl ?_
  refine r_alloc (b := dgB dz) (nid := 5) (H' := [rdB l, bxB 69 (signedC (⟨(⟨0, 0, 0, dz, 0⟩ : Head), 0, dz⟩ : Signed)), txB ((partsR l 3).1), rowB (bl (((partsR l 3).1).getD 0 ⟨#[]⟩)), bxB 36 (headC ((getH (bl (((partsR l 3).1).getD 0 ⟨#[]⟩))).1)), dgB dz, hole]) rfl rfl (by kernel_rfl) (by kernel_rfl) ?_
  refine r_store (p := pt 5 0) (v := dgV ((digR (((partsR l 3).1).getD 2 ⟨#[]⟩)).1)) (b := 5) (blk := dgB ((digR (((partsR l 3).1).getD 2 ⟨#[]⟩)).1)) (H' := [rdB l, bxB 69 (signedC (⟨(⟨0, 0, 0, dz, 0⟩ : Head), 0, dz⟩ : Signed)), txB ((partsR l 3).1), rowB (bl (((partsR l 3).1).getD 0 ⟨#[]⟩)), bxB 36 (headC ((getH (bl (((partsR l 3).1).getD 0 ⟨#[]⟩))).1)), dgB ((digR (((partsR l 3).1).getD 2 ⟨#[]⟩)).1), hole]) rfl rfl rfl (by kernel_rfl) (by kernel_rfl) ?_
  refine r_assign (v := .bool ((digR (((partsR l 3).1).getD 2 ⟨#[]⟩)).2)) rfl rfl rfl ?_
  refine r_doneN (x_then (c_seq ?_))
  refine c_drawK (by kernel_rfl) ?_
  refine r_load (p := pt 4 0) (v := headV ((getH (bl (((partsR l 3).1).getD 0 ⟨#[]⟩))).1)) rfl rfl rfl (by kernel_rfl) ?_
  refine r_move (v := slv 2 0 ((partsR l 3).1.length) ((partsR l 3).1.length)) rfl rfl rfl ?_
  refine r_idxS (b := 2) (o := 0) (j := 1) (m := ((partsR l 3).1.length)) (c := ((partsR l 3).1.length)) (sz := 1) (i := 1) (k := .i64) rfl rfl rfl rfl rfl (by omega) (by omega) (by omega) ?_
  refine r_load (p := pt 2 1) (v := .string (((partsR l 3).1).getD 1 ⟨#[]⟩)) rfl rfl rfl (load_tx rfl rfl rfl (by omega)) ?_
  refine r_callP (rVal_ok (G := G) (((partsR l 3).1).getD 1 ⟨#[]⟩)) (vals := [.string (((partsR l 3).1).getD 1 ⟨#[]⟩)]) (res' := .int .i64 ((vR (((partsR l 3).1).getD 1 ⟨#[]⟩)))) rfl rfl rfl rfl rfl rfl ?_
  refine r_load (p := pt 5 0) (v := dgV ((digR (((partsR l 3).1).getD 2 ⟨#[]⟩)).1)) rfl rfl rfl (by kernel_rfl) ?_
  refine r_build (vs := [(0, headV ((getH (bl (((partsR l 3).1).getD 0 ⟨#[]⟩))).1)), (1, .int .i64 ((vR (((partsR l 3).1).getD 1 ⟨#[]⟩)))), (2, dgV ((digR (((partsR l 3).1).getD 2 ⟨#[]⟩)).1))]) (v := signedV (⟨(getH (bl (((partsR l 3).1).getD 0 ⟨#[]⟩))).1, ((vR (((partsR l 3).1).getD 1 ⟨#[]⟩))), (digR (((partsR l 3).1).getD 2 ⟨#[]⟩)).1⟩ : Signed)) rfl rfl rfl (by kernel_rfl) ?_
  refine r_alloc (b := bxB 69 (signedC (⟨(⟨0, 0, 0, dz, 0⟩ : Head), 0, dz⟩ : Signed))) (nid := 6) (H' := [rdB l, bxB 69 (signedC (⟨(⟨0, 0, 0, dz, 0⟩ : Head), 0, dz⟩ : Signed)), txB ((partsR l 3).1), rowB (bl (((partsR l 3).1).getD 0 ⟨#[]⟩)), bxB 36 (headC ((getH (bl (((partsR l 3).1).getD 0 ⟨#[]⟩))).1)), dgB ((digR (((partsR l 3).1).getD 2 ⟨#[]⟩)).1), bxB 69 (signedC (⟨(⟨0, 0, 0, dz, 0⟩ : Head), 0, dz⟩ : Signed))]) rfl rfl (by kernel_rfl) (by kernel_rfl) ?_
  refine r_store (p := pt 6 0) (v := signedV (⟨(getH (bl (((partsR l 3).1).getD 0 ⟨#[]⟩))).1, ((vR (((partsR l 3).1).getD 1 ⟨#[]⟩))), (digR (((partsR l 3).1).getD 2 ⟨#[]⟩)).1⟩ : Signed)) (b := 6) (blk := bxB 69 (signedC (⟨(getH (bl (((partsR l 3).1).getD 0 ⟨#[]⟩))).1, ((vR (((partsR l 3).1).getD 1 ⟨#[]⟩))), (digR (((partsR l 3).1).getD 2 ⟨#[]⟩)).1⟩ : Signed))) (H' := [rdB l, bxB 69 (signedC (⟨(⟨0, 0, 0, dz, 0⟩ : Head), 0, dz⟩ : Signed)), txB ((partsR l 3).1), rowB (bl (((partsR l 3).1).getD 0 ⟨#[]⟩)), bxB 36 (headC ((getH (bl (((partsR l 3).1).getD 0 ⟨#[]⟩))).1)), dgB ((digR (((partsR l 3).1).getD 2 ⟨#[]⟩)).1), bxB 69 (signedC (⟨(getH (bl (((partsR l 3).1).getD 0 ⟨#[]⟩))).1, ((vR (((partsR l 3).1).getD 1 ⟨#[]⟩))), (digR (((partsR l 3).1).getD 2 ⟨#[]⟩)).1⟩ : Signed))]) rfl rfl rfl (by kernel_rfl) (by kernel_rfl) ?_
  refine r_doneK (drawnTK_ok [[], [], [1], [1, 2], [1, 2, 3], [], [0, 1, 2, 3, 4, 5], [], [0, 1, 2, 3, 4, 5, 6, 7]] (by kernel_rfl) (by kernel_rfl)) ?_
  refine x_then (c_seq (c_seq (c_reg ?_)))
  refine r_move (v := .int .i64 (((getH (bl (((partsR l 3).1).getD 0 ⟨#[]⟩))).2))) rfl rfl rfl ?_
  by_cases h2 : (((getH (bl (((partsR l 3).1).getD 0 ⟨#[]⟩))).2)) ≠ 0
  refine r_bin (v := .bool true) (vx := .int .i64 (((getH (bl (((partsR l 3).1).getD 0 ⟨#[]⟩))).2))) (vy := .int .i64 0) rfl rfl rfl rfl (neq_t (by omega)) ?_
  refine r_move (v := .bool true) rfl rfl rfl ?_
  refine r_skip rfl rfl (r_skip rfl rfl ?_)
  refine r_pick (v := .bool true) rfl rfl rfl ?_
  refine r_move (v := .bool true) rfl rfl rfl ?_
  refine r_skip rfl rfl (r_skip rfl rfl (r_skip rfl rfl ?_))
  refine r_pick (v := .bool true) rfl rfl rfl ?_
  refine r_doneN (x_then (c_true rfl (c_seq (c_reg ?_))))
  refine r_build (vs := []) (v := signedV (⟨(⟨0, 0, 0, dz, 0⟩ : Head), 0, dz⟩ : Signed)) rfl rfl rfl (by kernel_rfl) ?_
  refine r_store (p := pt 1 0) (v := signedV (⟨(⟨0, 0, 0, dz, 0⟩ : Head), 0, dz⟩ : Signed)) (b := 1) (blk := bxB 69 (signedC (⟨(⟨0, 0, 0, dz, 0⟩ : Head), 0, dz⟩ : Signed))) (H' := [rdB l, bxB 69 (signedC (⟨(⟨0, 0, 0, dz, 0⟩ : Head), 0, dz⟩ : Signed)), txB ((partsR l 3).1), rowB (bl (((partsR l 3).1).getD 0 ⟨#[]⟩)), bxB 36 (headC ((getH (bl (((partsR l 3).1).getD 0 ⟨#[]⟩))).1)), dgB ((digR (((partsR l 3).1).getD 2 ⟨#[]⟩)).1), bxB 69 (signedC (⟨(getH (bl (((partsR l 3).1).getD 0 ⟨#[]⟩))).1, ((vR (((partsR l 3).1).getD 1 ⟨#[]⟩))), (digR (((partsR l 3).1).getD 2 ⟨#[]⟩)).1⟩ : Signed))]) rfl rfl rfl (by kernel_rfl) (by kernel_rfl) ?_
  refine r_assign (v := .int .i64 70) rfl rfl rfl ?_
  refine r_doneN (x_then (c_ret (x_thenR (x_end ?_))))
  rw [show getS l = (⟨⟨0, 0, 0, dz, 0⟩, 0, dz⟩, 70) from by first | exact getS_not (.inl (by assumption)) | exact getS_not (.inr (.inl (by omega))) | exact getS_not (.inr (.inr (.inl (by assumption)))) | exact getS_not (.inr (.inr (.inr (of_decide_eq_false (by assumption)))))]
  exact end_same (v := .tuple #[signedV (⟨(⟨0, 0, 0, dz, 0⟩ : Head), 0, dz⟩ : Signed), .int .i64 70]) (by kernel_rfl) rfl rfl (by simp [keptB, rdB]) ⟨(argV_p (by kernel_rfl) rfl), rfl, trivial⟩
  refine r_bin (v := .bool false) (vx := .int .i64 (((getH (bl (((partsR l 3).1).getD 0 ⟨#[]⟩))).2))) (vy := .int .i64 0) rfl rfl rfl rfl (neq_f (by omega)) ?_
  refine r_move (v := .bool false) rfl rfl rfl ?_
  refine r_move (v := .bool ((digR (((partsR l 3).1).getD 2 ⟨#[]⟩)).2)) rfl rfl rfl ?_
  rcases Bool.eq_false_or_eq_true ((digR (((partsR l 3).1).getD 2 ⟨#[]⟩)).2) with h3 | h3
  refine r_un (v := .bool false) (vx := .bool ((digR (((partsR l 3).1).getD 2 ⟨#[]⟩)).2)) rfl rfl rfl (Eq.trans un_not (congrArg (fun b => some (Value.bool !b)) h3)) ?_
  refine r_pick (v := .bool false) rfl rfl rfl ?_
  refine r_move (v := .bool false) rfl rfl rfl ?_
  refine r_load (p := pt 6 0) (v := signedV (⟨(getH (bl (((partsR l 3).1).getD 0 ⟨#[]⟩))).1, ((vR (((partsR l 3).1).getD 1 ⟨#[]⟩))), (digR (((partsR l 3).1).getD 2 ⟨#[]⟩)).1⟩ : Signed)) rfl rfl rfl (by kernel_rfl) ?_
  refine r_callP (refMay_ok (G := G) (⟨(getH (bl (((partsR l 3).1).getD 0 ⟨#[]⟩))).1, ((vR (((partsR l 3).1).getD 1 ⟨#[]⟩))), (digR (((partsR l 3).1).getD 2 ⟨#[]⟩)).1⟩ : Signed)) (vals := [signedV (⟨(getH (bl (((partsR l 3).1).getD 0 ⟨#[]⟩))).1, ((vR (((partsR l 3).1).getD 1 ⟨#[]⟩))), (digR (((partsR l 3).1).getD 2 ⟨#[]⟩)).1⟩ : Signed)]) (res' := .bool (decide (mayS (⟨(getH (bl (((partsR l 3).1).getD 0 ⟨#[]⟩))).1, ((vR (((partsR l 3).1).getD 1 ⟨#[]⟩))), (digR (((partsR l 3).1).getD 2 ⟨#[]⟩)).1⟩ : Signed)))) rfl rfl rfl rfl rfl rfl ?_
  rcases Bool.eq_false_or_eq_true (decide (mayS (⟨(getH (bl (((partsR l 3).1).getD 0 ⟨#[]⟩))).1, ((vR (((partsR l 3).1).getD 1 ⟨#[]⟩))), (digR (((partsR l 3).1).getD 2 ⟨#[]⟩)).1⟩ : Signed))) with h4 | h4
  refine r_un (v := .bool false) (vx := .bool (decide (mayS (⟨(getH (bl (((partsR l 3).1).getD 0 ⟨#[]⟩))).1, ((vR (((partsR l 3).1).getD 1 ⟨#[]⟩))), (digR (((partsR l 3).1).getD 2 ⟨#[]⟩)).1⟩ : Signed)))) rfl rfl rfl (Eq.trans un_not (congrArg (fun b => some (Value.bool !b)) h4)) ?_
  refine r_pick (v := .bool false) rfl rfl rfl ?_
  refine r_doneN (x_then (c_false rfl (c_skip (x_then (c_seq (c_reg ?_))))))
  refine r_load (p := pt 6 0) (v := signedV (⟨(getH (bl (((partsR l 3).1).getD 0 ⟨#[]⟩))).1, ((vR (((partsR l 3).1).getD 1 ⟨#[]⟩))), (digR (((partsR l 3).1).getD 2 ⟨#[]⟩)).1⟩ : Signed)) rfl rfl rfl (by kernel_rfl) ?_
  refine r_store (p := pt 1 0) (v := signedV (⟨(getH (bl (((partsR l 3).1).getD 0 ⟨#[]⟩))).1, ((vR (((partsR l 3).1).getD 1 ⟨#[]⟩))), (digR (((partsR l 3).1).getD 2 ⟨#[]⟩)).1⟩ : Signed)) (b := 1) (blk := bxB 69 (signedC (⟨(getH (bl (((partsR l 3).1).getD 0 ⟨#[]⟩))).1, ((vR (((partsR l 3).1).getD 1 ⟨#[]⟩))), (digR (((partsR l 3).1).getD 2 ⟨#[]⟩)).1⟩ : Signed))) (H' := [rdB l, bxB 69 (signedC (⟨(getH (bl (((partsR l 3).1).getD 0 ⟨#[]⟩))).1, ((vR (((partsR l 3).1).getD 1 ⟨#[]⟩))), (digR (((partsR l 3).1).getD 2 ⟨#[]⟩)).1⟩ : Signed)), txB ((partsR l 3).1), rowB (bl (((partsR l 3).1).getD 0 ⟨#[]⟩)), bxB 36 (headC ((getH (bl (((partsR l 3).1).getD 0 ⟨#[]⟩))).1)), dgB ((digR (((partsR l 3).1).getD 2 ⟨#[]⟩)).1), bxB 69 (signedC (⟨(getH (bl (((partsR l 3).1).getD 0 ⟨#[]⟩))).1, ((vR (((partsR l 3).1).getD 1 ⟨#[]⟩))), (digR (((partsR l 3).1).getD 2 ⟨#[]⟩)).1⟩ : Signed))]) rfl rfl rfl (by kernel_rfl) (by kernel_rfl) ?_
  refine r_assign (v := .int .i64 0) rfl rfl rfl ?_
  refine r_doneN (x_then (c_ret (x_end ?_)))
  rw [getS_yes (l := l) (by assumption) (by omega) (by assumption) (of_decide_eq_true (by assumption))]
  exact end_same (v := .tuple #[signedV (⟨(getH (bl (((partsR l 3).1).getD 0 ⟨#[]⟩))).1, ((vR (((partsR l 3).1).getD 1 ⟨#[]⟩))), (digR (((partsR l 3).1).getD 2 ⟨#[]⟩)).1⟩ : Signed), .int .i64 0]) (by kernel_rfl) rfl rfl (by simp [keptB, rdB]) ⟨(argV_p (by kernel_rfl) rfl), rfl, trivial⟩
  refine r_un (v := .bool true) (vx := .bool (decide (mayS (⟨(getH (bl (((partsR l 3).1).getD 0 ⟨#[]⟩))).1, ((vR (((partsR l 3).1).getD 1 ⟨#[]⟩))), (digR (((partsR l 3).1).getD 2 ⟨#[]⟩)).1⟩ : Signed)))) rfl rfl rfl (Eq.trans un_not (congrArg (fun b => some (Value.bool !b)) h4)) ?_
  refine r_pick (v := .bool true) rfl rfl rfl ?_
  refine r_doneN (x_then (c_true rfl (c_seq (c_reg ?_))))
  refine r_build (vs := []) (v := signedV (⟨(⟨0, 0, 0, dz, 0⟩ : Head), 0, dz⟩ : Signed)) rfl rfl rfl (by kernel_rfl) ?_
  refine r_store (p := pt 1 0) (v := signedV (⟨(⟨0, 0, 0, dz, 0⟩ : Head), 0, dz⟩ : Signed)) (b := 1) (blk := bxB 69 (signedC (⟨(⟨0, 0, 0, dz, 0⟩ : Head), 0, dz⟩ : Signed))) (H' := [rdB l, bxB 69 (signedC (⟨(⟨0, 0, 0, dz, 0⟩ : Head), 0, dz⟩ : Signed)), txB ((partsR l 3).1), rowB (bl (((partsR l 3).1).getD 0 ⟨#[]⟩)), bxB 36 (headC ((getH (bl (((partsR l 3).1).getD 0 ⟨#[]⟩))).1)), dgB ((digR (((partsR l 3).1).getD 2 ⟨#[]⟩)).1), bxB 69 (signedC (⟨(getH (bl (((partsR l 3).1).getD 0 ⟨#[]⟩))).1, ((vR (((partsR l 3).1).getD 1 ⟨#[]⟩))), (digR (((partsR l 3).1).getD 2 ⟨#[]⟩)).1⟩ : Signed))]) rfl rfl rfl (by kernel_rfl) (by kernel_rfl) ?_
  refine r_assign (v := .int .i64 70) rfl rfl rfl ?_
  refine r_doneN (x_then (c_ret (x_thenR (x_end ?_))))
  rw [show getS l = (⟨⟨0, 0, 0, dz, 0⟩, 0, dz⟩, 70) from by first | exact getS_not (.inl (by assumption)) | exact getS_not (.inr (.inl (by omega))) | exact getS_not (.inr (.inr (.inl (by assumption)))) | exact getS_not (.inr (.inr (.inr (of_decide_eq_false (by assumption)))))]
  exact end_same (v := .tuple #[signedV (⟨(⟨0, 0, 0, dz, 0⟩ : Head), 0, dz⟩ : Signed), .int .i64 70]) (by kernel_rfl) rfl rfl (by simp [keptB, rdB]) ⟨(argV_p (by kernel_rfl) rfl), rfl, trivial⟩
  refine r_un (v := .bool true) (vx := .bool ((digR (((partsR l 3).1).getD 2 ⟨#[]⟩)).2)) rfl rfl rfl (Eq.trans un_not (congrArg (fun b => some (Value.bool !b)) h3)) ?_
  refine r_pick (v := .bool true) rfl rfl rfl ?_
  refine r_move (v := .bool true) rfl rfl rfl ?_
  refine r_skip rfl rfl (r_skip rfl rfl (r_skip rfl rfl ?_))
  refine r_pick (v := .bool true) rfl rfl rfl ?_
  refine r_doneN (x_then (c_true rfl (c_seq (c_reg ?_))))
  refine r_build (vs := []) (v := signedV (⟨(⟨0, 0, 0, dz, 0⟩ : Head), 0, dz⟩ : Signed)) rfl rfl rfl (by kernel_rfl) ?_
  refine r_store (p := pt 1 0) (v := signedV (⟨(⟨0, 0, 0, dz, 0⟩ : Head), 0, dz⟩ : Signed)) (b := 1) (blk := bxB 69 (signedC (⟨(⟨0, 0, 0, dz, 0⟩ : Head), 0, dz⟩ : Signed))) (H' := [rdB l, bxB 69 (signedC (⟨(⟨0, 0, 0, dz, 0⟩ : Head), 0, dz⟩ : Signed)), txB ((partsR l 3).1), rowB (bl (((partsR l 3).1).getD 0 ⟨#[]⟩)), bxB 36 (headC ((getH (bl (((partsR l 3).1).getD 0 ⟨#[]⟩))).1)), dgB ((digR (((partsR l 3).1).getD 2 ⟨#[]⟩)).1), bxB 69 (signedC (⟨(getH (bl (((partsR l 3).1).getD 0 ⟨#[]⟩))).1, ((vR (((partsR l 3).1).getD 1 ⟨#[]⟩))), (digR (((partsR l 3).1).getD 2 ⟨#[]⟩)).1⟩ : Signed))]) rfl rfl rfl (by kernel_rfl) (by kernel_rfl) ?_
  refine r_assign (v := .int .i64 70) rfl rfl rfl ?_
  refine r_doneN (x_then (c_ret (x_thenR (x_end ?_))))
  rw [show getS l = (⟨⟨0, 0, 0, dz, 0⟩, 0, dz⟩, 70) from by first | exact getS_not (.inl (by assumption)) | exact getS_not (.inr (.inl (by omega))) | exact getS_not (.inr (.inr (.inl (by assumption)))) | exact getS_not (.inr (.inr (.inr (of_decide_eq_false (by assumption)))))]
  exact end_same (v := .tuple #[signedV (⟨(⟨0, 0, 0, dz, 0⟩ : Head), 0, dz⟩ : Signed), .int .i64 70]) (by kernel_rfl) rfl rfl (by simp [keptB, rdB]) ⟨(argV_p (by kernel_rfl) rfl), rfl, trivial⟩
  refine r_un (v := .bool true) (vx := .bool ((partsR l 3).2)) rfl rfl rfl (Eq.trans un_not (congrArg (fun b => some (Value.bool !b)) h1)) ?_
  refine r_doneN (x_then (c_true rfl (c_seq (c_reg ?_))))
  refine r_build (vs := []) (v := signedV (⟨(⟨0, 0, 0, dz, 0⟩ : Head), 0, dz⟩ : Signed)) rfl rfl rfl (by kernel_rfl) ?_
  refine r_store (p := pt 1 0) (v := signedV (⟨(⟨0, 0, 0, dz, 0⟩ : Head), 0, dz⟩ : Signed)) (b := 1) (blk := bxB 69 (signedC (⟨(⟨0, 0, 0, dz, 0⟩ : Head), 0, dz⟩ : Signed))) (H' := [rdB l, bxB 69 (signedC (⟨(⟨0, 0, 0, dz, 0⟩ : Head), 0, dz⟩ : Signed)), txB ((partsR l 3).1), hole, hole, hole, hole]) rfl rfl rfl (by kernel_rfl) (by kernel_rfl) ?_
  refine r_assign (v := .int .i64 70) rfl rfl rfl ?_
  refine r_doneN (x_then (c_ret (x_thenR (x_end ?_))))
  rw [show getS l = (⟨⟨0, 0, 0, dz, 0⟩, 0, dz⟩, 70) from by first | exact getS_not (.inl (by assumption)) | exact getS_not (.inr (.inl (by omega))) | exact getS_not (.inr (.inr (.inl (by assumption)))) | exact getS_not (.inr (.inr (.inr (of_decide_eq_false (by assumption)))))]
  exact end_same (v := .tuple #[signedV (⟨(⟨0, 0, 0, dz, 0⟩ : Head), 0, dz⟩ : Signed), .int .i64 70]) (by kernel_rfl) rfl rfl (by simp [keptB, rdB]) ⟨(argV_p (by kernel_rfl) rfl), rfl, trivial⟩
end Go.Flat
