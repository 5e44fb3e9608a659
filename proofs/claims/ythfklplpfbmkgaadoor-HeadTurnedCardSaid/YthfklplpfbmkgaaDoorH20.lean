/- Walks and plain laws: what each theorem says, within the bounds that it names. -/
import Derived.Test.YthfklplpfbmkgaaDoorH19
set_option linter.unusedVariables false
set_option linter.unusedSimpArgs false
set_option maxRecDepth 20000
namespace Go.Flat
open Go.Proofs
variable {G : Glob}
theorem getF_size (l : Bs) (n : Nat) : (getF l n).1.data.size ≤ l.length := by
  unfold getF
  repeat' split
  all_goals first | exact Nat.zero_le _ | (dsimp only; rw [strOf_size, List.length_take, List.length_drop]; omega)
theorem readL_size (M : Nat) : ∀ (f : Nat) (l : Bs) (last : Int) (acc : List Field), l.length ≤ M → (∀ x, x ∈ acc → x.data.size ≤ M) → ∀ x, x ∈ (readL f l last acc).1 → x.data.size ≤ M
  | 0, l, last, acc, h, ha => by simpa [readL] using ha
  | f + 1, l, last, acc, h, ha => by
    rw [readL]
    split
    · exact ha
    · split
      · intro x hx; simp at hx
      · split
        · intro x hx; simp at hx
        · refine readL_size M f _ _ _ (by rw [List.length_drop]; omega) (fun x hx => ?_)
          rcases List.mem_append.1 hx with hx | hx
          · exact ha x hx
          · rw [List.mem_singleton.1 hx]; exact Nat.le_trans (getF_size _ _) h
theorem ofL_size (M : Nat) : ∀ (fs : List Field) (i : Nat) (ok : Bool) (acc : List ByteArray), (∀ x, x ∈ fs → x.data.size ≤ M) → (∀ x, x ∈ acc → x.size ≤ M) → ∀ x, x ∈ (ofL fs i ok acc).2 → x.size ≤ M
  | [], i, ok, acc, h, ha => ha
  | f :: fs, i, ok, acc, h, ha => by
    rw [ofL]
    refine ofL_size M fs _ _ _ (fun x hx => h x (by simp [hx])) (fun x hx => ?_)
    rcases List.mem_append.1 hx with hx | hx
    · exact ha x hx
    · rw [List.mem_singleton.1 hx]; exact h f (by simp)
theorem of_size {l : Bs} {M : Nat} (h : l.length ≤ M) (i : Nat) : ((ofF l).2.getD i ⟨#[]⟩).size ≤ M :=
  getD_size (ofL_size M _ _ _ _ (readL_size M _ _ _ _ h (fun x hx => by simp at hx)) (fun x hx => by simp at hx)) i
def getS (l : Bs) : Signed × Int :=
  if (((((((ofF l).1) && decide ((pK ((ofF l).2.length) 0) < ((ofF l).2.length))) && decide ((pK ((ofF l).2.length) 1) < ((ofF l).2.length))) && decide ((valS (((ofF l).2).getD (pK ((ofF l).2.length) 1) ⟨#[]⟩)).2 = 0)) && decide ((pK ((ofF l).2.length) 2) < ((ofF l).2.length))) && decide ((((ofF l).2).getD (pK ((ofF l).2.length) 2) ⟨#[]⟩).size = 32)) = true then (if (((getH (bl (((ofF l).2).getD (pK ((ofF l).2.length) 0) ⟨#[]⟩))).2)) ≠ 0 then ((⟨(⟨0, 0, 0, dz, 0⟩ : Head), 0, dz⟩ : Signed), 70) else
  if 0 < (((remP ((ofF l).2.length) (pK ((ofF l).2.length) 3)) : Nat) : Int) then ((⟨(⟨0, 0, 0, dz, 0⟩ : Head), 0, dz⟩ : Signed), 70) else
  if 1 ≤ (((valS (((ofF l).2).getD (pK ((ofF l).2.length) 1) ⟨#[]⟩)).1)) then (if (((valS (((ofF l).2).getD (pK ((ofF l).2.length) 1) ⟨#[]⟩)).1)) ≤ 3 then ((⟨(getH (bl (((ofF l).2).getD (pK ((ofF l).2.length) 0) ⟨#[]⟩))).1, (((valS (((ofF l).2).getD (pK ((ofF l).2.length) 1) ⟨#[]⟩)).1)), (digD ((((((ofF l).1) && decide ((pK ((ofF l).2.length) 0) < ((ofF l).2.length))) && decide ((pK ((ofF l).2.length) 1) < ((ofF l).2.length))) && decide ((valS (((ofF l).2).getD (pK ((ofF l).2.length) 1) ⟨#[]⟩)).2 = 0)) && decide ((pK ((ofF l).2.length) 2) < ((ofF l).2.length))) (((ofF l).2).getD (pK ((ofF l).2.length) 2) ⟨#[]⟩))⟩ : Signed), 0) else
  ((⟨(⟨0, 0, 0, dz, 0⟩ : Head), 0, dz⟩ : Signed), 70)) else
  ((⟨(⟨0, 0, 0, dz, 0⟩ : Head), 0, dz⟩ : Signed), 70)) else
  ((⟨(⟨0, 0, 0, dz, 0⟩ : Head), 0, dz⟩ : Signed), 70)
theorem HGetSigned_ok (l : Bs) (n c : Nat) (hn : l.length = n) (hc : n ≤ c) (hb : n ≤ 1099511627776) (hb' : l.length ≤ 1099511627776) : CallL Tryd.prog G 17 [slv 0 0 n c] [rdB l] (.tuple #[signedV (getS l).1, .int .i64 (getS l).2]) [rdB l] := by
  refine walk (fn := Tryd.f17) (nt := 47) rfl rfl rfl rfl ?_
  refine c_hole 7 (H' := [rdB l, hole, hole, hole, hole, hole, hole, hole]) rfl ?_
  refine c_seq ?_
  refine c_reg ?_
  refine r_alloc (b := bxB 69 (signedC (⟨(⟨0, 0, 0, dz, 0⟩ : Head), 0, dz⟩ : Signed))) (nid := 1) (H' := [rdB l, bxB 69 (signedC (⟨(⟨0, 0, 0, dz, 0⟩ : Head), 0, dz⟩ : Signed)), hole, hole, hole, hole, hole, hole]) rfl rfl (by kernel_rfl) (by kernel_rfl) ?_
  refine r_assign (v := .int .i64 0) rfl rfl rfl ?_
  refine r_doneN ?_
  refine x_then ?_
  refine c_seq ?_
  refine c_reg ?_
  refine r_alloc (b := bxB 1 ([.bool false])) (nid := 2) (H' := [rdB l, bxB 69 (signedC (⟨(⟨0, 0, 0, dz, 0⟩ : Head), 0, dz⟩ : Signed)), bxB 1 ([.bool false]), hole, hole, hole, hole, hole]) rfl rfl (by kernel_rfl) (by kernel_rfl) ?_
  refine r_doneN ?_
  refine x_then ?_
  refine c_seq ?_
  refine c_reg ?_
  refine r_move (v := slv 0 0 n c) rfl rfl rfl ?_
  have hrm14 : remP ((ofF l).2.length) (pK ((ofF l).2.length) 0) + pK ((ofF l).2.length) 0 = (ofF l).2.length := remP_add (Nat.zero_le _)
  refine r_callN (e := [some (0, 0), some (2, 0)]) (nid := 3) (of_ok' (G := G) l n c false hn (by omega) (by omega)) (vals := [slv 0 0 n c, pt 2 0]) (v := pt 3 0) (H' := [rdB l, bxB 69 (signedC (⟨(⟨0, 0, 0, dz, 0⟩ : Head), 0, dz⟩ : Signed)), bxB 1 ([.bool ((ofF l).1)]), rfB (slv 4 (pK ((ofF l).2.length) 0) (remP ((ofF l).2.length) (pK ((ofF l).2.length) 0)) (remP ((ofF l).2.length) (pK ((ofF l).2.length) 0))), txB ((ofF l).2), hole, hole, hole]) rfl rfl rfl rfl rfl rfl rfl ⟨⟨⟨rfl, rfl, rfl, by first | omega | exact Nat.le_refl _, by first | omega | exact Nat.le_refl _⟩, ⟨rfl, rfl⟩, trivial⟩, ⟨(emb_rd rfl), (emb_wr rfl rfl rfl rfl), trivial⟩, rfl, rfl, rfl⟩ (by kernel_rfl) (by kernel_rfl) ?_
  refine r_assign (v := pt 3 0) rfl rfl rfl ?_
  refine r_doneN ?_
  refine x_then ?_
  refine c_seq ?_
  refine c_reg ?_
  refine r_move (v := pt 3 0) rfl rfl rfl ?_
  have hpk15 := pK_le ((ofF l).2.length) 1
  have hrm15 : remP ((ofF l).2.length) (pK ((ofF l).2.length) 1) + (pK ((ofF l).2.length) 1) = ((ofF l).2.length) := remP_add hpk15
  refine r_callN (e := [some (3, 0), some (4, 0), some (2, 0)]) (nid := 0) (next_ok (G := G) ((ofF l).2) ((ofF l).2.length) (pK ((ofF l).2.length) 0) ((ofF l).1) rfl (pK_le ((ofF l).2.length) 0)) (vals := [pt 3 0, pt 2 0]) (v := .string (((ofF l).2).getD (pK ((ofF l).2.length) 0) ⟨#[]⟩)) (H' := [rdB l, bxB 69 (signedC (⟨(⟨0, 0, 0, dz, 0⟩ : Head), 0, dz⟩ : Signed)), bxB 1 ([.bool (((ofF l).1) && decide ((pK ((ofF l).2.length) 0) < ((ofF l).2.length)))]), rfB (slv 4 (pK ((ofF l).2.length) 1) (remP ((ofF l).2.length) (pK ((ofF l).2.length) 1)) (remP ((ofF l).2.length) (pK ((ofF l).2.length) 1))), txB ((ofF l).2), hole, hole, hole]) rfl rfl rfl rfl rfl rfl rfl ⟨⟨⟨rfl, rfl⟩, ⟨rfl, rfl⟩, trivial⟩, ⟨(emb_wr rfl rfl rfl (by show [_] = [renC _ _]; simp [renC, renC0])), (emb_tx rfl), (emb_wr rfl rfl rfl rfl), trivial⟩, rfl, rfl, rfl⟩ (by kernel_rfl) (Eq.trans (b := [rdB l, bxB 69 (signedC (⟨(⟨0, 0, 0, dz, 0⟩ : Head), 0, dz⟩ : Signed)), bxB 1 ([.bool (((ofF l).1) && decide ((pK ((ofF l).2.length) 0) < ((ofF l).2.length)))]), rfB (slv 4 (0 + (pK ((ofF l).2.length) 1)) (remP ((ofF l).2.length) (pK ((ofF l).2.length) 1)) (remP ((ofF l).2.length) (pK ((ofF l).2.length) 1))), txB ((ofF l).2), hole, hole, hole]) (by kernel_rfl) (by rw [Nat.zero_add])) ?_
  refine r_toBytes (p := .string (((ofF l).2).getD (pK ((ofF l).2.length) 0) ⟨#[]⟩)) (v := slv 5 0 ((((ofF l).2).getD (pK ((ofF l).2.length) 0) ⟨#[]⟩).size) ((((ofF l).2).getD (pK ((ofF l).2.length) 0) ⟨#[]⟩).size)) (blk := rowB (bl (((ofF l).2).getD (pK ((ofF l).2.length) 0) ⟨#[]⟩))) (nid := 5) (H' := [rdB l, bxB 69 (signedC (⟨(⟨0, 0, 0, dz, 0⟩ : Head), 0, dz⟩ : Signed)), bxB 1 ([.bool (((ofF l).1) && decide ((pK ((ofF l).2.length) 0) < ((ofF l).2.length)))]), rfB (slv 4 (pK ((ofF l).2.length) 1) (remP ((ofF l).2.length) (pK ((ofF l).2.length) 1)) (remP ((ofF l).2.length) (pK ((ofF l).2.length) 1))), txB ((ofF l).2), rowB (bl (((ofF l).2).getD (pK ((ofF l).2.length) 0) ⟨#[]⟩)), hole, hole]) rfl rfl rfl (bytes_of rfl rfl rfl) (by kernel_rfl) ?_
  have hsz16 := of_size hb' 0
  refine r_callN (e := [some (5, 0)]) (nid := 0) (HGet_ok (G := G) (bl (((ofF l).2).getD (pK ((ofF l).2.length) 0) ⟨#[]⟩)) ((((ofF l).2).getD (pK ((ofF l).2.length) 0) ⟨#[]⟩).size) ((((ofF l).2).getD (pK ((ofF l).2.length) 0) ⟨#[]⟩).size) (bl_len (((ofF l).2).getD (pK ((ofF l).2.length) 0) ⟨#[]⟩)) (by omega) hsz16) (vals := [slv 5 0 ((((ofF l).2).getD (pK ((ofF l).2.length) 0) ⟨#[]⟩).size) ((((ofF l).2).getD (pK ((ofF l).2.length) 0) ⟨#[]⟩).size)]) (v := .tuple #[headV ((getH (bl (((ofF l).2).getD (pK ((ofF l).2.length) 0) ⟨#[]⟩))).1), .int .i64 (((getH (bl (((ofF l).2).getD (pK ((ofF l).2.length) 0) ⟨#[]⟩))).2))]) (H' := [rdB l, bxB 69 (signedC (⟨(⟨0, 0, 0, dz, 0⟩ : Head), 0, dz⟩ : Signed)), bxB 1 ([.bool (((ofF l).1) && decide ((pK ((ofF l).2.length) 0) < ((ofF l).2.length)))]), rfB (slv 4 (pK ((ofF l).2.length) 1) (remP ((ofF l).2.length) (pK ((ofF l).2.length) 1)) (remP ((ofF l).2.length) (pK ((ofF l).2.length) 1))), txB ((ofF l).2), rowB (bl (((ofF l).2).getD (pK ((ofF l).2.length) 0) ⟨#[]⟩)), hole, hole]) rfl rfl rfl rfl rfl rfl rfl ⟨⟨⟨rfl, rfl, rfl, by first | omega | exact Nat.le_refl _, by first | omega | exact Nat.le_refl _⟩, trivial⟩, ⟨(emb_rdW rfl), trivial⟩, rfl, rfl, rfl⟩ (by kernel_rfl) (by kernel_rfl) ?_
  refine r_move (v := .tuple #[headV ((getH (bl (((ofF l).2).getD (pK ((ofF l).2.length) 0) ⟨#[]⟩))).1), .int .i64 (((getH (bl (((ofF l).2).getD (pK ((ofF l).2.length) 0) ⟨#[]⟩))).2))]) rfl rfl rfl ?_
  refine r_extract (vs := #[headV ((getH (bl (((ofF l).2).getD (pK ((ofF l).2.length) 0) ⟨#[]⟩))).1), .int .i64 (((getH (bl (((ofF l).2).getD (pK ((ofF l).2.length) 0) ⟨#[]⟩))).2))]) (v := headV ((getH (bl (((ofF l).2).getD (pK ((ofF l).2.length) 0) ⟨#[]⟩))).1)) rfl rfl rfl rfl ?_
  refine r_extract (vs := #[headV ((getH (bl (((ofF l).2).getD (pK ((ofF l).2.length) 0) ⟨#[]⟩))).1), .int .i64 (((getH (bl (((ofF l).2).getD (pK ((ofF l).2.length) 0) ⟨#[]⟩))).2))]) (v := .int .i64 (((getH (bl (((ofF l).2).getD (pK ((ofF l).2.length) 0) ⟨#[]⟩))).2))) rfl rfl rfl rfl ?_
  refine r_alloc (b := bxB 36 (headC (⟨0, 0, 0, dz, 0⟩ : Head))) (nid := 6) (H' := [rdB l, bxB 69 (signedC (⟨(⟨0, 0, 0, dz, 0⟩ : Head), 0, dz⟩ : Signed)), bxB 1 ([.bool (((ofF l).1) && decide ((pK ((ofF l).2.length) 0) < ((ofF l).2.length)))]), rfB (slv 4 (pK ((ofF l).2.length) 1) (remP ((ofF l).2.length) (pK ((ofF l).2.length) 1)) (remP ((ofF l).2.length) (pK ((ofF l).2.length) 1))), txB ((ofF l).2), rowB (bl (((ofF l).2).getD (pK ((ofF l).2.length) 0) ⟨#[]⟩)), bxB 36 (headC (⟨0, 0, 0, dz, 0⟩ : Head)), hole]) rfl rfl (by kernel_rfl) (by kernel_rfl) ?_
  refine r_store (p := pt 6 0) (v := headV ((getH (bl (((ofF l).2).getD (pK ((ofF l).2.length) 0) ⟨#[]⟩))).1)) (b := 6) (blk := bxB 36 (headC ((getH (bl (((ofF l).2).getD (pK ((ofF l).2.length) 0) ⟨#[]⟩))).1))) (H' := [rdB l, bxB 69 (signedC (⟨(⟨0, 0, 0, dz, 0⟩ : Head), 0, dz⟩ : Signed)), bxB 1 ([.bool (((ofF l).1) && decide ((pK ((ofF l).2.length) 0) < ((ofF l).2.length)))]), rfB (slv 4 (pK ((ofF l).2.length) 1) (remP ((ofF l).2.length) (pK ((ofF l).2.length) 1)) (remP ((ofF l).2.length) (pK ((ofF l).2.length) 1))), txB ((ofF l).2), rowB (bl (((ofF l).2).getD (pK ((ofF l).2.length) 0) ⟨#[]⟩)), bxB 36 (headC ((getH (bl (((ofF l).2).getD (pK ((ofF l).2.length) 0) ⟨#[]⟩))).1)), hole]) rfl rfl rfl (by kernel_rfl) (by kernel_rfl) ?_
  refine r_assign (v := .int .i64 (((getH (bl (((ofF l).2).getD (pK ((ofF l).2.length) 0) ⟨#[]⟩))).2))) rfl rfl rfl ?_
  refine r_doneN ?_
  refine x_then ?_
  refine c_seq ?_
  refine c_reg ?_
  refine r_load (p := pt 6 0) (v := headV ((getH (bl (((ofF l).2).getD (pK ((ofF l).2.length) 0) ⟨#[]⟩))).1)) rfl rfl rfl (by kernel_rfl) ?_
  refine r_build (vs := [(0, headV ((getH (bl (((ofF l).2).getD (pK ((ofF l).2.length) 0) ⟨#[]⟩))).1))]) (v := signedV (⟨(getH (bl (((ofF l).2).getD (pK ((ofF l).2.length) 0) ⟨#[]⟩))).1, 0, dz⟩ : Signed)) rfl rfl rfl (by kernel_rfl) ?_
  refine r_alloc (b := bxB 69 (signedC (⟨(⟨0, 0, 0, dz, 0⟩ : Head), 0, dz⟩ : Signed))) (nid := 7) (H' := [rdB l, bxB 69 (signedC (⟨(⟨0, 0, 0, dz, 0⟩ : Head), 0, dz⟩ : Signed)), bxB 1 ([.bool (((ofF l).1) && decide ((pK ((ofF l).2.length) 0) < ((ofF l).2.length)))]), rfB (slv 4 (pK ((ofF l).2.length) 1) (remP ((ofF l).2.length) (pK ((ofF l).2.length) 1)) (remP ((ofF l).2.length) (pK ((ofF l).2.length) 1))), txB ((ofF l).2), rowB (bl (((ofF l).2).getD (pK ((ofF l).2.length) 0) ⟨#[]⟩)), bxB 36 (headC ((getH (bl (((ofF l).2).getD (pK ((ofF l).2.length) 0) ⟨#[]⟩))).1)), bxB 69 (signedC (⟨(⟨0, 0, 0, dz, 0⟩ : Head), 0, dz⟩ : Signed))]) rfl rfl (by kernel_rfl) (by kernel_rfl) ?_
  refine r_store (p := pt 7 0) (v := signedV (⟨(getH (bl (((ofF l).2).getD (pK ((ofF l).2.length) 0) ⟨#[]⟩))).1, 0, dz⟩ : Signed)) (b := 7) (blk := bxB 69 (signedC (⟨(getH (bl (((ofF l).2).getD (pK ((ofF l).2.length) 0) ⟨#[]⟩))).1, 0, dz⟩ : Signed))) (H' := [rdB l, bxB 69 (signedC (⟨(⟨0, 0, 0, dz, 0⟩ : Head), 0, dz⟩ : Signed)), bxB 1 ([.bool (((ofF l).1) && decide ((pK ((ofF l).2.length) 0) < ((ofF l).2.length)))]), rfB (slv 4 (pK ((ofF l).2.length) 1) (remP ((ofF l).2.length) (pK ((ofF l).2.length) 1)) (remP ((ofF l).2.length) (pK ((ofF l).2.length) 1))), txB ((ofF l).2), rowB (bl (((ofF l).2).getD (pK ((ofF l).2.length) 0) ⟨#[]⟩)), bxB 36 (headC ((getH (bl (((ofF l).2).getD (pK ((ofF l).2.length) 0) ⟨#[]⟩))).1)), bxB 69 (signedC (⟨(getH (bl (((ofF l).2).getD (pK ((ofF l).2.length) 0) ⟨#[]⟩))).1, 0, dz⟩ : Signed))]) rfl rfl rfl (by kernel_rfl) (by kernel_rfl) ?_
  refine r_doneN ?_
  refine x_then ?_
  refine c_seq ?_
  refine c_reg ?_
  refine r_move (v := pt 3 0) rfl rfl rfl ?_
  have hpk17 := pK_le ((ofF l).2.length) 2
  have hrm17 : remP ((ofF l).2.length) (pK ((ofF l).2.length) 2) + (pK ((ofF l).2.length) 2) = ((ofF l).2.length) := remP_add hpk17
  refine r_callN (e := [some (3, 0), some (4, 0), some (2, 0)]) (nid := 0) (number_ok (G := G) ((ofF l).2) ((ofF l).2.length) (pK ((ofF l).2.length) 1) (((ofF l).1) && decide ((pK ((ofF l).2.length) 0) < ((ofF l).2.length))) rfl (pK_le ((ofF l).2.length) 1)) (vals := [pt 3 0, pt 2 0]) (v := .int .i64 (((valS (((ofF l).2).getD (pK ((ofF l).2.length) 1) ⟨#[]⟩)).1))) (H' := [rdB l, bxB 69 (signedC (⟨(⟨0, 0, 0, dz, 0⟩ : Head), 0, dz⟩ : Signed)), bxB 1 ([.bool (((((ofF l).1) && decide ((pK ((ofF l).2.length) 0) < ((ofF l).2.length))) && decide ((pK ((ofF l).2.length) 1) < ((ofF l).2.length))) && decide ((valS (((ofF l).2).getD (pK ((ofF l).2.length) 1) ⟨#[]⟩)).2 = 0))]), rfB (slv 4 (pK ((ofF l).2.length) 2) (remP ((ofF l).2.length) (pK ((ofF l).2.length) 2)) (remP ((ofF l).2.length) (pK ((ofF l).2.length) 2))), txB ((ofF l).2), rowB (bl (((ofF l).2).getD (pK ((ofF l).2.length) 0) ⟨#[]⟩)), bxB 36 (headC ((getH (bl (((ofF l).2).getD (pK ((ofF l).2.length) 0) ⟨#[]⟩))).1)), bxB 69 (signedC (⟨(getH (bl (((ofF l).2).getD (pK ((ofF l).2.length) 0) ⟨#[]⟩))).1, 0, dz⟩ : Signed))]) rfl rfl rfl rfl rfl rfl rfl ⟨⟨⟨rfl, rfl⟩, ⟨rfl, rfl⟩, trivial⟩, ⟨(emb_wr rfl rfl rfl (by show [_] = [renC _ _]; simp [renC, renC0])), (emb_tx rfl), (emb_wr rfl rfl rfl rfl), trivial⟩, rfl, rfl, rfl⟩ (by kernel_rfl) (Eq.trans (b := [rdB l, bxB 69 (signedC (⟨(⟨0, 0, 0, dz, 0⟩ : Head), 0, dz⟩ : Signed)), bxB 1 ([.bool (((((ofF l).1) && decide ((pK ((ofF l).2.length) 0) < ((ofF l).2.length))) && decide ((pK ((ofF l).2.length) 1) < ((ofF l).2.length))) && decide ((valS (((ofF l).2).getD (pK ((ofF l).2.length) 1) ⟨#[]⟩)).2 = 0))]), rfB (slv 4 (0 + (pK ((ofF l).2.length) 2)) (remP ((ofF l).2.length) (pK ((ofF l).2.length) 2)) (remP ((ofF l).2.length) (pK ((ofF l).2.length) 2))), txB ((ofF l).2), rowB (bl (((ofF l).2).getD (pK ((ofF l).2.length) 0) ⟨#[]⟩)), bxB 36 (headC ((getH (bl (((ofF l).2).getD (pK ((ofF l).2.length) 0) ⟨#[]⟩))).1)), bxB 69 (signedC (⟨(getH (bl (((ofF l).2).getD (pK ((ofF l).2.length) 0) ⟨#[]⟩))).1, 0, dz⟩ : Signed))]) (by kernel_rfl) (by rw [Nat.zero_add])) ?_
  refine r_fieldAddr (b := 7) (o := 0) (n := 36) (o' := 36) rfl rfl rfl rfl rfl ?_
  refine r_store (p := pt 7 36) (v := .int .i64 (((valS (((ofF l).2).getD (pK ((ofF l).2.length) 1) ⟨#[]⟩)).1))) (b := 7) (blk := bxB 69 (signedC (⟨(getH (bl (((ofF l).2).getD (pK ((ofF l).2.length) 0) ⟨#[]⟩))).1, (((valS (((ofF l).2).getD (pK ((ofF l).2.length) 1) ⟨#[]⟩)).1)), dz⟩ : Signed))) (H' := [rdB l, bxB 69 (signedC (⟨(⟨0, 0, 0, dz, 0⟩ : Head), 0, dz⟩ : Signed)), bxB 1 ([.bool (((((ofF l).1) && decide ((pK ((ofF l).2.length) 0) < ((ofF l).2.length))) && decide ((pK ((ofF l).2.length) 1) < ((ofF l).2.length))) && decide ((valS (((ofF l).2).getD (pK ((ofF l).2.length) 1) ⟨#[]⟩)).2 = 0))]), rfB (slv 4 (pK ((ofF l).2.length) 2) (remP ((ofF l).2.length) (pK ((ofF l).2.length) 2)) (remP ((ofF l).2.length) (pK ((ofF l).2.length) 2))), txB ((ofF l).2), rowB (bl (((ofF l).2).getD (pK ((ofF l).2.length) 0) ⟨#[]⟩)), bxB 36 (headC ((getH (bl (((ofF l).2).getD (pK ((ofF l).2.length) 0) ⟨#[]⟩))).1)), bxB 69 (signedC (⟨(getH (bl (((ofF l).2).getD (pK ((ofF l).2.length) 0) ⟨#[]⟩))).1, (((valS (((ofF l).2).getD (pK ((ofF l).2.length) 1) ⟨#[]⟩)).1)), dz⟩ : Signed))]) rfl rfl rfl (by kernel_rfl) (by kernel_rfl) ?_
  refine r_doneN ?_
  refine x_then ?_
  refine c_seq ?_
  refine c_reg ?_
  refine r_move (v := pt 3 0) rfl rfl rfl ?_
  have hpk18 := pK_le ((ofF l).2.length) 3
  have hrm18 : remP ((ofF l).2.length) (pK ((ofF l).2.length) 3) + (pK ((ofF l).2.length) 3) = ((ofF l).2.length) := remP_add hpk18
  refine r_callN (e := [some (3, 0), some (4, 0), some (2, 0)]) (nid := 0) (digest_ok (G := G) ((ofF l).2) ((ofF l).2.length) (pK ((ofF l).2.length) 2) (((((ofF l).1) && decide ((pK ((ofF l).2.length) 0) < ((ofF l).2.length))) && decide ((pK ((ofF l).2.length) 1) < ((ofF l).2.length))) && decide ((valS (((ofF l).2).getD (pK ((ofF l).2.length) 1) ⟨#[]⟩)).2 = 0)) rfl (pK_le ((ofF l).2.length) 2)) (vals := [pt 3 0, pt 2 0]) (v := dgV (digD ((((((ofF l).1) && decide ((pK ((ofF l).2.length) 0) < ((ofF l).2.length))) && decide ((pK ((ofF l).2.length) 1) < ((ofF l).2.length))) && decide ((valS (((ofF l).2).getD (pK ((ofF l).2.length) 1) ⟨#[]⟩)).2 = 0)) && decide ((pK ((ofF l).2.length) 2) < ((ofF l).2.length))) (((ofF l).2).getD (pK ((ofF l).2.length) 2) ⟨#[]⟩))) (H' := [rdB l, bxB 69 (signedC (⟨(⟨0, 0, 0, dz, 0⟩ : Head), 0, dz⟩ : Signed)), bxB 1 ([.bool (((((((ofF l).1) && decide ((pK ((ofF l).2.length) 0) < ((ofF l).2.length))) && decide ((pK ((ofF l).2.length) 1) < ((ofF l).2.length))) && decide ((valS (((ofF l).2).getD (pK ((ofF l).2.length) 1) ⟨#[]⟩)).2 = 0)) && decide ((pK ((ofF l).2.length) 2) < ((ofF l).2.length))) && decide ((((ofF l).2).getD (pK ((ofF l).2.length) 2) ⟨#[]⟩).size = 32))]), rfB (slv 4 (pK ((ofF l).2.length) 3) (remP ((ofF l).2.length) (pK ((ofF l).2.length) 3)) (remP ((ofF l).2.length) (pK ((ofF l).2.length) 3))), txB ((ofF l).2), rowB (bl (((ofF l).2).getD (pK ((ofF l).2.length) 0) ⟨#[]⟩)), bxB 36 (headC ((getH (bl (((ofF l).2).getD (pK ((ofF l).2.length) 0) ⟨#[]⟩))).1)), bxB 69 (signedC (⟨(getH (bl (((ofF l).2).getD (pK ((ofF l).2.length) 0) ⟨#[]⟩))).1, (((valS (((ofF l).2).getD (pK ((ofF l).2.length) 1) ⟨#[]⟩)).1)), dz⟩ : Signed))]) rfl rfl rfl rfl rfl rfl rfl ⟨⟨⟨rfl, rfl⟩, ⟨rfl, rfl⟩, trivial⟩, ⟨(emb_wr rfl rfl rfl (by show [_] = [renC _ _]; simp [renC, renC0])), (emb_tx rfl), (emb_wr rfl rfl rfl rfl), trivial⟩, rfl, rfl, rfl⟩ (by kernel_rfl) (Eq.trans (b := [rdB l, bxB 69 (signedC (⟨(⟨0, 0, 0, dz, 0⟩ : Head), 0, dz⟩ : Signed)), bxB 1 ([.bool (((((((ofF l).1) && decide ((pK ((ofF l).2.length) 0) < ((ofF l).2.length))) && decide ((pK ((ofF l).2.length) 1) < ((ofF l).2.length))) && decide ((valS (((ofF l).2).getD (pK ((ofF l).2.length) 1) ⟨#[]⟩)).2 = 0)) && decide ((pK ((ofF l).2.length) 2) < ((ofF l).2.length))) && decide ((((ofF l).2).getD (pK ((ofF l).2.length) 2) ⟨#[]⟩).size = 32))]), rfB (slv 4 (0 + (pK ((ofF l).2.length) 3)) (remP ((ofF l).2.length) (pK ((ofF l).2.length) 3)) (remP ((ofF l).2.length) (pK ((ofF l).2.length) 3))), txB ((ofF l).2), rowB (bl (((ofF l).2).getD (pK ((ofF l).2.length) 0) ⟨#[]⟩)), bxB 36 (headC ((getH (bl (((ofF l).2).getD (pK ((ofF l).2.length) 0) ⟨#[]⟩))).1)), bxB 69 (signedC (⟨(getH (bl (((ofF l).2).getD (pK ((ofF l).2.length) 0) ⟨#[]⟩))).1, (((valS (((ofF l).2).getD (pK ((ofF l).2.length) 1) ⟨#[]⟩)).1)), dz⟩ : Signed))]) (by kernel_rfl) (by rw [Nat.zero_add])) ?_
  refine r_fieldAddr (b := 7) (o := 0) (n := 37) (o' := 37) rfl rfl rfl rfl rfl ?_
  refine r_store (p := pt 7 37) (v := dgV (digD ((((((ofF l).1) && decide ((pK ((ofF l).2.length) 0) < ((ofF l).2.length))) && decide ((pK ((ofF l).2.length) 1) < ((ofF l).2.length))) && decide ((valS (((ofF l).2).getD (pK ((ofF l).2.length) 1) ⟨#[]⟩)).2 = 0)) && decide ((pK ((ofF l).2.length) 2) < ((ofF l).2.length))) (((ofF l).2).getD (pK ((ofF l).2.length) 2) ⟨#[]⟩))) (b := 7) (blk := bxB 69 (signedC (⟨(getH (bl (((ofF l).2).getD (pK ((ofF l).2.length) 0) ⟨#[]⟩))).1, (((valS (((ofF l).2).getD (pK ((ofF l).2.length) 1) ⟨#[]⟩)).1)), (digD ((((((ofF l).1) && decide ((pK ((ofF l).2.length) 0) < ((ofF l).2.length))) && decide ((pK ((ofF l).2.length) 1) < ((ofF l).2.length))) && decide ((valS (((ofF l).2).getD (pK ((ofF l).2.length) 1) ⟨#[]⟩)).2 = 0)) && decide ((pK ((ofF l).2.length) 2) < ((ofF l).2.length))) (((ofF l).2).getD (pK ((ofF l).2.length) 2) ⟨#[]⟩))⟩ : Signed))) (H' := [rdB l, bxB 69 (signedC (⟨(⟨0, 0, 0, dz, 0⟩ : Head), 0, dz⟩ : Signed)), bxB 1 ([.bool (((((((ofF l).1) && decide ((pK ((ofF l).2.length) 0) < ((ofF l).2.length))) && decide ((pK ((ofF l).2.length) 1) < ((ofF l).2.length))) && decide ((valS (((ofF l).2).getD (pK ((ofF l).2.length) 1) ⟨#[]⟩)).2 = 0)) && decide ((pK ((ofF l).2.length) 2) < ((ofF l).2.length))) && decide ((((ofF l).2).getD (pK ((ofF l).2.length) 2) ⟨#[]⟩).size = 32))]), rfB (slv 4 (pK ((ofF l).2.length) 3) (remP ((ofF l).2.length) (pK ((ofF l).2.length) 3)) (remP ((ofF l).2.length) (pK ((ofF l).2.length) 3))), txB ((ofF l).2), rowB (bl (((ofF l).2).getD (pK ((ofF l).2.length) 0) ⟨#[]⟩)), bxB 36 (headC ((getH (bl (((ofF l).2).getD (pK ((ofF l).2.length) 0) ⟨#[]⟩))).1)), bxB 69 (signedC (⟨(getH (bl (((ofF l).2).getD (pK ((ofF l).2.length) 0) ⟨#[]⟩))).1, (((valS (((ofF l).2).getD (pK ((ofF l).2.length) 1) ⟨#[]⟩)).1)), (digD ((((((ofF l).1) && decide ((pK ((ofF l).2.length) 0) < ((ofF l).2.length))) && decide ((pK ((ofF l).2.length) 1) < ((ofF l).2.length))) && decide ((valS (((ofF l).2).getD (pK ((ofF l).2.length) 1) ⟨#[]⟩)).2 = 0)) && decide ((pK ((ofF l).2.length) 2) < ((ofF l).2.length))) (((ofF l).2).getD (pK ((ofF l).2.length) 2) ⟨#[]⟩))⟩ : Signed))]) rfl rfl rfl (by kernel_rfl) (by kernel_rfl) ?_
  refine r_doneN ?_
  refine x_then ?_
  refine c_seq ?_
  refine c_seq ?_
  refine c_reg ?_
  refine r_load (p := pt 2 0) (v := .bool (((((((ofF l).1) && decide ((pK ((ofF l).2.length) 0) < ((ofF l).2.length))) && decide ((pK ((ofF l).2.length) 1) < ((ofF l).2.length))) && decide ((valS (((ofF l).2).getD (pK ((ofF l).2.length) 1) ⟨#[]⟩)).2 = 0)) && decide ((pK ((ofF l).2.length) 2) < ((ofF l).2.length))) && decide ((((ofF l).2).getD (pK ((ofF l).2.length) 2) ⟨#[]⟩).size = 32))) rfl rfl rfl (by kernel_rfl) ?_
  rcases Bool.eq_false_or_eq_true (((((((ofF l).1) && decide ((pK ((ofF l).2.length) 0) < ((ofF l).2.length))) && decide ((pK ((ofF l).2.length) 1) < ((ofF l).2.length))) && decide ((valS (((ofF l).2).getD (pK ((ofF l).2.length) 1) ⟨#[]⟩)).2 = 0)) && decide ((pK ((ofF l).2.length) 2) < ((ofF l).2.length))) && decide ((((ofF l).2).getD (pK ((ofF l).2.length) 2) ⟨#[]⟩).size = 32)) with h1 | h1
  · skip
    refine r_un (v := .bool false) (vx := .bool (((((((ofF l).1) && decide ((pK ((ofF l).2.length) 0) < ((ofF l).2.length))) && decide ((pK ((ofF l).2.length) 1) < ((ofF l).2.length))) && decide ((valS (((ofF l).2).getD (pK ((ofF l).2.length) 1) ⟨#[]⟩)).2 = 0)) && decide ((pK ((ofF l).2.length) 2) < ((ofF l).2.length))) && decide ((((ofF l).2).getD (pK ((ofF l).2.length) 2) ⟨#[]⟩).size = 32))) rfl rfl rfl (Eq.trans un_not (congrArg (fun b => some (Value.bool !b)) h1)) ?_
    refine r_move (v := .bool false) rfl rfl rfl ?_
    refine r_move (v := .int .i64 (((getH (bl (((ofF l).2).getD (pK ((ofF l).2.length) 0) ⟨#[]⟩))).2))) rfl rfl rfl ?_
    by_cases h2 : (((getH (bl (((ofF l).2).getD (pK ((ofF l).2.length) 0) ⟨#[]⟩))).2)) ≠ 0
    · skip
      refine r_bin (v := .bool true) (vx := .int .i64 (((getH (bl (((ofF l).2).getD (pK ((ofF l).2.length) 0) ⟨#[]⟩))).2))) (vy := .int .i64 0) rfl rfl rfl rfl (neq_t (by omega)) ?_
      refine r_pick (v := .bool true) rfl rfl rfl ?_
      refine r_move (v := .bool true) rfl rfl rfl ?_
      refine r_skip rfl rfl ?_
      refine r_skip rfl rfl ?_
      refine r_skip rfl rfl ?_
      refine r_skip rfl rfl ?_
      refine r_skip rfl rfl ?_
      refine r_pick (v := .bool true) rfl rfl rfl ?_
      refine r_move (v := .bool true) rfl rfl rfl ?_
      refine r_skip rfl rfl ?_
      refine r_skip rfl rfl ?_
      refine r_skip rfl rfl ?_
      refine r_skip rfl rfl ?_
      refine r_pick (v := .bool true) rfl rfl rfl ?_
      refine r_doneN ?_
      refine x_then ?_
      refine c_true rfl ?_
      refine c_seq ?_
      refine c_reg ?_
      refine r_build (vs := []) (v := signedV (⟨(⟨0, 0, 0, dz, 0⟩ : Head), 0, dz⟩ : Signed)) rfl rfl rfl (by kernel_rfl) ?_
      refine r_store (p := pt 1 0) (v := signedV (⟨(⟨0, 0, 0, dz, 0⟩ : Head), 0, dz⟩ : Signed)) (b := 1) (blk := bxB 69 (signedC (⟨(⟨0, 0, 0, dz, 0⟩ : Head), 0, dz⟩ : Signed))) (H' := [rdB l, bxB 69 (signedC (⟨(⟨0, 0, 0, dz, 0⟩ : Head), 0, dz⟩ : Signed)), bxB 1 ([.bool (((((((ofF l).1) && decide ((pK ((ofF l).2.length) 0) < ((ofF l).2.length))) && decide ((pK ((ofF l).2.length) 1) < ((ofF l).2.length))) && decide ((valS (((ofF l).2).getD (pK ((ofF l).2.length) 1) ⟨#[]⟩)).2 = 0)) && decide ((pK ((ofF l).2.length) 2) < ((ofF l).2.length))) && decide ((((ofF l).2).getD (pK ((ofF l).2.length) 2) ⟨#[]⟩).size = 32))]), rfB (slv 4 (pK ((ofF l).2.length) 3) (remP ((ofF l).2.length) (pK ((ofF l).2.length) 3)) (remP ((ofF l).2.length) (pK ((ofF l).2.length) 3))), txB ((ofF l).2), rowB (bl (((ofF l).2).getD (pK ((ofF l).2.length) 0) ⟨#[]⟩)), bxB 36 (headC ((getH (bl (((ofF l).2).getD (pK ((ofF l).2.length) 0) ⟨#[]⟩))).1)), bxB 69 (signedC (⟨(getH (bl (((ofF l).2).getD (pK ((ofF l).2.length) 0) ⟨#[]⟩))).1, (((valS (((ofF l).2).getD (pK ((ofF l).2.length) 1) ⟨#[]⟩)).1)), (digD ((((((ofF l).1) && decide ((pK ((ofF l).2.length) 0) < ((ofF l).2.length))) && decide ((pK ((ofF l).2.length) 1) < ((ofF l).2.length))) && decide ((valS (((ofF l).2).getD (pK ((ofF l).2.length) 1) ⟨#[]⟩)).2 = 0)) && decide ((pK ((ofF l).2.length) 2) < ((ofF l).2.length))) (((ofF l).2).getD (pK ((ofF l).2.length) 2) ⟨#[]⟩))⟩ : Signed))]) rfl rfl rfl (by kernel_rfl) (by kernel_rfl) ?_
      refine r_assign (v := .int .i64 70) rfl rfl rfl ?_
      refine r_doneN ?_
      refine x_then ?_
      refine c_ret ?_
      refine x_thenR ?_
      refine x_end ?_
      rw [show getS l = ((⟨(⟨0, 0, 0, dz, 0⟩ : Head), 0, dz⟩ : Signed), 70) from by unfold getS; rw [if_pos h1, if_pos h2]]
      exact end_same (v := .tuple #[signedV (⟨(⟨0, 0, 0, dz, 0⟩ : Head), 0, dz⟩ : Signed), .int .i64 70]) (by kernel_rfl) rfl rfl (by simp [keptB, rdB]) ⟨(argV_p (by kernel_rfl) rfl), rfl, trivial⟩
    refine r_bin (v := .bool false) (vx := .int .i64 (((getH (bl (((ofF l).2).getD (pK ((ofF l).2.length) 0) ⟨#[]⟩))).2))) (vy := .int .i64 0) rfl rfl rfl rfl (neq_f (by omega)) ?_
    refine r_pick (v := .bool false) rfl rfl rfl ?_
    refine r_move (v := .bool false) rfl rfl rfl ?_
    refine r_move (v := pt 3 0) rfl rfl rfl ?_
    refine r_nilCheck (p := pt 3 0) (v := pt 3 0) rfl rfl rfl rfl ?_
    refine r_load (p := pt 3 0) (v := slv 4 (pK ((ofF l).2.length) 3) (remP ((ofF l).2.length) (pK ((ofF l).2.length) 3)) (remP ((ofF l).2.length) (pK ((ofF l).2.length) 3))) rfl rfl rfl rfl ?_
    refine r_len (p := slv 4 (pK ((ofF l).2.length) 3) (remP ((ofF l).2.length) (pK ((ofF l).2.length) 3)) (remP ((ofF l).2.length) (pK ((ofF l).2.length) 3))) (v := .int .i64 (((remP ((ofF l).2.length) (pK ((ofF l).2.length) 3)) : Nat) : Int)) rfl rfl rfl rfl ?_
    by_cases h3 : 0 < (((remP ((ofF l).2.length) (pK ((ofF l).2.length) 3)) : Nat) : Int)
    · skip
      refine r_bin (v := .bool true) (vx := .int .i64 (((remP ((ofF l).2.length) (pK ((ofF l).2.length) 3)) : Nat) : Int)) (vy := .int .i64 0) rfl rfl rfl rfl (gtr_t (by omega)) ?_
      refine r_pick (v := .bool true) rfl rfl rfl ?_
      refine r_move (v := .bool true) rfl rfl rfl ?_
      refine r_skip rfl rfl ?_
      refine r_skip rfl rfl ?_
      refine r_skip rfl rfl ?_
      refine r_skip rfl rfl ?_
      refine r_pick (v := .bool true) rfl rfl rfl ?_
      refine r_doneN ?_
      refine x_then ?_
      refine c_true rfl ?_
      refine c_seq ?_
      refine c_reg ?_
      refine r_build (vs := []) (v := signedV (⟨(⟨0, 0, 0, dz, 0⟩ : Head), 0, dz⟩ : Signed)) rfl rfl rfl (by kernel_rfl) ?_
      refine r_store (p := pt 1 0) (v := signedV (⟨(⟨0, 0, 0, dz, 0⟩ : Head), 0, dz⟩ : Signed)) (b := 1) (blk := bxB 69 (signedC (⟨(⟨0, 0, 0, dz, 0⟩ : Head), 0, dz⟩ : Signed))) (H' := [rdB l, bxB 69 (signedC (⟨(⟨0, 0, 0, dz, 0⟩ : Head), 0, dz⟩ : Signed)), bxB 1 ([.bool (((((((ofF l).1) && decide ((pK ((ofF l).2.length) 0) < ((ofF l).2.length))) && decide ((pK ((ofF l).2.length) 1) < ((ofF l).2.length))) && decide ((valS (((ofF l).2).getD (pK ((ofF l).2.length) 1) ⟨#[]⟩)).2 = 0)) && decide ((pK ((ofF l).2.length) 2) < ((ofF l).2.length))) && decide ((((ofF l).2).getD (pK ((ofF l).2.length) 2) ⟨#[]⟩).size = 32))]), rfB (slv 4 (pK ((ofF l).2.length) 3) (remP ((ofF l).2.length) (pK ((ofF l).2.length) 3)) (remP ((ofF l).2.length) (pK ((ofF l).2.length) 3))), txB ((ofF l).2), rowB (bl (((ofF l).2).getD (pK ((ofF l).2.length) 0) ⟨#[]⟩)), bxB 36 (headC ((getH (bl (((ofF l).2).getD (pK ((ofF l).2.length) 0) ⟨#[]⟩))).1)), bxB 69 (signedC (⟨(getH (bl (((ofF l).2).getD (pK ((ofF l).2.length) 0) ⟨#[]⟩))).1, (((valS (((ofF l).2).getD (pK ((ofF l).2.length) 1) ⟨#[]⟩)).1)), (digD ((((((ofF l).1) && decide ((pK ((ofF l).2.length) 0) < ((ofF l).2.length))) && decide ((pK ((ofF l).2.length) 1) < ((ofF l).2.length))) && decide ((valS (((ofF l).2).getD (pK ((ofF l).2.length) 1) ⟨#[]⟩)).2 = 0)) && decide ((pK ((ofF l).2.length) 2) < ((ofF l).2.length))) (((ofF l).2).getD (pK ((ofF l).2.length) 2) ⟨#[]⟩))⟩ : Signed))]) rfl rfl rfl (by kernel_rfl) (by kernel_rfl) ?_
      refine r_assign (v := .int .i64 70) rfl rfl rfl ?_
      refine r_doneN ?_
      refine x_then ?_
      refine c_ret ?_
      refine x_thenR ?_
      refine x_end ?_
      rw [show getS l = ((⟨(⟨0, 0, 0, dz, 0⟩ : Head), 0, dz⟩ : Signed), 70) from by unfold getS; rw [if_pos h1, if_neg h2, if_pos h3]]
      exact end_same (v := .tuple #[signedV (⟨(⟨0, 0, 0, dz, 0⟩ : Head), 0, dz⟩ : Signed), .int .i64 70]) (by kernel_rfl) rfl rfl (by simp [keptB, rdB]) ⟨(argV_p (by kernel_rfl) rfl), rfl, trivial⟩
    refine r_bin (v := .bool false) (vx := .int .i64 (((remP ((ofF l).2.length) (pK ((ofF l).2.length) 3)) : Nat) : Int)) (vy := .int .i64 0) rfl rfl rfl rfl (gtr_f (by omega)) ?_
    refine r_pick (v := .bool false) rfl rfl rfl ?_
    refine r_move (v := .bool false) rfl rfl rfl ?_
    refine r_fieldAddr (b := 7) (o := 0) (n := 36) (o' := 36) rfl rfl rfl rfl rfl ?_
    refine r_load (p := pt 7 36) (v := .int .i64 (((valS (((ofF l).2).getD (pK ((ofF l).2.length) 1) ⟨#[]⟩)).1))) rfl rfl rfl (by kernel_rfl) ?_
    by_cases h4 : 1 ≤ (((valS (((ofF l).2).getD (pK ((ofF l).2.length) 1) ⟨#[]⟩)).1))
    · skip
      by_cases h5 : (((valS (((ofF l).2).getD (pK ((ofF l).2.length) 1) ⟨#[]⟩)).1)) ≤ 3
      · skip
        refine r_callP ((within_ok (G := G) (((valS (((ofF l).2).getD (pK ((ofF l).2.length) 1) ⟨#[]⟩)).1)) 1 3).res (congrArg Value.bool (withinB_t (by omega) (by omega)))) (vals := [.int .i64 (((valS (((ofF l).2).getD (pK ((ofF l).2.length) 1) ⟨#[]⟩)).1)), .int .i64 1, .int .i64 3]) (res' := .bool true) rfl rfl rfl rfl rfl rfl ?_
        refine r_un (v := .bool false) (vx := .bool true) rfl rfl rfl un_not ?_
        refine r_pick (v := .bool false) rfl rfl rfl ?_
        refine r_doneN ?_
        refine x_then ?_
        refine c_false rfl ?_
        refine c_skip ?_
        refine x_then ?_
        refine c_seq ?_
        refine c_reg ?_
        refine r_load (p := pt 7 0) (v := signedV (⟨(getH (bl (((ofF l).2).getD (pK ((ofF l).2.length) 0) ⟨#[]⟩))).1, (((valS (((ofF l).2).getD (pK ((ofF l).2.length) 1) ⟨#[]⟩)).1)), (digD ((((((ofF l).1) && decide ((pK ((ofF l).2.length) 0) < ((ofF l).2.length))) && decide ((pK ((ofF l).2.length) 1) < ((ofF l).2.length))) && decide ((valS (((ofF l).2).getD (pK ((ofF l).2.length) 1) ⟨#[]⟩)).2 = 0)) && decide ((pK ((ofF l).2.length) 2) < ((ofF l).2.length))) (((ofF l).2).getD (pK ((ofF l).2.length) 2) ⟨#[]⟩))⟩ : Signed)) rfl rfl rfl (by kernel_rfl) ?_
        refine r_store (p := pt 1 0) (v := signedV (⟨(getH (bl (((ofF l).2).getD (pK ((ofF l).2.length) 0) ⟨#[]⟩))).1, (((valS (((ofF l).2).getD (pK ((ofF l).2.length) 1) ⟨#[]⟩)).1)), (digD ((((((ofF l).1) && decide ((pK ((ofF l).2.length) 0) < ((ofF l).2.length))) && decide ((pK ((ofF l).2.length) 1) < ((ofF l).2.length))) && decide ((valS (((ofF l).2).getD (pK ((ofF l).2.length) 1) ⟨#[]⟩)).2 = 0)) && decide ((pK ((ofF l).2.length) 2) < ((ofF l).2.length))) (((ofF l).2).getD (pK ((ofF l).2.length) 2) ⟨#[]⟩))⟩ : Signed)) (b := 1) (blk := bxB 69 (signedC (⟨(getH (bl (((ofF l).2).getD (pK ((ofF l).2.length) 0) ⟨#[]⟩))).1, (((valS (((ofF l).2).getD (pK ((ofF l).2.length) 1) ⟨#[]⟩)).1)), (digD ((((((ofF l).1) && decide ((pK ((ofF l).2.length) 0) < ((ofF l).2.length))) && decide ((pK ((ofF l).2.length) 1) < ((ofF l).2.length))) && decide ((valS (((ofF l).2).getD (pK ((ofF l).2.length) 1) ⟨#[]⟩)).2 = 0)) && decide ((pK ((ofF l).2.length) 2) < ((ofF l).2.length))) (((ofF l).2).getD (pK ((ofF l).2.length) 2) ⟨#[]⟩))⟩ : Signed))) (H' := [rdB l, bxB 69 (signedC (⟨(getH (bl (((ofF l).2).getD (pK ((ofF l).2.length) 0) ⟨#[]⟩))).1, (((valS (((ofF l).2).getD (pK ((ofF l).2.length) 1) ⟨#[]⟩)).1)), (digD ((((((ofF l).1) && decide ((pK ((ofF l).2.length) 0) < ((ofF l).2.length))) && decide ((pK ((ofF l).2.length) 1) < ((ofF l).2.length))) && decide ((valS (((ofF l).2).getD (pK ((ofF l).2.length) 1) ⟨#[]⟩)).2 = 0)) && decide ((pK ((ofF l).2.length) 2) < ((ofF l).2.length))) (((ofF l).2).getD (pK ((ofF l).2.length) 2) ⟨#[]⟩))⟩ : Signed)), bxB 1 ([.bool (((((((ofF l).1) && decide ((pK ((ofF l).2.length) 0) < ((ofF l).2.length))) && decide ((pK ((ofF l).2.length) 1) < ((ofF l).2.length))) && decide ((valS (((ofF l).2).getD (pK ((ofF l).2.length) 1) ⟨#[]⟩)).2 = 0)) && decide ((pK ((ofF l).2.length) 2) < ((ofF l).2.length))) && decide ((((ofF l).2).getD (pK ((ofF l).2.length) 2) ⟨#[]⟩).size = 32))]), rfB (slv 4 (pK ((ofF l).2.length) 3) (remP ((ofF l).2.length) (pK ((ofF l).2.length) 3)) (remP ((ofF l).2.length) (pK ((ofF l).2.length) 3))), txB ((ofF l).2), rowB (bl (((ofF l).2).getD (pK ((ofF l).2.length) 0) ⟨#[]⟩)), bxB 36 (headC ((getH (bl (((ofF l).2).getD (pK ((ofF l).2.length) 0) ⟨#[]⟩))).1)), bxB 69 (signedC (⟨(getH (bl (((ofF l).2).getD (pK ((ofF l).2.length) 0) ⟨#[]⟩))).1, (((valS (((ofF l).2).getD (pK ((ofF l).2.length) 1) ⟨#[]⟩)).1)), (digD ((((((ofF l).1) && decide ((pK ((ofF l).2.length) 0) < ((ofF l).2.length))) && decide ((pK ((ofF l).2.length) 1) < ((ofF l).2.length))) && decide ((valS (((ofF l).2).getD (pK ((ofF l).2.length) 1) ⟨#[]⟩)).2 = 0)) && decide ((pK ((ofF l).2.length) 2) < ((ofF l).2.length))) (((ofF l).2).getD (pK ((ofF l).2.length) 2) ⟨#[]⟩))⟩ : Signed))]) rfl rfl rfl (by kernel_rfl) (by kernel_rfl) ?_
        refine r_assign (v := .int .i64 0) rfl rfl rfl ?_
        refine r_doneN ?_
        refine x_then ?_
        refine c_ret ?_
        refine x_end ?_
        rw [show getS l = ((⟨(getH (bl (((ofF l).2).getD (pK ((ofF l).2.length) 0) ⟨#[]⟩))).1, (((valS (((ofF l).2).getD (pK ((ofF l).2.length) 1) ⟨#[]⟩)).1)), (digD ((((((ofF l).1) && decide ((pK ((ofF l).2.length) 0) < ((ofF l).2.length))) && decide ((pK ((ofF l).2.length) 1) < ((ofF l).2.length))) && decide ((valS (((ofF l).2).getD (pK ((ofF l).2.length) 1) ⟨#[]⟩)).2 = 0)) && decide ((pK ((ofF l).2.length) 2) < ((ofF l).2.length))) (((ofF l).2).getD (pK ((ofF l).2.length) 2) ⟨#[]⟩))⟩ : Signed), 0) from by unfold getS; rw [if_pos h1, if_neg h2, if_neg h3, if_pos h4, if_pos h5]]
        exact end_same (v := .tuple #[signedV (⟨(getH (bl (((ofF l).2).getD (pK ((ofF l).2.length) 0) ⟨#[]⟩))).1, (((valS (((ofF l).2).getD (pK ((ofF l).2.length) 1) ⟨#[]⟩)).1)), (digD ((((((ofF l).1) && decide ((pK ((ofF l).2.length) 0) < ((ofF l).2.length))) && decide ((pK ((ofF l).2.length) 1) < ((ofF l).2.length))) && decide ((valS (((ofF l).2).getD (pK ((ofF l).2.length) 1) ⟨#[]⟩)).2 = 0)) && decide ((pK ((ofF l).2.length) 2) < ((ofF l).2.length))) (((ofF l).2).getD (pK ((ofF l).2.length) 2) ⟨#[]⟩))⟩ : Signed), .int .i64 0]) (by kernel_rfl) rfl rfl (by simp [keptB, rdB]) ⟨(argV_p (by kernel_rfl) rfl), rfl, trivial⟩
      refine r_callP ((within_ok (G := G) (((valS (((ofF l).2).getD (pK ((ofF l).2.length) 1) ⟨#[]⟩)).1)) 1 3).res (congrArg Value.bool (withinB_f (by omega)))) (vals := [.int .i64 (((valS (((ofF l).2).getD (pK ((ofF l).2.length) 1) ⟨#[]⟩)).1)), .int .i64 1, .int .i64 3]) (res' := .bool false) rfl rfl rfl rfl rfl rfl ?_
      refine r_un (v := .bool true) (vx := .bool false) rfl rfl rfl un_not ?_
      refine r_pick (v := .bool true) rfl rfl rfl ?_
      refine r_doneN ?_
      refine x_then ?_
      refine c_true rfl ?_
      refine c_seq ?_
      refine c_reg ?_
      refine r_build (vs := []) (v := signedV (⟨(⟨0, 0, 0, dz, 0⟩ : Head), 0, dz⟩ : Signed)) rfl rfl rfl (by kernel_rfl) ?_
      refine r_store (p := pt 1 0) (v := signedV (⟨(⟨0, 0, 0, dz, 0⟩ : Head), 0, dz⟩ : Signed)) (b := 1) (blk := bxB 69 (signedC (⟨(⟨0, 0, 0, dz, 0⟩ : Head), 0, dz⟩ : Signed))) (H' := [rdB l, bxB 69 (signedC (⟨(⟨0, 0, 0, dz, 0⟩ : Head), 0, dz⟩ : Signed)), bxB 1 ([.bool (((((((ofF l).1) && decide ((pK ((ofF l).2.length) 0) < ((ofF l).2.length))) && decide ((pK ((ofF l).2.length) 1) < ((ofF l).2.length))) && decide ((valS (((ofF l).2).getD (pK ((ofF l).2.length) 1) ⟨#[]⟩)).2 = 0)) && decide ((pK ((ofF l).2.length) 2) < ((ofF l).2.length))) && decide ((((ofF l).2).getD (pK ((ofF l).2.length) 2) ⟨#[]⟩).size = 32))]), rfB (slv 4 (pK ((ofF l).2.length) 3) (remP ((ofF l).2.length) (pK ((ofF l).2.length) 3)) (remP ((ofF l).2.length) (pK ((ofF l).2.length) 3))), txB ((ofF l).2), rowB (bl (((ofF l).2).getD (pK ((ofF l).2.length) 0) ⟨#[]⟩)), bxB 36 (headC ((getH (bl (((ofF l).2).getD (pK ((ofF l).2.length) 0) ⟨#[]⟩))).1)), bxB 69 (signedC (⟨(getH (bl (((ofF l).2).getD (pK ((ofF l).2.length) 0) ⟨#[]⟩))).1, (((valS (((ofF l).2).getD (pK ((ofF l).2.length) 1) ⟨#[]⟩)).1)), (digD ((((((ofF l).1) && decide ((pK ((ofF l).2.length) 0) < ((ofF l).2.length))) && decide ((pK ((ofF l).2.length) 1) < ((ofF l).2.length))) && decide ((valS (((ofF l).2).getD (pK ((ofF l).2.length) 1) ⟨#[]⟩)).2 = 0)) && decide ((pK ((ofF l).2.length) 2) < ((ofF l).2.length))) (((ofF l).2).getD (pK ((ofF l).2.length) 2) ⟨#[]⟩))⟩ : Signed))]) rfl rfl rfl (by kernel_rfl) (by kernel_rfl) ?_
      refine r_assign (v := .int .i64 70) rfl rfl rfl ?_
      refine r_doneN ?_
      refine x_then ?_
      refine c_ret ?_
      refine x_thenR ?_
      refine x_end ?_
      rw [show getS l = ((⟨(⟨0, 0, 0, dz, 0⟩ : Head), 0, dz⟩ : Signed), 70) from by unfold getS; rw [if_pos h1, if_neg h2, if_neg h3, if_pos h4, if_neg h5]]
      exact end_same (v := .tuple #[signedV (⟨(⟨0, 0, 0, dz, 0⟩ : Head), 0, dz⟩ : Signed), .int .i64 70]) (by kernel_rfl) rfl rfl (by simp [keptB, rdB]) ⟨(argV_p (by kernel_rfl) rfl), rfl, trivial⟩
    refine r_callP ((within_ok (G := G) (((valS (((ofF l).2).getD (pK ((ofF l).2.length) 1) ⟨#[]⟩)).1)) 1 3).res (congrArg Value.bool (withinB_f (by omega)))) (vals := [.int .i64 (((valS (((ofF l).2).getD (pK ((ofF l).2.length) 1) ⟨#[]⟩)).1)), .int .i64 1, .int .i64 3]) (res' := .bool false) rfl rfl rfl rfl rfl rfl ?_
    refine r_un (v := .bool true) (vx := .bool false) rfl rfl rfl un_not ?_
    refine r_pick (v := .bool true) rfl rfl rfl ?_
    refine r_doneN ?_
    refine x_then ?_
    refine c_true rfl ?_
    refine c_seq ?_
    refine c_reg ?_
    refine r_build (vs := []) (v := signedV (⟨(⟨0, 0, 0, dz, 0⟩ : Head), 0, dz⟩ : Signed)) rfl rfl rfl (by kernel_rfl) ?_
    refine r_store (p := pt 1 0) (v := signedV (⟨(⟨0, 0, 0, dz, 0⟩ : Head), 0, dz⟩ : Signed)) (b := 1) (blk := bxB 69 (signedC (⟨(⟨0, 0, 0, dz, 0⟩ : Head), 0, dz⟩ : Signed))) (H' := [rdB l, bxB 69 (signedC (⟨(⟨0, 0, 0, dz, 0⟩ : Head), 0, dz⟩ : Signed)), bxB 1 ([.bool (((((((ofF l).1) && decide ((pK ((ofF l).2.length) 0) < ((ofF l).2.length))) && decide ((pK ((ofF l).2.length) 1) < ((ofF l).2.length))) && decide ((valS (((ofF l).2).getD (pK ((ofF l).2.length) 1) ⟨#[]⟩)).2 = 0)) && decide ((pK ((ofF l).2.length) 2) < ((ofF l).2.length))) && decide ((((ofF l).2).getD (pK ((ofF l).2.length) 2) ⟨#[]⟩).size = 32))]), rfB (slv 4 (pK ((ofF l).2.length) 3) (remP ((ofF l).2.length) (pK ((ofF l).2.length) 3)) (remP ((ofF l).2.length) (pK ((ofF l).2.length) 3))), txB ((ofF l).2), rowB (bl (((ofF l).2).getD (pK ((ofF l).2.length) 0) ⟨#[]⟩)), bxB 36 (headC ((getH (bl (((ofF l).2).getD (pK ((ofF l).2.length) 0) ⟨#[]⟩))).1)), bxB 69 (signedC (⟨(getH (bl (((ofF l).2).getD (pK ((ofF l).2.length) 0) ⟨#[]⟩))).1, (((valS (((ofF l).2).getD (pK ((ofF l).2.length) 1) ⟨#[]⟩)).1)), (digD ((((((ofF l).1) && decide ((pK ((ofF l).2.length) 0) < ((ofF l).2.length))) && decide ((pK ((ofF l).2.length) 1) < ((ofF l).2.length))) && decide ((valS (((ofF l).2).getD (pK ((ofF l).2.length) 1) ⟨#[]⟩)).2 = 0)) && decide ((pK ((ofF l).2.length) 2) < ((ofF l).2.length))) (((ofF l).2).getD (pK ((ofF l).2.length) 2) ⟨#[]⟩))⟩ : Signed))]) rfl rfl rfl (by kernel_rfl) (by kernel_rfl) ?_
    refine r_assign (v := .int .i64 70) rfl rfl rfl ?_
    refine r_doneN ?_
    refine x_then ?_
    refine c_ret ?_
    refine x_thenR ?_
    refine x_end ?_
    rw [show getS l = ((⟨(⟨0, 0, 0, dz, 0⟩ : Head), 0, dz⟩ : Signed), 70) from by unfold getS; rw [if_pos h1, if_neg h2, if_neg h3, if_neg h4]]
    exact end_same (v := .tuple #[signedV (⟨(⟨0, 0, 0, dz, 0⟩ : Head), 0, dz⟩ : Signed), .int .i64 70]) (by kernel_rfl) rfl rfl (by simp [keptB, rdB]) ⟨(argV_p (by kernel_rfl) rfl), rfl, trivial⟩
  refine r_un (v := .bool true) (vx := .bool (((((((ofF l).1) && decide ((pK ((ofF l).2.length) 0) < ((ofF l).2.length))) && decide ((pK ((ofF l).2.length) 1) < ((ofF l).2.length))) && decide ((valS (((ofF l).2).getD (pK ((ofF l).2.length) 1) ⟨#[]⟩)).2 = 0)) && decide ((pK ((ofF l).2.length) 2) < ((ofF l).2.length))) && decide ((((ofF l).2).getD (pK ((ofF l).2.length) 2) ⟨#[]⟩).size = 32))) rfl rfl rfl (Eq.trans un_not (congrArg (fun b => some (Value.bool !b)) h1)) ?_
  refine r_move (v := .bool true) rfl rfl rfl ?_
  refine r_skip rfl rfl ?_
  refine r_skip rfl rfl ?_
  refine r_pick (v := .bool true) rfl rfl rfl ?_
  refine r_move (v := .bool true) rfl rfl rfl ?_
  refine r_skip rfl rfl ?_
  refine r_skip rfl rfl ?_
  refine r_skip rfl rfl ?_
  refine r_skip rfl rfl ?_
  refine r_skip rfl rfl ?_
  refine r_pick (v := .bool true) rfl rfl rfl ?_
  refine r_move (v := .bool true) rfl rfl rfl ?_
  refine r_skip rfl rfl ?_
  refine r_skip rfl rfl ?_
  refine r_skip rfl rfl ?_
  refine r_skip rfl rfl ?_
  refine r_pick (v := .bool true) rfl rfl rfl ?_
  refine r_doneN ?_
  refine x_then ?_
  refine c_true rfl ?_
  refine c_seq ?_
  refine c_reg ?_
  refine r_build (vs := []) (v := signedV (⟨(⟨0, 0, 0, dz, 0⟩ : Head), 0, dz⟩ : Signed)) rfl rfl rfl (by kernel_rfl) ?_
  refine r_store (p := pt 1 0) (v := signedV (⟨(⟨0, 0, 0, dz, 0⟩ : Head), 0, dz⟩ : Signed)) (b := 1) (blk := bxB 69 (signedC (⟨(⟨0, 0, 0, dz, 0⟩ : Head), 0, dz⟩ : Signed))) (H' := [rdB l, bxB 69 (signedC (⟨(⟨0, 0, 0, dz, 0⟩ : Head), 0, dz⟩ : Signed)), bxB 1 ([.bool (((((((ofF l).1) && decide ((pK ((ofF l).2.length) 0) < ((ofF l).2.length))) && decide ((pK ((ofF l).2.length) 1) < ((ofF l).2.length))) && decide ((valS (((ofF l).2).getD (pK ((ofF l).2.length) 1) ⟨#[]⟩)).2 = 0)) && decide ((pK ((ofF l).2.length) 2) < ((ofF l).2.length))) && decide ((((ofF l).2).getD (pK ((ofF l).2.length) 2) ⟨#[]⟩).size = 32))]), rfB (slv 4 (pK ((ofF l).2.length) 3) (remP ((ofF l).2.length) (pK ((ofF l).2.length) 3)) (remP ((ofF l).2.length) (pK ((ofF l).2.length) 3))), txB ((ofF l).2), rowB (bl (((ofF l).2).getD (pK ((ofF l).2.length) 0) ⟨#[]⟩)), bxB 36 (headC ((getH (bl (((ofF l).2).getD (pK ((ofF l).2.length) 0) ⟨#[]⟩))).1)), bxB 69 (signedC (⟨(getH (bl (((ofF l).2).getD (pK ((ofF l).2.length) 0) ⟨#[]⟩))).1, (((valS (((ofF l).2).getD (pK ((ofF l).2.length) 1) ⟨#[]⟩)).1)), (digD ((((((ofF l).1) && decide ((pK ((ofF l).2.length) 0) < ((ofF l).2.length))) && decide ((pK ((ofF l).2.length) 1) < ((ofF l).2.length))) && decide ((valS (((ofF l).2).getD (pK ((ofF l).2.length) 1) ⟨#[]⟩)).2 = 0)) && decide ((pK ((ofF l).2.length) 2) < ((ofF l).2.length))) (((ofF l).2).getD (pK ((ofF l).2.length) 2) ⟨#[]⟩))⟩ : Signed))]) rfl rfl rfl (by kernel_rfl) (by kernel_rfl) ?_
  refine r_assign (v := .int .i64 70) rfl rfl rfl ?_
  refine r_doneN ?_
  refine x_then ?_
  refine c_ret ?_
  refine x_thenR ?_
  refine x_end ?_
  rw [show getS l = ((⟨(⟨0, 0, 0, dz, 0⟩ : Head), 0, dz⟩ : Signed), 70) from by unfold getS; rw [if_neg (by rw [h1]; decide)]]
  exact end_same (v := .tuple #[signedV (⟨(⟨0, 0, 0, dz, 0⟩ : Head), 0, dz⟩ : Signed), .int .i64 70]) (by kernel_rfl) rfl rfl (by simp [keptB, rdB]) ⟨(argV_p (by kernel_rfl) rfl), rfl, trivial⟩
end Go.Flat
