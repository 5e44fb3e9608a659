/- Walks and plain laws: what each theorem says, within the bounds that it names. -/
import Derived.Test.YthfklplpfbmkgaaH7
set_option linter.unusedVariables false
set_option linter.unusedSimpArgs false
set_option maxRecDepth 20000
set_option maxRecDepth 20000
namespace Go.Flat
open Go.Proofs
variable {G : Glob}
theorem headL_sz (h : Head) : ∀ x, x ∈ headL h → x.size ≤ 65536 := by
  intro x hx
  have h1 := numS_size h.region
  have h2 := numS_size h.epoch
  have h3 := numS_size h.size
  have h4 := numS_size h.tick
  simp only [headL, List.mem_cons, List.mem_nil_iff, or_false] at hx
  rcases hx with rfl | rfl | rfl | rfl | rfl
  all_goals first | omega | (rw [strOf_size, dgL_len]; omega)
theorem putH_one {h : Head} (hr : rightH h) : putH h = (bytesR (headL h), 0) := by
  unfold putH
  rw [if_pos (by rw [checkE_eq, if_pos hr])]
theorem bytesH_len (h : Head) : (bytesR (headL h)).length ≤ 100 := by
  have := layF_len (rowF 0 (headL h)) 0 []
  simp only [headL, rowF, sumF, strOf_size, dgL_len, List.length_nil] at this
  have h1 := numS_size h.region
  have h2 := numS_size h.epoch
  have h3 := numS_size h.size
  have h4 := numS_size h.tick
  show (layF (rowF 0 (headL h)) 0 []).1.length ≤ 100
  simp only [headL, rowF]
  omega
def signedL (s : Signed) : List ByteArray := [strOf (bytesR (headL s.head)), (numS s.node).1, strOf (dgL s.tag)]
theorem signedL_sz (s : Signed) : ∀ x, x ∈ signedL s → x.size ≤ 65536 := by
  intro x hx
  have h1 := numS_size s.node
  have h2 := bytesH_len s.head
  simp only [signedL, List.mem_cons, List.mem_nil_iff, or_false] at hx
  rcases hx with rfl | rfl | rfl
  all_goals first | omega | (rw [strOf_size]; omega) | (rw [strOf_size, dgL_len]; omega)
def mayS (s : Signed) : Prop := rightH s.head ∧ 1 ≤ s.node ∧ s.node ≤ 3
instance (s : Signed) : Decidable (mayS s) := inferInstanceAs (Decidable (_ ∧ _))
theorem putSF_pos {s : Signed} (h : mayS s) : putSF s = (bytesR (signedL s), 0) := by
  unfold putSF
  rw [if_pos ⟨by rw [checkE_eq, if_pos h.1], h.2⟩, putH_one h.1]
  try rfl
theorem putSF_neg {s : Signed} (h : ¬ mayS s) : putSF s = ([], 70) := by
  unfold putSF
  rw [if_neg]
  rintro ⟨h1, h2⟩
  refine h ⟨?_, h2⟩
  rw [checkE_eq] at h1
  split at h1
  · assumption
  · omega
theorem blk_step {key : D} {u x : BitVec 8} {j : Nat} {acc : Bs} (h : acc = (List.range j).map (fun i => padK key i ^^^ u)) (hx : padK key j = x) : acc ++ [x ^^^ u] = (List.range (j + 1)).map (fun i => padK key i ^^^ u) := by
  subst h; subst hx
  rw [List.range_succ, List.map_append]; rfl
theorem blockT_eq (key : D) (u : BitVec 8) : blockT key u = strOf ((List.range 64).map (fun i => padK key i ^^^ u)) := by
  unfold blockT rowL
  congr 1
theorem macT_bl (kk : Nat → BitVec 32) (key : D) (s : ByteArray) : macT kk key s = shaOf kk (bl (blockT key 92#8 ++ strOf (dgL (shaOf kk (bl (blockT key 54#8 ++ s)))))) := by
  have e : ∀ a b : ByteArray, bl (a ++ b) = msgOf [a, b] := fun a b => by rw [bl_append]; simp [msgOf]
  rw [e, e]; rfl
def tagT (kk : Nat → BitVec 32) (master : D) (h : Head) (node : Int) : D := macT kk (macT kk master (strOf [75#8, BitVec.ofInt 8 h.region, BitVec.ofInt 8 node])) (markT ++ strOf (bytesR (headL h)))
def zeroS : Signed := ⟨⟨0, 0, 0, dz, 0⟩, 0, dz⟩
def signR (kk : Nat → BitVec 32) (master : D) (h : Head) (node : Int) : Signed × Int := if rightH h ∧ 1 ≤ node ∧ node ≤ 3 then (⟨h, node, tagT kk master h node⟩, 0) else (zeroS, 70)
def verifyR (kk : Nat → BitVec 32) (master : D) (s : Signed) : Int := if mayS s then (if sameB 32 (tagT kk master s.head s.node) s.tag = true then 0 else 72) else 70
theorem refBytes_ok (h : Head) (hr : rightH h) : CallL Try.prog G 13 [headV h] [] (slv 0 0 (bytesR (headL h)).length (bytesR (headL h)).length) [rowB (bytesR (headL h))] := by
  unfold rightH at hr
  refine walk (fn := Try.f13) (nt := 20) rfl rfl rfl rfl ?_
  refine c_hole 3 (H' := [hole, hole, hole]) rfl ?_
  refine c_seq ?_
  refine c_reg ?_
  refine r_box (v := headV h) (b := bxB 36 (headC h)) (nid := 0) (H' := [bxB 36 (headC h), hole, hole]) rfl rfl rfl (by kernel_rfl) (by kernel_rfl) ?_
  refine r_assign (v := .slice none 0 0) rfl rfl rfl ?_
  refine r_doneN ?_
  refine x_then ?_
  refine c_seq ?_
  refine c_drawK (by kernel_rfl) ?_
  refine r_fieldAddr (b := 0) (o := 0) (n := 0) (o' := 0) rfl rfl rfl rfl rfl ?_
  refine r_load (p := pt 0 0) (v := .int .i64 h.region) rfl rfl rfl (by kernel_rfl) ?_
  refine r_callP (refNum_ok (G := G) h.region (by omega) (by omega)) (vals := [.int .i64 h.region]) (res' := .string ((numS h.region).1)) rfl rfl rfl rfl rfl rfl ?_
  refine r_fieldAddr (b := 0) (o := 0) (n := 1) (o' := 1) rfl rfl rfl rfl rfl ?_
  refine r_load (p := pt 0 1) (v := .int .i64 h.epoch) rfl rfl rfl (by kernel_rfl) ?_
  refine r_callP (refNum_ok (G := G) h.epoch (by omega) (by omega)) (vals := [.int .i64 h.epoch]) (res' := .string ((numS h.epoch).1)) rfl rfl rfl rfl rfl rfl ?_
  refine r_fieldAddr (b := 0) (o := 0) (n := 2) (o' := 2) rfl rfl rfl rfl rfl ?_
  refine r_load (p := pt 0 2) (v := .int .i64 h.size) rfl rfl rfl (by kernel_rfl) ?_
  refine r_callP (refNum_ok (G := G) h.size (by omega) (by omega)) (vals := [.int .i64 h.size]) (res' := .string ((numS h.size).1)) rfl rfl rfl rfl rfl rfl ?_
  refine r_fieldAddr (b := 0) (o := 0) (n := 3) (o' := 3) rfl rfl rfl rfl rfl ?_
  refine r_load (p := pt 0 3) (v := dgV h.root) rfl rfl rfl (by kernel_rfl) ?_
  refine r_callP (refText_ok (G := G) h.root) (vals := [dgV h.root]) (res' := .string (strOf (dgL h.root))) rfl rfl rfl rfl rfl rfl ?_
  refine r_fieldAddr (b := 0) (o := 0) (n := 35) (o' := 35) rfl rfl rfl rfl rfl ?_
  refine r_load (p := pt 0 35) (v := .int .i64 h.tick) rfl rfl rfl (by kernel_rfl) ?_
  refine r_callP (refNum_ok (G := G) h.tick (by omega) (by omega)) (vals := [.int .i64 h.tick]) (res' := .string ((numS h.tick).1)) rfl rfl rfl rfl rfl rfl ?_
  refine r_lit (vs := [(0, .string ((numS h.region).1)), (1, .string ((numS h.epoch).1)), (2, .string ((numS h.size).1)), (3, .string (strOf (dgL h.root))), (4, .string ((numS h.tick).1))]) (v := slv 1 0 5 5) (blk := txB [(numS h.region).1, (numS h.epoch).1, (numS h.size).1, (strOf (dgL h.root)), (numS h.tick).1]) (nid := 1) (H' := [bxB 36 (headC h), txB [(numS h.region).1, (numS h.epoch).1, (numS h.size).1, (strOf (dgL h.root)), (numS h.tick).1], hole]) rfl rfl rfl (by kernel_rfl) (by kernel_rfl) ?_
  refine r_callN (e := [some (1, 0)]) (nid := 2) (refRow_ok (G := G) [(numS h.region).1, (numS h.epoch).1, (numS h.size).1, (strOf (dgL h.root)), (numS h.tick).1] 5 5 (by rfl) (by first | omega | exact Nat.le_refl _) (by omega) (headL_sz h)) (vals := [slv 1 0 5 5]) (v := slv 2 0 ((bytesR [(numS h.region).1, (numS h.epoch).1, (numS h.size).1, (strOf (dgL h.root)), (numS h.tick).1]).length) ((bytesR [(numS h.region).1, (numS h.epoch).1, (numS h.size).1, (strOf (dgL h.root)), (numS h.tick).1]).length)) (H' := [bxB 36 (headC h), txB [(numS h.region).1, (numS h.epoch).1, (numS h.size).1, (strOf (dgL h.root)), (numS h.tick).1], rowB (bytesR [(numS h.region).1, (numS h.epoch).1, (numS h.size).1, (strOf (dgL h.root)), (numS h.tick).1])]) rfl rfl rfl rfl rfl rfl rfl ⟨⟨⟨rfl, rfl, rfl, by first | omega | exact Nat.le_refl _, by first | omega | exact Nat.le_refl _⟩, trivial⟩, ⟨(emb_tx rfl), trivial⟩, rfl, rfl, rfl⟩ (by kernel_rfl) (by kernel_rfl) ?_
  refine r_assign (v := slv 2 0 ((bytesR [(numS h.region).1, (numS h.epoch).1, (numS h.size).1, (strOf (dgL h.root)), (numS h.tick).1]).length) ((bytesR [(numS h.region).1, (numS h.epoch).1, (numS h.size).1, (strOf (dgL h.root)), (numS h.tick).1]).length)) rfl rfl rfl ?_
  refine r_doneK (by kernel_rfl) ?_
  refine x_then ?_
  refine c_ret ?_
  refine x_end ?_
  exact end_map [2] (v := slv 2 0 ((bytesR [(numS h.region).1, (numS h.epoch).1, (numS h.size).1, (strOf (dgL h.root)), (numS h.tick).1]).length) ((bytesR [(numS h.region).1, (numS h.epoch).1, (numS h.size).1, (strOf (dgL h.root)), (numS h.tick).1]).length)) rfl (by kernel_rfl) rfl rfl (by decide) (by simp [keptB, rowB]) ⟨rfl, rfl, rfl, by first | omega | exact Nat.le_refl _ | exact Nat.zero_le _ | (dsimp only; omega), by first | omega | exact Nat.le_refl _ | exact Nat.zero_le _ | (dsimp only; omega)⟩
end Go.Flat
