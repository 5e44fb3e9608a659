/- Walks and plain laws: what each theorem says, within the bounds that it names. -/
import Derived.Test.YtgmnjggeffdjhaaDoorH7
set_option linter.unusedVariables false
set_option linter.unusedSimpArgs false
set_option maxRecDepth 20000
set_option maxRecDepth 20000
namespace Go.Flat
open Go.Proofs
variable {G : Glob}
theorem headL_sz (h : Head) : ∀ x, x ∈ headL h → x.size ≤ 65536 := by
  intro x hx
  have h1 := numS_size h.region
  have h2 := numS_size h.epoch
  have h3 := numS_size h.size
  have h4 := numS_size h.tick
  simp only [headL, List.mem_cons, List.mem_nil_iff, or_false] at hx
  rcases hx with rfl | rfl | rfl | rfl | rfl
  all_goals first | omega | (rw [strOf_size, dgL_len]; omega)
theorem putH_one {h : Head} (hr : rightH h) : putH h = (bytesR (headL h), 0) := by
  unfold putH
  rw [if_pos (by rw [checkE_eq, if_pos hr])]
theorem bytesH_len (h : Head) : (bytesR (headL h)).length ≤ 100 := by
  have := layF_len (rowF 0 (headL h)) 0 []
  simp only [headL, rowF, sumF, strOf_size, dgL_len, List.length_nil] at this
  have h1 := numS_size h.region
  have h2 := numS_size h.epoch
  have h3 := numS_size h.size
  have h4 := numS_size h.tick
  show (layF (rowF 0 (headL h)) 0 []).1.length ≤ 100
  simp only [headL, rowF]
  omega
def signedL (s : Signed) : List ByteArray := [strOf (bytesR (headL s.head)), (numS s.node).1, strOf (dgL s.tag)]
def mayS (s : Signed) : Prop := rightH s.head ∧ 1 ≤ s.node ∧ s.node ≤ 3
instance (s : Signed) : Decidable (mayS s) := inferInstanceAs (Decidable (_ ∧ _))
theorem blk_step {key : D} {u x : BitVec 8} {j : Nat} {acc : Bs} (h : acc = (List.range j).map (fun i => padK key i ^^^ u)) (hx : padK key j = x) : acc ++ [x ^^^ u] = (List.range (j + 1)).map (fun i => padK key i ^^^ u) := by
  subst h; subst hx
  rw [List.range_succ, List.map_append]; rfl
theorem blockT_eq (key : D) (u : BitVec 8) : blockT key u = strOf ((List.range 64).map (fun i => padK key i ^^^ u)) := by
  unfold blockT rowL
  congr 1
theorem refSum_ok' (kk : Nat → BitVec 32) (hG : G 0 = some (rowE w32 64 kk)) (s : ByteArray) (hs : s.size ≤ 70368744177664) : CallL Tryd.prog G 38 [.string s] [] (dgV (shaOf kk (bl s))) [] := refS_eq kk (bl s) ▸ refSum_ok (G := G) kk hG s hs
theorem macT_bl (kk : Nat → BitVec 32) (key : D) (s : ByteArray) : macT kk key s = shaOf kk (bl (blockT key 92#8 ++ strOf (dgL (shaOf kk (bl (blockT key 54#8 ++ s)))))) := by
  have e : ∀ a b : ByteArray, bl (a ++ b) = msgOf [a, b] := fun a b => by rw [bl_append]; simp [msgOf]
  rw [e, e]; rfl
def tagT (kk : Nat → BitVec 32) (master : D) (h : Head) (node : Int) : D := macT kk (macT kk master (strOf [75#8, BitVec.ofInt 8 h.region, BitVec.ofInt 8 node])) (markT ++ strOf (bytesR (headL h)))
def zeroS : Signed := ⟨⟨0, 0, 0, dz, 0⟩, 0, dz⟩
def signR (kk : Nat → BitVec 32) (master : D) (h : Head) (node : Int) : Signed × Int := if rightH h ∧ 1 ≤ node ∧ node ≤ 3 then (⟨h, node, tagT kk master h node⟩, 0) else (zeroS, 70)
def verifyR (kk : Nat → BitVec 32) (master : D) (s : Signed) : Int := if mayS s then (if sameB 32 (tagT kk master s.head s.node) s.tag = true then 0 else 72) else 70
theorem refBytes_ok (h : Head) (hr : rightH h) : CallL Tryd.prog G 85 [headV h] [] (slv 0 0 (bytesR (headL h)).length (bytesR (headL h)).length) [rowB (bytesR (headL h))] := by
  unfold rightH at hr
  refine walk (fn := Tryd.f85) (nt := 20) rfl rfl rfl rfl ?_
  refine c_hole 3 (H' := [hole, hole, hole]) rfl ?_
  refine c_seq (c_reg ?_)
  refine r_box (v := headV h) (b := bxB 36 (headC h)) (nid := 0) (H' := [bxB 36 (headC h), hole, hole]) rfl rfl rfl (by kernel_rfl) (by kernel_rfl) ?_
  refine r_assign (v := .slice none 0 0) rfl rfl rfl ?_
  refine r_doneN (x_then (c_seq ?_))
  refine c_drawK (by kernel_rfl) ?_
  refine r_fieldAddr (b := 0) (o := 0) (n := 0) (o' := 0) rfl rfl rfl rfl rfl ?_
  refine r_load (p := pt 0 0) (v := .int .i64 h.region) rfl rfl rfl (by kernel_rfl) ?_
  refine r_callP (refNum_ok (G := G) h.region (by omega) (by omega)) (vals := [.int .i64 h.region]) (res' := .string ((numS h.region).1)) rfl rfl rfl rfl rfl rfl ?_
  refine r_fieldAddr (b := 0) (o := 0) (n := 1) (o' := 1) rfl rfl rfl rfl rfl ?_
  refine r_load (p := pt 0 1) (v := .int .i64 h.epoch) rfl rfl rfl (by kernel_rfl) ?_
  refine r_callP (refNum_ok (G := G) h.epoch (by omega) (by omega)) (vals := [.int .i64 h.epoch]) (res' := .string ((numS h.epoch).1)) rfl rfl rfl rfl rfl rfl ?_
  refine r_fieldAddr (b := 0) (o := 0) (n := 2) (o' := 2) rfl rfl rfl rfl rfl ?_
  refine r_load (p := pt 0 2) (v := .int .i64 h.size) rfl rfl rfl (by kernel_rfl) ?_
  refine r_callP (refNum_ok (G := G) h.size (by omega) (by omega)) (vals := [.int .i64 h.size]) (res' := .string ((numS h.size).1)) rfl rfl rfl rfl rfl rfl ?_
  refine r_fieldAddr (b := 0) (o := 0) (n := 3) (o' := 3) rfl rfl rfl rfl rfl ?_
  refine r_load (p := pt 0 3) (v := dgV h.root) rfl rfl rfl (by kernel_rfl) ?_
  refine r_callP (refText_ok (G := G) h.root) (vals := [dgV h.root]) (res' := .string (strOf (dgL h.root))) rfl rfl rfl rfl rfl rfl ?_
  refine r_fieldAddr (b := 0) (o := 0) (n := 35) (o' := 35) rfl rfl rfl rfl rfl ?_
  refine r_load (p := pt 0 35) (v := .int .i64 h.tick) rfl rfl rfl (by kernel_rfl) ?_
  refine r_callP (refNum_ok (G := G) h.tick (by omega) (by omega)) (vals := [.int .i64 h.tick]) (res' := .string ((numS h.tick).1)) rfl rfl rfl rfl rfl rfl ?_
  refine r_lit (vs := [(0, .string ((numS h.region).1)), (1, .string ((numS h.epoch).1)), (2, .string ((numS h.size).1)), (3, .string (strOf (dgL h.root))), (4, .string ((numS h.tick).1))]) (v := slv 1 0 5 5) (blk := txB [(numS h.region).1, (numS h.epoch).1, (numS h.size).1, (strOf (dgL h.root)), (numS h.tick).1]) (nid := 1) (H' := [bxB 36 (headC h), txB [(numS h.region).1, (numS h.epoch).1, (numS h.size).1, (strOf (dgL h.root)), (numS h.tick).1], hole]) rfl rfl rfl (by kernel_rfl) (by kernel_rfl) ?_
  refine r_callN (e := [some (1, 0)]) (nid := 2) (refRow_ok (G := G) [(numS h.region).1, (numS h.epoch).1, (numS h.size).1, (strOf (dgL h.root)), (numS h.tick).1] 5 5 (by rfl) (by first | omega | exact Nat.le_refl _) (by omega) (headL_sz h)) (vals := [slv 1 0 5 5]) (v := slv 2 0 ((bytesR [(numS h.region).1, (numS h.epoch).1, (numS h.size).1, (strOf (dgL h.root)), (numS h.tick).1]).length) ((bytesR [(numS h.region).1, (numS h.epoch).1, (numS h.size).1, (strOf (dgL h.root)), (numS h.tick).1]).length)) (H' := [bxB 36 (headC h), txB [(numS h.region).1, (numS h.epoch).1, (numS h.size).1, (strOf (dgL h.root)), (numS h.tick).1], rowB (bytesR [(numS h.region).1, (numS h.epoch).1, (numS h.size).1, (strOf (dgL h.root)), (numS h.tick).1])]) rfl rfl rfl rfl rfl rfl rfl ⟨⟨⟨rfl, rfl, rfl, by first | omega | exact Nat.le_refl _, by first | omega | exact Nat.le_refl _⟩, trivial⟩, ⟨(emb_tx rfl), trivial⟩, rfl, rfl, rfl⟩ (by kernel_rfl) (by kernel_rfl) ?_
  refine r_assign (v := slv 2 0 ((bytesR [(numS h.region).1, (numS h.epoch).1, (numS h.size).1, (strOf (dgL h.root)), (numS h.tick).1]).length) ((bytesR [(numS h.region).1, (numS h.epoch).1, (numS h.size).1, (strOf (dgL h.root)), (numS h.tick).1]).length)) rfl rfl rfl ?_
  refine r_doneK (by kernel_rfl) ?_
  refine x_then (c_ret (x_end ?_))
  exact end_map [2] (v := slv 2 0 ((bytesR [(numS h.region).1, (numS h.epoch).1, (numS h.size).1, (strOf (dgL h.root)), (numS h.tick).1]).length) ((bytesR [(numS h.region).1, (numS h.epoch).1, (numS h.size).1, (strOf (dgL h.root)), (numS h.tick).1]).length)) rfl (by kernel_rfl) rfl rfl (by decide) (by simp [keptB, rowB]) ⟨rfl, rfl, rfl, by first | omega | exact Nat.le_refl _ | exact Nat.zero_le _ | (dsimp only; omega), by first | omega | exact Nat.le_refl _ | exact Nat.zero_le _ | (dsimp only; omega)⟩
theorem refBlock6_ok (key : D) (u : BitVec 8) : CallL Tryd.prog G 104 [dgV key, w8 u] [] (.string (blockT key u)) [] := by
  refine walk (fn := Tryd.f104) (nt := 25) rfl rfl rfl rfl ?_
  refine c_hole 2 (H' := [hole, hole]) rfl ?_
  refine c_seq (c_reg ?_)
  refine r_box (v := dgV key) (b := dgB key) (nid := 0) (H' := [dgB key, hole]) rfl rfl rfl (by kernel_rfl) (by kernel_rfl) ?_
  refine r_assign (v := .string ⟨#[]⟩) rfl rfl rfl ?_
  refine r_doneN (x_then (c_seq (c_reg ?_)))
  refine r_assign (v := .slice none 0 0) rfl rfl rfl ?_
  refine r_doneN (x_then (c_seq (c_seq ?_)))
  refine c_weak (Weak.nilTmp (i := 5) (b := 1) true 1 rfl (by decide) rfl) ?_
  refine c_reg ?_
  refine r_assign (v := .int .i64 0) rfl rfl rfl ?_
  refine r_doneN (x_then (c_block ?_))
  refine c_loopN (fun x : Nat × Bs => match x with | (j, acc) => [dgV key, w8 u, pt 0 0, dead, .string ⟨#[]⟩, slv 1 0 j j, .int .i64 (j : Nat)]) (fun x : Nat × Bs => match x with | (j, acc) => [dgB key, rowB acc]) (fun x : Nat × Bs => match x with | (j, acc) => acc = (List.range j).map (fun i => padK key i ^^^ u) ∧ j ≤ 64 ∧ acc.length = j) (fun x : Nat × Bs => match x with | (j, acc) => 64 - j) (0, []) ⟨rfl, by omega, rfl⟩ ?_ ?_
  · refine weak_to (n := 2) rfl ?_ (by kernel_rfl) (by kernel_rfl)
    repeat (first | exact trivial | refine ⟨.inl rfl, ?_⟩ | refine ⟨.inr ⟨rfl, rfl⟩, ?_⟩ | refine ⟨.inr ⟨congrArg (Value.int .i64) (by first | omega | (dsimp only; omega)), rfl⟩, ?_⟩)
  rintro ⟨j, acc⟩ ⟨hd, hj, ha⟩
  dsimp only at *
  refine c_hole 1 (H' := [dgB key, rowB acc, hole]) rfl ?_
  refine c_seq (c_seq (c_reg ?_))
  refine r_move (v := .int .i64 (j : Nat)) rfl rfl rfl ?_
  by_cases h1 : (j : Nat) < 64
  refine r_bin (v := .bool true) (vx := .int .i64 (j : Nat)) (vy := .int .i64 64) rfl rfl rfl rfl (lss_t (by omega)) ?_
  refine r_doneN (x_then ?_)
  refine c_true rfl ?_
  refine c_skip (x_then (c_seq (c_block (c_seq (c_reg ?_)))))
  refine r_assign (v := w8 (0#8)) rfl rfl rfl ?_
  refine r_doneN (x_then (c_seq (c_seq (c_reg ?_))))
  refine r_move (v := .int .i64 (j : Nat)) rfl rfl rfl ?_
  by_cases h2 : (j : Nat) < 32
  refine r_bin (v := .bool true) (vx := .int .i64 (j : Nat)) (vy := .int .i64 32) rfl rfl rfl rfl (lss_t (by omega)) ?_
  refine r_doneN (x_then ?_)
  refine c_true rfl ?_
  refine c_reg ?_
  refine r_move (v := .int .i64 (j : Nat)) rfl rfl rfl ?_
  refine r_idxA (b := 0) (o := 0) (j := j) (n := 32) (sz := 1) (i := (j : Nat)) (k := .i64) rfl rfl rfl rfl rfl (by omega) (by omega) (by omega) ?_
  refine r_load (p := pt 0 j) (v := w8 (key j)) rfl rfl rfl (loadA_row (blk := dgB key) (i := j) (enc := w8) (n := 32) (w := key) rfl rfl rfl (by omega) fun _ => rfl) ?_
  refine r_assign (v := w8 (key j)) rfl rfl rfl ?_
  refine r_doneN (x_then (c_reg ?_))
  refine r_move (v := slv 1 0 j j) rfl rfl rfl ?_
  refine r_move (v := w8 (key j)) rfl rfl rfl ?_
  refine r_move (v := w8 u) rfl rfl rfl ?_
  refine r_bin (v := w8 ((key j) ^^^ u)) (vx := w8 (key j)) (vy := w8 u) rfl rfl rfl rfl (xor8 (ofI _ _) (ofI _ _)) ?_
  refine r_lit (vs := [(0, w8 ((key j) ^^^ u))]) (v := slv 2 0 1 1) (blk := rowB [((key j) ^^^ u)]) (nid := 2) (H' := [dgB key, rowB acc, rowB [((key j) ^^^ u)]]) rfl rfl rfl (by kernel_rfl) (by kernel_rfl) ?_
  have hl3 : (acc ++ [((key j) ^^^ u)]).length = j + 1 := by have := ha; have := (rfl : _ = 1); first | (rw [List.length_append]; omega) | (simp; omega) | simp
  refine r_append (p := slv 1 0 j j) (q := slv 2 0 1 1) (v := slv 1 0 (j + 1) (j + 1)) (b := 1) (blk := rowB (acc ++ [((key j) ^^^ u)])) (H' := [dgB key, rowB (acc ++ [((key j) ^^^ u)]), rowB [((key j) ^^^ u)]]) rfl rfl rfl (.inl ⟨_, rfl⟩) rfl rfl (appD_row (by_ := 1) (n' := j + 1) rfl rfl (srcA_byW rfl rfl (by have := (rfl : _ = 1); omega)) rfl rfl (by have := ha; omega) (by omega) (by decide) (by omega)) rfl (by kernel_rfl) ?_
  refine r_assign (v := slv 1 0 (j + 1) (j + 1)) rfl rfl rfl ?_
  refine r_doneN (x_blockN (x_then (c_reg ?_)))
  refine r_move (v := .int .i64 (j : Nat)) rfl rfl rfl ?_
  refine r_bin (v := .int .i64 ((j : Nat) + 1)) (vx := .int .i64 (j : Nat)) (vy := .int .i64 1) rfl rfl rfl rfl (bin_add (by omega) (by omega) (by omega)) ?_
  refine r_assign (v := .int .i64 ((j : Nat) + 1)) rfl rfl rfl ?_
  refine r_doneN ?_
  refine x_round ⟨((j + 1), (acc ++ [((key j) ^^^ u)])), ⟨blk_step hd (by simp only [padK]; first | rw [if_pos (by omega)] | (rw [if_neg (by omega)]; rfl)), by omega, by rw [List.length_append, ha]; rfl⟩, by show 64 - (j + 1) < 64 - j; omega, ?_⟩
  refine weak_to (n := 2) rfl ?_ (by kernel_rfl) (by kernel_rfl)
  repeat (first | exact trivial | refine ⟨.inl rfl, ?_⟩ | refine ⟨.inr ⟨rfl, rfl⟩, ?_⟩ | refine ⟨.inr ⟨congrArg (Value.int .i64) (by first | omega | (dsimp only; omega)), rfl⟩, ?_⟩)
  refine r_bin (v := .bool false) (vx := .int .i64 (j : Nat)) (vy := .int .i64 32) rfl rfl rfl rfl (lss_f (by omega)) ?_
  refine r_doneN (x_then ?_)
  refine c_false rfl ?_
  refine c_skip (x_then (c_reg ?_))
  refine r_move (v := slv 1 0 j j) rfl rfl rfl ?_
  refine r_move (v := w8 (0#8)) rfl rfl rfl ?_
  refine r_move (v := w8 u) rfl rfl rfl ?_
  refine r_bin (v := w8 (0#8 ^^^ u)) (vx := w8 (0#8)) (vy := w8 u) rfl rfl rfl rfl (xor8 (ofI _ _) (ofI _ _)) ?_
  refine r_lit (vs := [(0, w8 (0#8 ^^^ u))]) (v := slv 2 0 1 1) (blk := rowB [(0#8 ^^^ u)]) (nid := 2) (H' := [dgB key, rowB acc, rowB [(0#8 ^^^ u)]]) rfl rfl rfl (by kernel_rfl) (by kernel_rfl) ?_
  have hl4 : (acc ++ [(0#8 ^^^ u)]).length = j + 1 := by have := ha; have := (rfl : _ = 1); first | (rw [List.length_append]; omega) | (simp; omega) | simp
  refine r_append (p := slv 1 0 j j) (q := slv 2 0 1 1) (v := slv 1 0 (j + 1) (j + 1)) (b := 1) (blk := rowB (acc ++ [(0#8 ^^^ u)])) (H' := [dgB key, rowB (acc ++ [(0#8 ^^^ u)]), rowB [(0#8 ^^^ u)]]) rfl rfl rfl (.inl ⟨_, rfl⟩) rfl rfl (appD_row (by_ := 1) (n' := j + 1) rfl rfl (srcA_byW rfl rfl (by have := (rfl : _ = 1); omega)) rfl rfl (by have := ha; omega) (by omega) (by decide) (by omega)) rfl (by kernel_rfl) ?_
  refine r_assign (v := slv 1 0 (j + 1) (j + 1)) rfl rfl rfl ?_
  refine r_doneN (x_blockN (x_then (c_reg ?_)))
  refine r_move (v := .int .i64 (j : Nat)) rfl rfl rfl ?_
  refine r_bin (v := .int .i64 ((j : Nat) + 1)) (vx := .int .i64 (j : Nat)) (vy := .int .i64 1) rfl rfl rfl rfl (bin_add (by omega) (by omega) (by omega)) ?_
  refine r_assign (v := .int .i64 ((j : Nat) + 1)) rfl rfl rfl ?_
  refine r_doneN ?_
  refine x_round ⟨((j + 1), (acc ++ [(0#8 ^^^ u)])), ⟨blk_step hd (by simp only [padK]; first | rw [if_pos (by omega)] | (rw [if_neg (by omega)]; rfl)), by omega, by rw [List.length_append, ha]; rfl⟩, by show 64 - (j + 1) < 64 - j; omega, ?_⟩
  refine weak_to (n := 2) rfl ?_ (by kernel_rfl) (by kernel_rfl)
  repeat (first | exact trivial | refine ⟨.inl rfl, ?_⟩ | refine ⟨.inr ⟨rfl, rfl⟩, ?_⟩ | refine ⟨.inr ⟨congrArg (Value.int .i64) (by first | omega | (dsimp only; omega)), rfl⟩, ?_⟩)
  refine r_bin (v := .bool false) (vx := .int .i64 (j : Nat)) (vy := .int .i64 64) rfl rfl rfl rfl (lss_f (by omega)) ?_
  refine r_doneN (x_then ?_)
  refine c_false rfl ?_
  refine c_exit (x_thenE (x_leaveE ?_))
  refine x_block rfl ?_
  refine x_then (c_seq (c_reg ?_))
  refine r_move (v := slv 1 0 j j) rfl rfl rfl ?_
  refine r_str (p := slv 1 0 j j) (v := .string (strOf acc)) rfl rfl rfl (str_whole rfl rfl rfl rfl rfl (by have := ha; omega)) ?_
  refine r_assign (v := .string (strOf acc)) rfl rfl rfl ?_
  refine r_doneN (x_then (c_ret (x_end ?_)))
  rw [show blockT key u = strOf acc from by rw [hd, show j = 64 by omega]; exact blockT_eq key u]
  exact end_same (v := .string (strOf acc)) rfl rfl rfl (by kernel_rfl) rfl
theorem refMac_ok (kk : Nat → BitVec 32) (hG2 : G 0 = some (rowE w32 64 kk)) (key : D) (s : ByteArray) (hs : s.size ≤ 1048576) : CallL Tryd.prog G 83 [dgV key, .string s] [] (dgV (macT kk key s)) [] := by
  refine walk (fn := Tryd.f83) (nt := 17) rfl rfl rfl rfl ?_
  refine c_hole 3 (H' := [hole, hole, hole]) rfl ?_
  refine c_seq (c_reg ?_)
  refine r_box (v := dgV key) (b := dgB key) (nid := 0) (H' := [dgB key, hole, hole]) rfl rfl rfl (by kernel_rfl) (by kernel_rfl) ?_
  refine r_alloc (b := dgB dz) (nid := 1) (H' := [dgB key, dgB dz, hole]) rfl rfl (by kernel_rfl) (by kernel_rfl) ?_
  refine r_doneN (x_then (c_seq (c_reg ?_)))
  refine r_load (p := pt 0 0) (v := dgV key) rfl rfl rfl (by kernel_rfl) ?_
  refine r_callP (refBlock6_ok (G := G) key (54#8)) (vals := [dgV key, w8 (54#8)]) (res' := .string (blockT key (54#8))) rfl rfl rfl rfl rfl rfl ?_
  refine r_move (v := .string s) rfl rfl rfl ?_
  refine r_bin (v := .string ((blockT key (54#8)) ++ s)) (vx := .string (blockT key (54#8))) (vy := .string s) rfl rfl rfl rfl (bin_cat (by simp only [ByteArray.size_append, strOf_size, blockT_size, dgL_len, mark_size]; omega)) ?_
  refine r_callP (refSum_ok' (G := G) kk hG2 ((blockT key (54#8)) ++ s) (by simp only [ByteArray.size_append, strOf_size, blockT_size, dgL_len]; omega)) (vals := [.string ((blockT key (54#8)) ++ s)]) (res' := dgV (shaOf kk (bl ((blockT key (54#8)) ++ s)))) rfl rfl rfl rfl rfl (by kernel_rfl) ?_
  refine r_alloc (b := dgB dz) (nid := 2) (H' := [dgB key, dgB dz, dgB dz]) rfl rfl (by kernel_rfl) (by kernel_rfl) ?_
  refine r_store (p := pt 2 0) (v := dgV (shaOf kk (bl ((blockT key (54#8)) ++ s)))) (b := 2) (blk := dgB (shaOf kk (bl ((blockT key (54#8)) ++ s)))) (H' := [dgB key, dgB dz, dgB (shaOf kk (bl ((blockT key (54#8)) ++ s)))]) rfl rfl rfl (by kernel_rfl) (by kernel_rfl) ?_
  refine r_doneN (x_then (c_seq ?_))
  refine c_drawK (by kernel_rfl) ?_
  refine r_load (p := pt 0 0) (v := dgV key) rfl rfl rfl (by kernel_rfl) ?_
  refine r_callP (refBlock6_ok (G := G) key (92#8)) (vals := [dgV key, w8 (92#8)]) (res' := .string (blockT key (92#8))) rfl rfl rfl rfl rfl rfl ?_
  refine r_load (p := pt 2 0) (v := dgV (shaOf kk (bl ((blockT key (54#8)) ++ s)))) rfl rfl rfl (by kernel_rfl) ?_
  refine r_callP (refText_ok (G := G) (shaOf kk (bl ((blockT key (54#8)) ++ s)))) (vals := [dgV (shaOf kk (bl ((blockT key (54#8)) ++ s)))]) (res' := .string (strOf (dgL (shaOf kk (bl ((blockT key (54#8)) ++ s)))))) rfl rfl rfl rfl rfl rfl ?_
  refine r_bin (v := .string ((blockT key (92#8)) ++ (strOf (dgL (shaOf kk (bl ((blockT key (54#8)) ++ s))))))) (vx := .string (blockT key (92#8))) (vy := .string (strOf (dgL (shaOf kk (bl ((blockT key (54#8)) ++ s)))))) rfl rfl rfl rfl (bin_cat (by simp only [ByteArray.size_append, strOf_size, blockT_size, dgL_len, mark_size]; omega)) ?_
  refine r_callP (refSum_ok' (G := G) kk hG2 ((blockT key (92#8)) ++ (strOf (dgL (shaOf kk (bl ((blockT key (54#8)) ++ s)))))) (by simp only [ByteArray.size_append, strOf_size, blockT_size, dgL_len]; omega)) (vals := [.string ((blockT key (92#8)) ++ (strOf (dgL (shaOf kk (bl ((blockT key (54#8)) ++ s))))))]) (res' := dgV (shaOf kk (bl ((blockT key (92#8)) ++ (strOf (dgL (shaOf kk (bl ((blockT key (54#8)) ++ s))))))))) rfl rfl rfl rfl rfl (by kernel_rfl) ?_
  refine r_store (p := pt 1 0) (v := dgV (shaOf kk (bl ((blockT key (92#8)) ++ (strOf (dgL (shaOf kk (bl ((blockT key (54#8)) ++ s))))))))) (b := 1) (blk := dgB (shaOf kk (bl ((blockT key (92#8)) ++ (strOf (dgL (shaOf kk (bl ((blockT key (54#8)) ++ s))))))))) (H' := [dgB key, dgB (shaOf kk (bl ((blockT key (92#8)) ++ (strOf (dgL (shaOf kk (bl ((blockT key (54#8)) ++ s)))))))), dgB (shaOf kk (bl ((blockT key (54#8)) ++ s)))]) rfl rfl rfl (by kernel_rfl) (by kernel_rfl) ?_
  refine r_doneK (by kernel_rfl) ?_
  refine x_then (c_ret (x_end ?_))
  rw [show macT kk key s = (shaOf kk (bl ((blockT key (92#8)) ++ (strOf (dgL (shaOf kk (bl ((blockT key (54#8)) ++ s)))))))) from macT_bl kk key s]
  exact end_same (v := dgV (shaOf kk (bl ((blockT key (92#8)) ++ (strOf (dgL (shaOf kk (bl ((blockT key (54#8)) ++ s))))))))) (by kernel_rfl) rfl rfl (by kernel_rfl) (argV_pure (pure_row fun _ => rfl) rfl)
theorem refKey_ok (kk : Nat → BitVec 32) (hG2 : G 0 = some (rowE w32 64 kk)) (master : D) (region node : Int) : CallL Tryd.prog G 84 [dgV master, .int .i64 region, .int .i64 node] [] (dgV (macT kk master (strOf [75#8, BitVec.ofInt 8 region, BitVec.ofInt 8 node]))) [] := by
  refine walk (fn := Tryd.f84) (nt := 15) rfl rfl rfl rfl ?_
  refine c_hole 3 (H' := [hole, hole, hole]) rfl ?_
  refine c_seq (c_reg ?_)
  refine r_box (v := dgV master) (b := dgB master) (nid := 0) (H' := [dgB master, hole, hole]) rfl rfl rfl (by kernel_rfl) (by kernel_rfl) ?_
  refine r_alloc (b := dgB dz) (nid := 1) (H' := [dgB master, dgB dz, hole]) rfl rfl (by kernel_rfl) (by kernel_rfl) ?_
  refine r_doneN (x_then (c_seq (c_reg ?_)))
  refine r_load (p := pt 0 0) (v := dgV master) rfl rfl rfl (by kernel_rfl) ?_
  refine r_move (v := .int .i64 region) rfl rfl rfl ?_
  refine r_conv (w := .int .i64 region) (v := w8 (BitVec.ofInt 8 region)) rfl rfl rfl (conv8 rfl rfl rfl) ?_
  refine r_move (v := .int .i64 node) rfl rfl rfl ?_
  refine r_conv (w := .int .i64 node) (v := w8 (BitVec.ofInt 8 node)) rfl rfl rfl (conv8 rfl rfl rfl) ?_
  refine r_lit (vs := [(0, w8 (75#8)), (1, w8 (BitVec.ofInt 8 region)), (2, w8 (BitVec.ofInt 8 node))]) (v := slv 2 0 3 3) (blk := rowB [75#8, (BitVec.ofInt 8 region), (BitVec.ofInt 8 node)]) (nid := 2) (H' := [dgB master, dgB dz, rowB [75#8, (BitVec.ofInt 8 region), (BitVec.ofInt 8 node)]]) rfl rfl rfl (by kernel_rfl) (by kernel_rfl) ?_
  refine r_str (p := slv 2 0 3 3) (v := .string (strOf [75#8, (BitVec.ofInt 8 region), (BitVec.ofInt 8 node)])) rfl rfl rfl (str_whole rfl rfl rfl rfl rfl (by have := (rfl : _ = 3); omega)) ?_
  refine r_callP (refMac_ok (G := G) kk hG2 master (strOf [75#8, (BitVec.ofInt 8 region), (BitVec.ofInt 8 node)]) (by simp [strOf_size])) (vals := [dgV master, .string (strOf [75#8, (BitVec.ofInt 8 region), (BitVec.ofInt 8 node)])]) (res' := dgV (macT kk master (strOf [75#8, (BitVec.ofInt 8 region), (BitVec.ofInt 8 node)]))) rfl rfl rfl rfl rfl (by kernel_rfl) ?_
  refine r_store (p := pt 1 0) (v := dgV (macT kk master (strOf [75#8, (BitVec.ofInt 8 region), (BitVec.ofInt 8 node)]))) (b := 1) (blk := dgB (macT kk master (strOf [75#8, (BitVec.ofInt 8 region), (BitVec.ofInt 8 node)]))) (H' := [dgB master, dgB (macT kk master (strOf [75#8, (BitVec.ofInt 8 region), (BitVec.ofInt 8 node)])), rowB [75#8, (BitVec.ofInt 8 region), (BitVec.ofInt 8 node)]]) rfl rfl rfl (by kernel_rfl) (by kernel_rfl) ?_
  refine r_doneN (x_then (c_ret (x_end ?_)))
  exact end_same (v := dgV (macT kk master (strOf [75#8, (BitVec.ofInt 8 region), (BitVec.ofInt 8 node)]))) (by kernel_rfl) rfl rfl (by kernel_rfl) (argV_pure (pure_row fun _ => rfl) rfl)
theorem refTag_ok (kk : Nat → BitVec 32) (hG2 : G 0 = some (rowE w32 64 kk)) (master : D) (h : Head) (node : Int) (hr : rightH h) : CallL Tryd.prog G 60 [dgV master, headV h, .int .i64 node] [] (dgV (tagT kk master h node)) [] := by
  refine walk (fn := Tryd.f60) (nt := 17) rfl rfl rfl rfl ?_
  refine c_hole 4 (H' := [hole, hole, hole, hole]) rfl ?_
  refine c_seq (c_reg ?_)
  refine r_box (v := dgV master) (b := dgB master) (nid := 0) (H' := [dgB master, hole, hole, hole]) rfl rfl rfl (by kernel_rfl) (by kernel_rfl) ?_
  refine r_box (v := headV h) (b := bxB 36 (headC h)) (nid := 1) (H' := [dgB master, bxB 36 (headC h), hole, hole]) rfl rfl rfl (by kernel_rfl) (by kernel_rfl) ?_
  refine r_alloc (b := dgB dz) (nid := 2) (H' := [dgB master, bxB 36 (headC h), dgB dz, hole]) rfl rfl (by kernel_rfl) (by kernel_rfl) ?_
  refine r_doneN (x_then (c_seq ?_))
  refine c_drawK (by kernel_rfl) ?_
  refine r_load (p := pt 0 0) (v := dgV master) rfl rfl rfl (by kernel_rfl) ?_
  refine r_fieldAddr (b := 1) (o := 0) (n := 0) (o' := 0) rfl rfl rfl rfl rfl ?_
  refine r_load (p := pt 1 0) (v := .int .i64 h.region) rfl rfl rfl (by kernel_rfl) ?_
  refine r_move (v := .int .i64 node) rfl rfl rfl ?_
  refine r_callP (refKey_ok (G := G) kk hG2 master h.region node) (vals := [dgV master, .int .i64 h.region, .int .i64 node]) (res' := dgV (macT kk master (strOf [75#8, BitVec.ofInt 8 h.region, BitVec.ofInt 8 node]))) rfl rfl rfl rfl rfl (by kernel_rfl) ?_
  refine r_load (p := pt 1 0) (v := headV h) rfl rfl rfl (by kernel_rfl) ?_
  have hbl3 := bytesH_len h
  refine r_callN (e := []) (nid := 3) (refBytes_ok (G := G) h hr) (vals := [headV h]) (v := slv 3 0 ((bytesR (headL h)).length) ((bytesR (headL h)).length)) (H' := [dgB master, bxB 36 (headC h), dgB dz, rowB (bytesR (headL h))]) rfl rfl rfl rfl rfl rfl rfl ⟨⟨rfl, trivial⟩, trivial, rfl, rfl, rfl⟩ (by kernel_rfl) (by kernel_rfl) ?_
  refine r_str (p := slv 3 0 ((bytesR (headL h)).length) ((bytesR (headL h)).length)) (v := .string (strOf (bytesR (headL h)))) rfl rfl rfl (str_whole rfl rfl rfl rfl rfl (by omega)) ?_
  refine r_bin (v := .string (markT ++ (strOf (bytesR (headL h))))) (vx := .string markT) (vy := .string (strOf (bytesR (headL h)))) rfl rfl rfl rfl (bin_cat (by simp only [ByteArray.size_append, strOf_size, blockT_size, dgL_len, mark_size]; omega)) ?_
  refine r_callP (refMac_ok (G := G) kk hG2 (macT kk master (strOf [75#8, BitVec.ofInt 8 h.region, BitVec.ofInt 8 node])) (markT ++ (strOf (bytesR (headL h)))) (by simp only [ByteArray.size_append, strOf_size, mark_size]; omega)) (vals := [dgV (macT kk master (strOf [75#8, BitVec.ofInt 8 h.region, BitVec.ofInt 8 node])), .string (markT ++ (strOf (bytesR (headL h))))]) (res' := dgV (macT kk (macT kk master (strOf [75#8, BitVec.ofInt 8 h.region, BitVec.ofInt 8 node])) (markT ++ (strOf (bytesR (headL h)))))) rfl rfl rfl rfl rfl (by kernel_rfl) ?_
  refine r_store (p := pt 2 0) (v := dgV (macT kk (macT kk master (strOf [75#8, BitVec.ofInt 8 h.region, BitVec.ofInt 8 node])) (markT ++ (strOf (bytesR (headL h)))))) (b := 2) (blk := dgB (macT kk (macT kk master (strOf [75#8, BitVec.ofInt 8 h.region, BitVec.ofInt 8 node])) (markT ++ (strOf (bytesR (headL h)))))) (H' := [dgB master, bxB 36 (headC h), dgB (macT kk (macT kk master (strOf [75#8, BitVec.ofInt 8 h.region, BitVec.ofInt 8 node])) (markT ++ (strOf (bytesR (headL h))))), rowB (bytesR (headL h))]) rfl rfl rfl (by kernel_rfl) (by kernel_rfl) ?_
  refine r_doneK (by kernel_rfl) ?_
  refine x_then (c_ret (x_end ?_))
  exact end_same (v := dgV (macT kk (macT kk master (strOf [75#8, BitVec.ofInt 8 h.region, BitVec.ofInt 8 node])) (markT ++ (strOf (bytesR (headL h)))))) (by kernel_rfl) rfl rfl (by kernel_rfl) (argV_pure (pure_row fun _ => rfl) rfl)
theorem refMay_ok (s : Signed) : CallL Tryd.prog G 59 [signedV s] [] (.bool (decide (mayS s))) [] := by
  refine walk (fn := Tryd.f59) (nt := 11) rfl rfl rfl rfl ?_
  refine c_hole 1 (H' := [hole]) rfl ?_
  refine c_seq (c_reg ?_)
  refine r_box (v := signedV s) (b := bxB 69 (signedC s)) (nid := 0) (H' := [bxB 69 (signedC s)]) rfl rfl rfl (by kernel_rfl) (by kernel_rfl) ?_
  refine r_assign (v := .bool false) rfl rfl rfl ?_
  refine r_doneN (x_then (c_seq (c_reg ?_)))
  refine r_fieldAddr (b := 0) (o := 0) (n := 0) (o' := 0) rfl rfl rfl rfl rfl ?_
  refine r_load (p := pt 0 0) (v := headV s.head) rfl rfl rfl (by kernel_rfl) ?_
  refine r_callP (refRight_ok (G := G) s.head) (vals := [headV s.head]) (res' := .bool (decide (rightH s.head))) rfl rfl rfl rfl rfl rfl ?_
  refine r_move (v := .bool (decide (rightH s.head))) rfl rfl rfl ?_
  rcases Bool.eq_false_or_eq_true (decide (rightH s.head)) with h1 | h1
  refine r_fieldAddr (b := 0) (o := 0) (n := 36) (o' := 36) (by exact congrArg (fun b => some (b == true)) h1) rfl rfl rfl rfl ?_
  refine r_load (p := pt 0 36) (v := .int .i64 s.node) (by exact congrArg (fun b => some (b == true)) h1) rfl rfl (by kernel_rfl) ?_
  by_cases h2 : 1 ≤ s.node
  by_cases h3 : s.node ≤ 3
  refine r_callP ((refWithin_ok (G := G) s.node 1 3).res (congrArg Value.bool (withinB_t (by omega) (by omega)))) (vals := [.int .i64 s.node, .int .i64 1, .int .i64 3]) (res' := .bool true) (by exact congrArg (fun b => some (b == true)) h1) rfl rfl rfl rfl rfl ?_
  refine r_pick (v := .bool true) rfl rfl (by show some (if _ then _ else _) = _; rw [h1] <;> rfl) ?_
  refine r_assign (v := .bool true) rfl rfl rfl ?_
  refine r_doneN (x_then (c_ret (x_end ?_)))
  rw [show decide (mayS s) = true from decide_eq_true ⟨of_decide_eq_true (by assumption), by omega, by omega⟩]
  exact end_same (v := .bool true) rfl rfl rfl (by kernel_rfl) rfl
  refine r_callP ((refWithin_ok (G := G) s.node 1 3).res (congrArg Value.bool (withinB_f (by omega)))) (vals := [.int .i64 s.node, .int .i64 1, .int .i64 3]) (res' := .bool false) (by exact congrArg (fun b => some (b == true)) h1) rfl rfl rfl rfl rfl ?_
  refine r_pick (v := .bool false) rfl rfl (by show some (if _ then _ else _) = _; rw [h1] <;> rfl) ?_
  refine r_assign (v := .bool false) rfl rfl rfl ?_
  refine r_doneN (x_then (c_ret (x_end ?_)))
  rw [show decide (mayS s) = false from decide_eq_false (fun hh => by first | (have := hh.2; omega) | (exact absurd hh.1 (of_decide_eq_false (by assumption))))]
  exact end_same (v := .bool false) rfl rfl rfl (by kernel_rfl) rfl
  refine r_callP ((refWithin_ok (G := G) s.node 1 3).res (congrArg Value.bool (withinB_f (by omega)))) (vals := [.int .i64 s.node, .int .i64 1, .int .i64 3]) (res' := .bool false) (by exact congrArg (fun b => some (b == true)) h1) rfl rfl rfl rfl rfl ?_
  refine r_pick (v := .bool false) rfl rfl (by show some (if _ then _ else _) = _; rw [h1] <;> rfl) ?_
  refine r_assign (v := .bool false) rfl rfl rfl ?_
  refine r_doneN (x_then (c_ret (x_end ?_)))
  rw [show decide (mayS s) = false from decide_eq_false (fun hh => by first | (have := hh.2; omega) | (exact absurd hh.1 (of_decide_eq_false (by assumption))))]
  exact end_same (v := .bool false) rfl rfl rfl (by kernel_rfl) rfl
  refine r_skip (by exact congrArg (fun b => some (b == true)) h1) rfl ?_
  refine r_skip (by exact congrArg (fun b => some (b == true)) h1) rfl ?_
  refine r_skip (by exact congrArg (fun b => some (b == true)) h1) rfl ?_
  refine r_pick (v := .bool false) rfl rfl (by show some (if _ then _ else _) = _; rw [h1] <;> rfl) ?_
  refine r_assign (v := .bool false) rfl rfl rfl ?_
  refine r_doneN (x_then (c_ret (x_end ?_)))
  rw [show decide (mayS s) = false from decide_eq_false (fun hh => by first | (have := hh.2; omega) | (exact absurd hh.1 (of_decide_eq_false (by assumption))))]
  exact end_same (v := .bool false) rfl rfl rfl (by kernel_rfl) rfl
theorem refVerify_ok (kk : Nat → BitVec 32) (hG2 : G 0 = some (rowE w32 64 kk)) (master : D) (s : Signed) : CallL Tryd.prog G 37 [dgV master, signedV s] [] (.int .i64 (verifyR kk master s)) [] := by
  refine walk (fn := Tryd.f37) (nt := 17) rfl rfl rfl rfl ?_
  refine c_hole 2 (H' := [hole, hole]) rfl ?_
  refine c_seq (c_reg ?_)
  refine r_box (v := dgV master) (b := dgB master) (nid := 0) (H' := [dgB master, hole]) rfl rfl rfl (by kernel_rfl) (by kernel_rfl) ?_
  refine r_box (v := signedV s) (b := bxB 69 (signedC s)) (nid := 1) (H' := [dgB master, bxB 69 (signedC s)]) rfl rfl rfl (by kernel_rfl) (by kernel_rfl) ?_
  refine r_assign (v := .int .i64 0) rfl rfl rfl ?_
  refine r_doneN (x_then (c_seq (c_seq (c_reg ?_))))
  refine r_load (p := pt 1 0) (v := signedV s) rfl rfl rfl (by kernel_rfl) ?_
  refine r_callP (refMay_ok (G := G) s) (vals := [signedV s]) (res' := .bool (decide (mayS s))) rfl rfl rfl rfl rfl rfl ?_
  rcases Bool.eq_false_or_eq_true (decide (mayS s)) with h1 | h1
  refine r_un (v := .bool false) (vx := .bool (decide (mayS s))) rfl rfl rfl (Eq.trans un_not (congrArg (fun b => some (Value.bool !b)) h1)) ?_
  refine r_doneN (x_then ?_)
  refine c_false rfl ?_
  refine c_skip (x_then (c_seq (c_seq ?_)))
  refine c_drawK (by kernel_rfl) ?_
  refine r_load (p := pt 0 0) (v := dgV master) rfl rfl rfl (by kernel_rfl) ?_
  refine r_fieldAddr (b := 1) (o := 0) (n := 0) (o' := 0) rfl rfl rfl rfl rfl ?_
  refine r_load (p := pt 1 0) (v := headV s.head) rfl rfl rfl (by kernel_rfl) ?_
  refine r_fieldAddr (b := 1) (o := 0) (n := 36) (o' := 36) rfl rfl rfl rfl rfl ?_
  refine r_load (p := pt 1 36) (v := .int .i64 s.node) rfl rfl rfl (by kernel_rfl) ?_
  refine r_callP (refTag_ok (G := G) kk hG2 master s.head s.node (of_decide_eq_true (p := mayS s) (by assumption)).1) (vals := [dgV master, headV s.head, .int .i64 s.node]) (res' := dgV (tagT kk master s.head s.node)) rfl rfl rfl rfl rfl (by kernel_rfl) ?_
  refine r_fieldAddr (b := 1) (o := 0) (n := 37) (o' := 37) rfl rfl rfl rfl rfl ?_
  refine r_load (p := pt 1 37) (v := dgV s.tag) rfl rfl rfl (by kernel_rfl) ?_
  rcases Bool.eq_false_or_eq_true (sameB 32 (tagT kk master s.head s.node) s.tag) with h2 | h2
  refine r_bin (v := .bool false) (vx := dgV (tagT kk master s.head s.node)) (vy := dgV s.tag) rfl rfl rfl rfl (Eq.trans (neq_dg (n := 32) (a := (tagT kk master s.head s.node)) (b := s.tag) (by kernel_rfl) rfl rfl rfl) (by rw [h2] <;> rfl)) ?_
  refine r_doneK (by kernel_rfl) ?_
  refine x_then ?_
  refine c_false rfl ?_
  refine c_skip (x_then (c_seq (c_reg ?_)))
  refine r_assign (v := .int .i64 0) rfl rfl rfl ?_
  refine r_doneN (x_then (c_ret (x_end ?_)))
  rw [show verifyR kk master s = 0 from by unfold verifyR; rw [if_pos (of_decide_eq_true (by assumption)), if_pos (by first | assumption | (simp [*]))]]
  exact end_same (v := .int .i64 0) rfl rfl rfl (by kernel_rfl) rfl
  refine r_bin (v := .bool true) (vx := dgV (tagT kk master s.head s.node)) (vy := dgV s.tag) rfl rfl rfl rfl (Eq.trans (neq_dg (n := 32) (a := (tagT kk master s.head s.node)) (b := s.tag) (by kernel_rfl) rfl rfl rfl) (by rw [h2] <;> rfl)) ?_
  refine r_doneK (by kernel_rfl) ?_
  refine x_then ?_
  refine c_true rfl ?_
  refine c_seq (c_reg ?_)
  refine r_assign (v := .int .i64 72) rfl rfl rfl ?_
  refine r_doneN (x_then (c_ret (x_thenR (x_end ?_))))
  rw [show verifyR kk master s = 72 from by unfold verifyR; rw [if_pos (of_decide_eq_true (by assumption)), if_neg (by first | assumption | (simp [*]))]]
  exact end_same (v := .int .i64 72) rfl rfl rfl (by kernel_rfl) rfl
  refine r_un (v := .bool true) (vx := .bool (decide (mayS s))) rfl rfl rfl (Eq.trans un_not (congrArg (fun b => some (Value.bool !b)) h1)) ?_
  refine r_doneN (x_then ?_)
  refine c_true rfl ?_
  refine c_seq (c_reg ?_)
  refine r_assign (v := .int .i64 70) rfl rfl rfl ?_
  refine r_doneN (x_then (c_ret (x_thenR (x_end ?_))))
  rw [show verifyR kk master s = 70 from if_neg (of_decide_eq_false (by assumption))]
  exact end_same (v := .int .i64 70) rfl rfl rfl (by kernel_rfl) rfl
end Go.Flat
