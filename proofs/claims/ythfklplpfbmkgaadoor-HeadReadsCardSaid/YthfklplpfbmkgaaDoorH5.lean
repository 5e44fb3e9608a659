/- Walks and plain laws: what each theorem says, within the bounds that it names. -/
import Derived.Test.YthfklplpfbmkgaaDoorH4
set_option linter.unusedVariables false
set_option linter.unusedSimpArgs false
set_option maxRecDepth 20000
namespace Go.Flat
open Go.Proofs
variable {G : Glob}
def padK (key : D) : D := fun i => if i < 32 then key i else 0
def xorTo (c : D) (x : BitVec 8) (j : Nat) : D := fun i => if i < j then c i ^^^ x else c i
theorem xorTo_zero (c : D) (x : BitVec 8) : xorTo c x 0 = c := by funext i; simp [xorTo]
theorem xorTo_step {c d : D} {x : BitVec 8} {j : Nat} (h : d = xorTo c x j) : updN d j (d j ^^^ x) = xorTo c x (j + 1) := by
  subst h
  funext i
  unfold updN xorTo
  by_cases hi : i = j
  · subst hi; simp
  · simp only [if_neg hi]
    by_cases h1 : i < j
    · rw [if_pos h1, if_pos (by omega)]
    · rw [if_neg h1, if_neg (by omega)]
def blockT (key : D) (x : BitVec 8) : ByteArray := strOf (rowL 64 (xorTo (padK key) x 64))
theorem blockT_size (key : D) (x : BitVec 8) : (blockT key x).size = 64 := by unfold blockT; rw [strOf_size, rowL_len]
def macT (kk : Nat → BitVec 32) (key : D) (s : ByteArray) : D := shaOf kk (msgOf [blockT key 92#8, strOf (dgL (shaOf kk (msgOf [blockT key 54#8, s])))])
def allF (a b : D) : Nat → BitVec 8
  | 0 => 0
  | j + 1 => allF a b j ||| (a j ^^^ b j)
theorem allF_step {a b : D} {all : BitVec 8} {j : Nat} (h : all = allF a b j) : (all ||| (a j ^^^ b j)) = allF a b (j + 1) := by subst h; rfl
theorem or_zero8 (x y : BitVec 8) : (x ||| y == 0#8) = ((x == 0#8) && (y == 0#8)) := by
  rw [Bool.eq_iff_iff, Bool.and_eq_true, beq_iff_eq, beq_iff_eq, beq_iff_eq]
  constructor
  · intro h
    constructor
    · apply BitVec.eq_of_getLsbD_eq; intro i hi; have := congrArg (fun z => z.getLsbD i) h; simp at this ⊢; exact this.1
    · apply BitVec.eq_of_getLsbD_eq; intro i hi; have := congrArg (fun z => z.getLsbD i) h; simp at this ⊢; exact this.2
  · rintro ⟨rfl, rfl⟩; rfl
theorem xor_zero8 (x y : BitVec 8) : (x ^^^ y == 0#8) = (x == y) := by
  rw [Bool.eq_iff_iff, beq_iff_eq, beq_iff_eq]
  constructor
  · intro h; exact BitVec.xor_eq_zero_iff.1 h
  · rintro rfl; exact BitVec.xor_self
theorem allF_all (a b : D) : ∀ j, (allF a b j == 0#8) = (List.range j).all fun i => a i == b i
  | 0 => rfl
  | j + 1 => by
    rw [allF, or_zero8, xor_zero8, allF_all a b j, List.range_succ, List.all_append]; simp
theorem allF_same (a b : D) : (allF a b 32 == 0#8) = sameB 32 a b := allF_all a b 32
def keyT (kk : Nat → BitVec 32) (master : D) (region node : Int) : D × Int := if (1 ≤ region ∧ region ≤ 5) ∧ (1 ≤ node ∧ node ≤ 3) then (macT kk master (strOf [75#8, BitVec.ofInt 8 region, BitVec.ofInt 8 node]), 0) else (dz, 50)
theorem block_tag_ok (key : D) (u : BitVec 8) : CallL Tryd.prog G 45 [dgV key, w8 u] [] (.string (blockT key u)) [] := by
  refine walk (fn := Tryd.f45) (nt := 22) rfl rfl rfl rfl ?_
  refine c_hole 2 (H' := [hole, hole]) rfl ?_
  refine c_seq (c_reg ?_)
  refine r_box (v := dgV key) (b := dgB key) (nid := 0) (H' := [dgB key, hole]) rfl rfl rfl (by kernel_rfl) (by kernel_rfl) ?_
  refine r_assign (v := .string ⟨#[]⟩) rfl rfl rfl ?_
  refine r_doneN (x_then (c_seq (c_reg ?_)))
  refine r_alloc (b := bxB 64 (rowE w8 64 dz)) (nid := 1) (H' := [dgB key, bxB 64 (rowE w8 64 dz)]) rfl rfl (by kernel_rfl) (by kernel_rfl) ?_
  refine r_doneN (x_then (c_seq ?_))
  refine c_draw (by kernel_rfl) ?_
  refine r_slice (p := pt 1 0) (vl := none) (vh := none) (v := slv 1 0 64 64) rfl rfl rfl rfl rfl rfl ?_
  refine r_slice (p := pt 0 0) (vl := none) (vh := none) (v := slv 0 0 32 32) rfl rfl rfl rfl rfl rfl ?_
  refine r_copy (p := slv 1 0 64 64) (q := slv 0 0 32 32) (v := .int .i64 32) (b := 1) (blk := bxB 64 (rowE w8 64 (padK key))) (H' := [dgB key, bxB 64 (rowE w8 64 (padK key))]) rfl rfl rfl rfl (by kernel_rfl) (by kernel_rfl) ?_
  refine r_doneD (by kernel_rfl) ?_
  refine x_then (c_seq (c_seq (c_reg ?_)))
  refine r_move (v := .int .i64 0) rfl rfl rfl ?_
  refine r_doneN (x_then (c_block ?_))
  refine c_loopN (fun x : Nat × D => match x with | (j, d) => [dgV key, w8 u, pt 0 0, dead, .string ⟨#[]⟩, pt 1 0, dead, slv 1 0 64 64, slv 0 0 32 32, .int .i64 32, .int .i64 (j : Nat)]) (fun x : Nat × D => match x with | (j, d) => [dgB key, bxB 64 (rowE w8 64 d)]) (fun x : Nat × D => match x with | (j, d) => d = xorTo (padK key) u j ∧ j ≤ 64) (fun x : Nat × D => match x with | (j, d) => 64 - j) (0, (padK key)) ⟨(xorTo_zero _ _).symm, by omega⟩ ?_ ?_
  · refine weak_to (n := 2) rfl ?_ (by kernel_rfl) (by kernel_rfl)
    repeat (first | exact trivial | refine ⟨.inl rfl, ?_⟩ | refine ⟨.inr ⟨rfl, rfl⟩, ?_⟩ | refine ⟨.inr ⟨congrArg (Value.int .i64) (by first | omega | (dsimp only; omega)), rfl⟩, ?_⟩)
  rintro ⟨j, d⟩ ⟨hd, hj⟩
  dsimp only at *
  refine c_seq (c_reg ?_)
  by_cases h1 : (j : Nat) < 64
  refine r_bin (v := .bool true) (vx := .int .i64 (j : Nat)) (vy := .int .i64 64) rfl rfl rfl rfl (lss_t (by omega)) ?_
  refine r_doneN (x_then (c_seq (c_true rfl (c_skip (x_then (c_seq (c_block (c_seq (c_reg ?_)))))))))
  refine r_move (v := .int .i64 (j : Nat)) rfl rfl rfl ?_
  refine r_assign (v := .int .i64 (j : Nat)) rfl rfl rfl ?_
  refine r_doneN (x_then (c_reg ?_))
  refine r_move (v := .int .i64 (j : Nat)) rfl rfl rfl ?_
  refine r_idxA (b := 1) (o := 0) (j := j) (n := 64) (sz := 1) (i := (j : Nat)) (k := .i64) rfl rfl rfl rfl rfl (by omega) (by omega) (by omega) ?_
  refine r_load (p := pt 1 j) (v := w8 (d j)) rfl rfl rfl (loadA_row (blk := bxB 64 (rowE w8 64 d)) (i := j) (enc := w8) (n := 64) (w := d) rfl rfl rfl (by omega) fun _ => rfl) ?_
  refine r_move (v := w8 u) rfl rfl rfl ?_
  refine r_bin (v := w8 ((d j) ^^^ u)) (vx := w8 (d j)) (vy := w8 u) rfl rfl rfl rfl (xor8 (ofI _ _) (ofI _ _)) ?_
  refine r_idxA (b := 1) (o := 0) (j := j) (n := 64) (sz := 1) (i := (j : Nat)) (k := .i64) rfl rfl rfl rfl rfl (by omega) (by omega) (by omega) ?_
  refine r_store (p := pt 1 j) (v := w8 ((d j) ^^^ u)) (b := 1) (blk := bxB 64 (rowE w8 64 (updN d j ((d j) ^^^ u)))) (H' := [dgB key, bxB 64 (rowE w8 64 (updN d j ((d j) ^^^ u)))]) rfl rfl rfl (storeD_row (blk := bxB 64 (rowE w8 64 d)) (i := j) (enc := w8) (n := 64) (w := d) (x := ((d j) ^^^ u)) rfl rfl rfl rfl rfl (by omega) rfl rfl) (by kernel_rfl) ?_
  refine r_doneN (x_blockN (x_then (c_reg ?_)))
  refine r_bin (v := .int .i64 ((j : Nat) + 1)) (vx := .int .i64 (j : Nat)) (vy := .int .i64 1) rfl rfl rfl rfl (bin_add (by omega) (by omega) (by omega)) ?_
  refine r_move (v := .int .i64 ((j : Nat) + 1)) rfl rfl rfl ?_
  refine r_doneN ?_
  refine x_round ⟨((j + 1), (updN d j ((d j) ^^^ u))), ⟨xorTo_step hd, by omega⟩, by show 64 - (j + 1) < 64 - j; omega, ?_⟩
  refine weak_to (n := 2) rfl ?_ (by kernel_rfl) (by kernel_rfl)
  repeat (first | exact trivial | refine ⟨.inl rfl, ?_⟩ | refine ⟨.inr ⟨rfl, rfl⟩, ?_⟩ | refine ⟨.inr ⟨congrArg (Value.int .i64) (by first | omega | (dsimp only; omega)), rfl⟩, ?_⟩)
  refine r_bin (v := .bool false) (vx := .int .i64 (j : Nat)) (vy := .int .i64 64) rfl rfl rfl rfl (lss_f (by omega)) ?_
  refine r_doneN (x_then (c_seq (c_false rfl (c_exit (x_thenE (x_leaveE (x_block rfl (x_then (c_seq (c_reg ?_))))))))))
  refine r_slice (p := pt 1 0) (vl := none) (vh := none) (v := slv 1 0 64 64) rfl rfl rfl rfl rfl rfl ?_
  refine r_str (p := slv 1 0 64 64) (v := .string (strOf (rowL 64 d))) rfl rfl rfl (strD_row (l := (rowL 64 d)) rfl rfl rfl rfl (of_decide_eq_true (by kernel_rfl)) (by kernel_rfl)) ?_
  refine r_assign (v := .string (strOf (rowL 64 d))) rfl rfl rfl ?_
  refine r_doneN (x_then (c_ret (x_end ?_)))
  rw [show blockT key u = strOf (rowL 64 d) from by rw [hd, show j = 64 by omega]; rfl]
  exact end_same (v := .string (strOf (rowL 64 d))) rfl rfl rfl (by kernel_rfl) rfl
theorem Mac_ok (kk : Nat → BitVec 32) (hG : G 0 = some (rowE w32 64 kk)) (key : D) (s : ByteArray) (hs : s.size ≤ 1048576) : CallL Tryd.prog G 24 [dgV key, .string s] [] (dgV (macT kk key s)) [] := by
  refine walk (fn := Tryd.f24) (nt := 17) rfl rfl rfl rfl ?_
  refine c_hole 5 (H' := [hole, hole, hole, hole, hole]) rfl ?_
  refine c_seq (c_reg ?_)
  refine r_box (v := dgV key) (b := dgB key) (nid := 0) (H' := [dgB key, hole, hole, hole, hole]) rfl rfl rfl (by kernel_rfl) (by kernel_rfl) ?_
  refine r_alloc (b := dgB dz) (nid := 1) (H' := [dgB key, dgB dz, hole, hole, hole]) rfl rfl (by kernel_rfl) (by kernel_rfl) ?_
  refine r_doneN (x_then (c_seq (c_reg ?_)))
  refine r_load (p := pt 0 0) (v := dgV key) rfl rfl rfl (by kernel_rfl) ?_
  refine r_callP (block_tag_ok (G := G) key (54#8)) (vals := [dgV key, w8 (54#8)]) (res' := .string (blockT key (54#8))) rfl rfl rfl rfl rfl rfl ?_
  refine r_move (v := .string s) rfl rfl rfl ?_
  refine r_lit (vs := [(0, .string (blockT key (54#8))), (1, .string s)]) (v := slv 2 0 2 2) (blk := txB [(blockT key (54#8)), s]) (nid := 2) (H' := [dgB key, dgB dz, txB [(blockT key (54#8)), s], hole, hole]) rfl rfl rfl (by kernel_rfl) (by kernel_rfl) ?_
  refine r_callN (e := [some (2, 0)]) (nid := 0) (Of_ok (G := G) kk hG [(blockT key (54#8)), s] 2 (by simp) (by simp [blockT_size, strOf_size, dgL_len]; try omega)) (vals := [slv 2 0 2 2]) (v := dgV (shaOf kk (msgOf [(blockT key (54#8)), s]))) (H' := [dgB key, dgB dz, txB [(blockT key (54#8)), s], hole, hole]) rfl rfl rfl rfl rfl rfl rfl ⟨⟨⟨rfl, rfl, rfl, by first | omega | exact Nat.le_refl _, by first | omega | exact Nat.le_refl _⟩, trivial⟩, ⟨(emb_tx rfl), trivial⟩, rfl, rfl, rfl⟩ (by kernel_rfl) (by kernel_rfl) ?_
  refine r_alloc (b := dgB dz) (nid := 3) (H' := [dgB key, dgB dz, txB [(blockT key (54#8)), s], dgB dz, hole]) rfl rfl (by kernel_rfl) (by kernel_rfl) ?_
  refine r_store (p := pt 3 0) (v := dgV (shaOf kk (msgOf [(blockT key (54#8)), s]))) (b := 3) (blk := dgB (shaOf kk (msgOf [(blockT key (54#8)), s]))) (H' := [dgB key, dgB dz, txB [(blockT key (54#8)), s], dgB (shaOf kk (msgOf [(blockT key (54#8)), s])), hole]) rfl rfl rfl (by kernel_rfl) (by kernel_rfl) ?_
  refine r_doneN (x_then (c_seq ?_))
  refine c_drawK (by kernel_rfl) ?_
  refine r_load (p := pt 0 0) (v := dgV key) rfl rfl rfl (by kernel_rfl) ?_
  refine r_callP (block_tag_ok (G := G) key (92#8)) (vals := [dgV key, w8 (92#8)]) (res' := .string (blockT key (92#8))) rfl rfl rfl rfl rfl rfl ?_
  refine r_slice (p := pt 3 0) (vl := none) (vh := none) (v := slv 3 0 32 32) rfl rfl rfl rfl rfl rfl ?_
  refine r_str (p := slv 3 0 32 32) (v := .string (strOf (dgL (shaOf kk (msgOf [(blockT key (54#8)), s]))))) rfl rfl rfl (strD_row (l := (dgL (shaOf kk (msgOf [(blockT key (54#8)), s])))) rfl rfl rfl rfl (of_decide_eq_true (by kernel_rfl)) (by kernel_rfl)) ?_
  refine r_lit (vs := [(0, .string (blockT key (92#8))), (1, .string (strOf (dgL (shaOf kk (msgOf [(blockT key (54#8)), s])))))]) (v := slv 4 0 2 2) (blk := txB [(blockT key (92#8)), (strOf (dgL (shaOf kk (msgOf [(blockT key (54#8)), s]))))]) (nid := 4) (H' := [dgB key, dgB dz, txB [(blockT key (54#8)), s], dgB (shaOf kk (msgOf [(blockT key (54#8)), s])), txB [(blockT key (92#8)), (strOf (dgL (shaOf kk (msgOf [(blockT key (54#8)), s]))))]]) rfl rfl rfl (by kernel_rfl) (by kernel_rfl) ?_
  refine r_callN (e := [some (4, 0)]) (nid := 0) (Of_ok (G := G) kk hG [(blockT key (92#8)), (strOf (dgL (shaOf kk (msgOf [(blockT key (54#8)), s]))))] 2 (by simp) (by simp [blockT_size, strOf_size, dgL_len]; try omega)) (vals := [slv 4 0 2 2]) (v := dgV (shaOf kk (msgOf [(blockT key (92#8)), (strOf (dgL (shaOf kk (msgOf [(blockT key (54#8)), s]))))]))) (H' := [dgB key, dgB dz, txB [(blockT key (54#8)), s], dgB (shaOf kk (msgOf [(blockT key (54#8)), s])), txB [(blockT key (92#8)), (strOf (dgL (shaOf kk (msgOf [(blockT key (54#8)), s]))))]]) rfl rfl rfl rfl rfl rfl rfl ⟨⟨⟨rfl, rfl, rfl, by first | omega | exact Nat.le_refl _, by first | omega | exact Nat.le_refl _⟩, trivial⟩, ⟨(emb_tx rfl), trivial⟩, rfl, rfl, rfl⟩ (by kernel_rfl) (by kernel_rfl) ?_
  refine r_store (p := pt 1 0) (v := dgV (shaOf kk (msgOf [(blockT key (92#8)), (strOf (dgL (shaOf kk (msgOf [(blockT key (54#8)), s]))))]))) (b := 1) (blk := dgB (shaOf kk (msgOf [(blockT key (92#8)), (strOf (dgL (shaOf kk (msgOf [(blockT key (54#8)), s]))))]))) (H' := [dgB key, dgB (shaOf kk (msgOf [(blockT key (92#8)), (strOf (dgL (shaOf kk (msgOf [(blockT key (54#8)), s]))))])), txB [(blockT key (54#8)), s], dgB (shaOf kk (msgOf [(blockT key (54#8)), s])), txB [(blockT key (92#8)), (strOf (dgL (shaOf kk (msgOf [(blockT key (54#8)), s]))))]]) rfl rfl rfl (by kernel_rfl) (by kernel_rfl) ?_
  refine r_doneK (by kernel_rfl) ?_
  refine x_then (c_ret (x_end ?_))
  exact end_same (v := dgV (shaOf kk (msgOf [(blockT key (92#8)), (strOf (dgL (shaOf kk (msgOf [(blockT key (54#8)), s]))))]))) (by kernel_rfl) rfl rfl (by kernel_rfl) (argV_pure (pure_row fun _ => rfl) rfl)
theorem Same_ok (a b : D) : CallL Tryd.prog G 49 [dgV a, dgV b] [] (.bool (sameB 32 a b)) [] := by
  refine walk (fn := Tryd.f49) (nt := 22) rfl rfl rfl rfl ?_
  refine c_hole 2 (H' := [hole, hole]) rfl ?_
  refine c_seq (c_reg ?_)
  refine r_box (v := dgV a) (b := dgB a) (nid := 0) (H' := [dgB a, hole]) rfl rfl rfl (by kernel_rfl) (by kernel_rfl) ?_
  refine r_box (v := dgV b) (b := dgB b) (nid := 1) (H' := [dgB a, dgB b]) rfl rfl rfl (by kernel_rfl) (by kernel_rfl) ?_
  refine r_assign (v := .bool false) rfl rfl rfl ?_
  refine r_doneN (x_then (c_seq (c_reg ?_)))
  refine r_assign (v := w8 (0#8)) rfl rfl rfl ?_
  refine r_doneN (x_then (c_seq (c_seq (c_reg ?_))))
  refine r_move (v := .int .i64 0) rfl rfl rfl ?_
  refine r_doneN (x_then (c_block ?_))
  refine c_loopN (fun x : Nat × (BitVec 8) => match x with | (j, all) => [dgV a, dgV b, pt 0 0, pt 1 0, .bool false, w8 all, dead, .int .i64 (j : Nat)]) (fun x : Nat × (BitVec 8) => match x with | (j, all) => [dgB a, dgB b]) (fun x : Nat × (BitVec 8) => match x with | (j, all) => all = allF a b j ∧ j ≤ 32) (fun x : Nat × (BitVec 8) => match x with | (j, all) => 32 - j) (0, 0) ⟨rfl, by omega⟩ ?_ ?_
  · refine weak_to (n := 2) rfl ?_ (by kernel_rfl) (by kernel_rfl)
    repeat (first | exact trivial | refine ⟨.inl rfl, ?_⟩ | refine ⟨.inr ⟨rfl, rfl⟩, ?_⟩ | refine ⟨.inr ⟨congrArg (Value.int .i64) (by first | omega | (dsimp only; omega)), rfl⟩, ?_⟩)
  rintro ⟨j, all⟩ ⟨ha, hj⟩
  dsimp only at *
  refine c_seq (c_reg ?_)
  by_cases h1 : (j : Nat) < 32
  refine r_bin (v := .bool true) (vx := .int .i64 (j : Nat)) (vy := .int .i64 32) rfl rfl rfl rfl (lss_t (by omega)) ?_
  refine r_doneN (x_then (c_seq (c_true rfl (c_skip (x_then (c_seq (c_block (c_seq (c_reg ?_)))))))))
  refine r_move (v := .int .i64 (j : Nat)) rfl rfl rfl ?_
  refine r_assign (v := .int .i64 (j : Nat)) rfl rfl rfl ?_
  refine r_doneN (x_then ?_)
  refine c_draw (by kernel_rfl) ?_
  refine r_move (v := w8 all) rfl rfl rfl ?_
  refine r_move (v := .int .i64 (j : Nat)) rfl rfl rfl ?_
  refine r_idxA (b := 0) (o := 0) (j := j) (n := 32) (sz := 1) (i := (j : Nat)) (k := .i64) rfl rfl rfl rfl rfl (by omega) (by omega) (by omega) ?_
  refine r_load (p := pt 0 j) (v := w8 (a j)) rfl rfl rfl (loadA_row (blk := dgB a) (i := j) (enc := w8) (n := 32) (w := a) rfl rfl rfl (by omega) fun _ => rfl) ?_
  refine r_move (v := .int .i64 (j : Nat)) rfl rfl rfl ?_
  refine r_idxA (b := 1) (o := 0) (j := j) (n := 32) (sz := 1) (i := (j : Nat)) (k := .i64) rfl rfl rfl rfl rfl (by omega) (by omega) (by omega) ?_
  refine r_load (p := pt 1 j) (v := w8 (b j)) rfl rfl rfl (loadA_row (blk := dgB b) (i := j) (enc := w8) (n := 32) (w := b) rfl rfl rfl (by omega) fun _ => rfl) ?_
  refine r_bin (v := w8 ((a j) ^^^ (b j))) (vx := w8 (a j)) (vy := w8 (b j)) rfl rfl rfl rfl (xor8 (ofI _ _) (ofI _ _)) ?_
  refine r_bin (v := w8 (all ||| ((a j) ^^^ (b j)))) (vx := w8 all) (vy := w8 ((a j) ^^^ (b j))) rfl rfl rfl rfl (or8 (ofI _ _) (ofI _ _)) ?_
  refine r_assign (v := w8 (all ||| ((a j) ^^^ (b j)))) rfl rfl rfl ?_
  refine r_doneD (by kernel_rfl) ?_
  refine x_blockN (x_then (c_reg ?_))
  refine r_bin (v := .int .i64 ((j : Nat) + 1)) (vx := .int .i64 (j : Nat)) (vy := .int .i64 1) rfl rfl rfl rfl (bin_add (by omega) (by omega) (by omega)) ?_
  refine r_move (v := .int .i64 ((j : Nat) + 1)) rfl rfl rfl ?_
  refine r_doneN ?_
  refine x_round ⟨((j + 1), (all ||| ((a j) ^^^ (b j)))), ⟨allF_step ha, by omega⟩, by show 32 - (j + 1) < 32 - j; omega, ?_⟩
  refine weak_to (n := 2) rfl ?_ (by kernel_rfl) (by kernel_rfl)
  repeat (first | exact trivial | refine ⟨.inl rfl, ?_⟩ | refine ⟨.inr ⟨rfl, rfl⟩, ?_⟩ | refine ⟨.inr ⟨congrArg (Value.int .i64) (by first | omega | (dsimp only; omega)), rfl⟩, ?_⟩)
  refine r_bin (v := .bool false) (vx := .int .i64 (j : Nat)) (vy := .int .i64 32) rfl rfl rfl rfl (lss_f (by omega)) ?_
  refine r_doneN (x_then (c_seq (c_false rfl (c_exit (x_thenE (x_leaveE (x_block rfl (x_then (c_seq (c_reg ?_))))))))))
  refine r_move (v := w8 all) rfl rfl rfl ?_
  rcases Bool.eq_false_or_eq_true (all == 0#8) with h2 | h2
  refine r_bin (v := .bool true) (vx := w8 all) (vy := w8 (0#8)) rfl rfl rfl rfl (Eq.trans eqlW (by rw [h2] <;> rfl)) ?_
  refine r_assign (v := .bool true) rfl rfl rfl ?_
  refine r_doneN (x_then (c_ret (x_end ?_)))
  rw [show sameB 32 a b = true from by rw [← allF_same, ← show j = 32 by omega, ← ha]; exact h2]
  exact end_same (v := .bool true) rfl rfl rfl (by kernel_rfl) rfl
  refine r_bin (v := .bool false) (vx := w8 all) (vy := w8 (0#8)) rfl rfl rfl rfl (Eq.trans eqlW (by rw [h2] <;> rfl)) ?_
  refine r_assign (v := .bool false) rfl rfl rfl ?_
  refine r_doneN (x_then (c_ret (x_end ?_)))
  rw [show sameB 32 a b = false from by rw [← allF_same, ← show j = 32 by omega, ← ha]; exact h2]
  exact end_same (v := .bool false) rfl rfl rfl (by kernel_rfl) rfl
theorem Key_ok (kk : Nat → BitVec 32) (hG : G 0 = some (rowE w32 64 kk)) (master : D) (region node : Int)  : CallL Tryd.prog G 23 [dgV master, .int .i64 region, .int .i64 node] [] (.tuple #[dgV (keyT kk master region node).1, .int .i64 (keyT kk master region node).2]) [] := by
  refine walk (fn := Tryd.f23) (nt := 31) rfl rfl rfl rfl ?_
  refine c_hole 3 (H' := [hole, hole, hole]) rfl ?_
  refine c_seq (c_reg ?_)
  refine r_box (v := dgV master) (b := dgB master) (nid := 0) (H' := [dgB master, hole, hole]) rfl rfl rfl (by kernel_rfl) (by kernel_rfl) ?_
  refine r_alloc (b := dgB dz) (nid := 1) (H' := [dgB master, dgB dz, hole]) rfl rfl (by kernel_rfl) (by kernel_rfl) ?_
  refine r_assign (v := .int .i64 0) rfl rfl rfl ?_
  refine r_doneN (x_then (c_seq (c_seq (c_reg ?_))))
  refine r_move (v := .int .i64 region) rfl rfl rfl ?_
  by_cases h1 : region < 1
  refine r_bin (v := .bool true) (vx := .int .i64 region) (vy := .int .i64 1) rfl rfl rfl rfl (lss_t (by omega)) ?_
  refine r_move (v := .bool true) rfl rfl rfl ?_
  refine r_skip rfl rfl (r_skip rfl rfl ?_)
  refine r_pick (v := .bool true) rfl rfl rfl ?_
  refine r_move (v := .bool true) rfl rfl rfl ?_
  refine r_skip rfl rfl (r_skip rfl rfl ?_)
  refine r_pick (v := .bool true) rfl rfl rfl ?_
  refine r_move (v := .bool true) rfl rfl rfl ?_
  refine r_skip rfl rfl (r_skip rfl rfl ?_)
  refine r_pick (v := .bool true) rfl rfl rfl ?_
  refine r_doneN (x_then (c_true rfl (c_seq (c_reg ?_))))
  refine r_build (vs := []) (v := dgV dz) rfl rfl rfl (by kernel_rfl) ?_
  refine r_store (p := pt 1 0) (v := dgV dz) (b := 1) (blk := dgB dz) (H' := [dgB master, dgB dz, hole]) rfl rfl rfl (by kernel_rfl) (by kernel_rfl) ?_
  refine r_assign (v := .int .i64 50) rfl rfl rfl ?_
  refine r_doneN (x_then (c_ret (x_thenR (x_end ?_))))
  rw [show keyT kk master region node = (dz, 50) from if_neg (by omega)]
  exact end_same (v := .tuple #[dgV dz, .int .i64 50]) (by kernel_rfl) rfl rfl (by kernel_rfl) ⟨(argV_pure (pure_row fun _ => rfl) rfl), rfl, trivial⟩
  refine r_bin (v := .bool false) (vx := .int .i64 region) (vy := .int .i64 1) rfl rfl rfl rfl (lss_f (by omega)) ?_
  refine r_move (v := .bool false) rfl rfl rfl ?_
  refine r_move (v := .int .i64 region) rfl rfl rfl ?_
  by_cases h2 : 5 < region
  refine r_bin (v := .bool true) (vx := .int .i64 region) (vy := .int .i64 5) rfl rfl rfl rfl (gtr_t (by omega)) ?_
  refine r_pick (v := .bool true) rfl rfl rfl ?_
  refine r_move (v := .bool true) rfl rfl rfl ?_
  refine r_skip rfl rfl (r_skip rfl rfl ?_)
  refine r_pick (v := .bool true) rfl rfl rfl ?_
  refine r_move (v := .bool true) rfl rfl rfl ?_
  refine r_skip rfl rfl (r_skip rfl rfl ?_)
  refine r_pick (v := .bool true) rfl rfl rfl ?_
  refine r_doneN (x_then (c_true rfl (c_seq (c_reg ?_))))
  refine r_build (vs := []) (v := dgV dz) rfl rfl rfl (by kernel_rfl) ?_
  refine r_store (p := pt 1 0) (v := dgV dz) (b := 1) (blk := dgB dz) (H' := [dgB master, dgB dz, hole]) rfl rfl rfl (by kernel_rfl) (by kernel_rfl) ?_
  refine r_assign (v := .int .i64 50) rfl rfl rfl ?_
  refine r_doneN (x_then (c_ret (x_thenR (x_end ?_))))
  rw [show keyT kk master region node = (dz, 50) from if_neg (by omega)]
  exact end_same (v := .tuple #[dgV dz, .int .i64 50]) (by kernel_rfl) rfl rfl (by kernel_rfl) ⟨(argV_pure (pure_row fun _ => rfl) rfl), rfl, trivial⟩
  refine r_bin (v := .bool false) (vx := .int .i64 region) (vy := .int .i64 5) rfl rfl rfl rfl (gtr_f (by omega)) ?_
  refine r_pick (v := .bool false) rfl rfl rfl ?_
  refine r_move (v := .bool false) rfl rfl rfl ?_
  refine r_move (v := .int .i64 node) rfl rfl rfl ?_
  by_cases h3 : node < 1
  refine r_bin (v := .bool true) (vx := .int .i64 node) (vy := .int .i64 1) rfl rfl rfl rfl (lss_t (by omega)) ?_
  refine r_pick (v := .bool true) rfl rfl rfl ?_
  refine r_move (v := .bool true) rfl rfl rfl ?_
  refine r_skip rfl rfl (r_skip rfl rfl ?_)
  refine r_pick (v := .bool true) rfl rfl rfl ?_
  refine r_doneN (x_then (c_true rfl (c_seq (c_reg ?_))))
  refine r_build (vs := []) (v := dgV dz) rfl rfl rfl (by kernel_rfl) ?_
  refine r_store (p := pt 1 0) (v := dgV dz) (b := 1) (blk := dgB dz) (H' := [dgB master, dgB dz, hole]) rfl rfl rfl (by kernel_rfl) (by kernel_rfl) ?_
  refine r_assign (v := .int .i64 50) rfl rfl rfl ?_
  refine r_doneN (x_then (c_ret (x_thenR (x_end ?_))))
  rw [show keyT kk master region node = (dz, 50) from if_neg (by omega)]
  exact end_same (v := .tuple #[dgV dz, .int .i64 50]) (by kernel_rfl) rfl rfl (by kernel_rfl) ⟨(argV_pure (pure_row fun _ => rfl) rfl), rfl, trivial⟩
  refine r_bin (v := .bool false) (vx := .int .i64 node) (vy := .int .i64 1) rfl rfl rfl rfl (lss_f (by omega)) ?_
  refine r_pick (v := .bool false) rfl rfl rfl ?_
  refine r_move (v := .bool false) rfl rfl rfl ?_
  refine r_move (v := .int .i64 node) rfl rfl rfl ?_
  by_cases h4 : 3 < node
  refine r_bin (v := .bool true) (vx := .int .i64 node) (vy := .int .i64 3) rfl rfl rfl rfl (gtr_t (by omega)) ?_
  refine r_pick (v := .bool true) rfl rfl rfl ?_
  refine r_doneN (x_then (c_true rfl (c_seq (c_reg ?_))))
  refine r_build (vs := []) (v := dgV dz) rfl rfl rfl (by kernel_rfl) ?_
  refine r_store (p := pt 1 0) (v := dgV dz) (b := 1) (blk := dgB dz) (H' := [dgB master, dgB dz, hole]) rfl rfl rfl (by kernel_rfl) (by kernel_rfl) ?_
  refine r_assign (v := .int .i64 50) rfl rfl rfl ?_
  refine r_doneN (x_then (c_ret (x_thenR (x_end ?_))))
  rw [show keyT kk master region node = (dz, 50) from if_neg (by omega)]
  exact end_same (v := .tuple #[dgV dz, .int .i64 50]) (by kernel_rfl) rfl rfl (by kernel_rfl) ⟨(argV_pure (pure_row fun _ => rfl) rfl), rfl, trivial⟩
  refine r_bin (v := .bool false) (vx := .int .i64 node) (vy := .int .i64 3) rfl rfl rfl rfl (gtr_f (by omega)) ?_
  refine r_pick (v := .bool false) rfl rfl rfl ?_
  refine r_doneN (x_then (c_false rfl (c_skip (x_then (c_seq (c_reg ?_))))))
  refine r_load (p := pt 0 0) (v := dgV master) rfl rfl rfl (by kernel_rfl) ?_
  refine r_move (v := .int .i64 region) rfl rfl rfl ?_
  refine r_conv (w := .int .i64 region) (v := w8 (BitVec.ofInt 8 region)) rfl rfl rfl (conv8 rfl rfl rfl) ?_
  refine r_move (v := .int .i64 node) rfl rfl rfl ?_
  refine r_conv (w := .int .i64 node) (v := w8 (BitVec.ofInt 8 node)) rfl rfl rfl (conv8 rfl rfl rfl) ?_
  refine r_lit (vs := [(0, w8 (75#8)), (1, w8 (BitVec.ofInt 8 region)), (2, w8 (BitVec.ofInt 8 node))]) (v := slv 2 0 3 3) (blk := rowB [75#8, (BitVec.ofInt 8 region), (BitVec.ofInt 8 node)]) (nid := 2) (H' := [dgB master, dgB dz, rowB [75#8, (BitVec.ofInt 8 region), (BitVec.ofInt 8 node)]]) rfl rfl rfl (by kernel_rfl) (by kernel_rfl) ?_
  refine r_str (p := slv 2 0 3 3) (v := .string (strOf [75#8, (BitVec.ofInt 8 region), (BitVec.ofInt 8 node)])) rfl rfl rfl (str_whole rfl rfl rfl rfl rfl (by have := (rfl : _ = 3); omega)) ?_
  refine r_callP (Mac_ok (G := G) kk hG master (strOf [75#8, (BitVec.ofInt 8 region), (BitVec.ofInt 8 node)]) (by simp [strOf_size])) (vals := [dgV master, .string (strOf [75#8, (BitVec.ofInt 8 region), (BitVec.ofInt 8 node)])]) (res' := dgV (macT kk master (strOf [75#8, (BitVec.ofInt 8 region), (BitVec.ofInt 8 node)]))) rfl rfl rfl rfl rfl (by kernel_rfl) ?_
  refine r_store (p := pt 1 0) (v := dgV (macT kk master (strOf [75#8, (BitVec.ofInt 8 region), (BitVec.ofInt 8 node)]))) (b := 1) (blk := dgB (macT kk master (strOf [75#8, (BitVec.ofInt 8 region), (BitVec.ofInt 8 node)]))) (H' := [dgB master, dgB (macT kk master (strOf [75#8, (BitVec.ofInt 8 region), (BitVec.ofInt 8 node)])), rowB [75#8, (BitVec.ofInt 8 region), (BitVec.ofInt 8 node)]]) rfl rfl rfl (by kernel_rfl) (by kernel_rfl) ?_
  refine r_assign (v := .int .i64 0) rfl rfl rfl ?_
  refine r_doneN (x_then (c_ret (x_end ?_)))
  rw [show keyT kk master region node = ((macT kk master (strOf [75#8, (BitVec.ofInt 8 region), (BitVec.ofInt 8 node)])), 0) from if_pos (by omega)]
  exact end_same (v := .tuple #[dgV (macT kk master (strOf [75#8, (BitVec.ofInt 8 region), (BitVec.ofInt 8 node)])), .int .i64 0]) (by kernel_rfl) rfl rfl (by kernel_rfl) ⟨(argV_pure (pure_row fun _ => rfl) rfl), rfl, trivial⟩
def holdsE (kk : Nat → BitVec 32) (master : D) (region node : Int) (s : ByteArray) (t : D) : Int :=
  if (((keyT kk master region node).2)) ≠ 0 then (((keyT kk master region node).2)) else
  if sameB 32 (macT kk ((keyT kk master region node).1) s) t = true then 0 else
  72
theorem Holds_ok (kk : Nat → BitVec 32) (hG : G 0 = some (rowE w32 64 kk)) (master : D) (region node : Int) (s : ByteArray) (t : D) (hs : s.size ≤ 1048576) : CallL Tryd.prog G 30 [dgV master, .int .i64 region, .int .i64 node, .string s, dgV t] [] (.int .i64 (holdsE kk master region node s t)) [] := by
  refine walk (fn := Tryd.f30) (nt := 31) rfl rfl rfl rfl ?_
  refine c_hole 3 (H' := [hole, hole, hole]) rfl ?_
  refine c_seq (c_reg ?_)
  refine r_box (v := dgV master) (b := dgB master) (nid := 0) (H' := [dgB master, hole, hole]) rfl rfl rfl (by kernel_rfl) (by kernel_rfl) ?_
  refine r_box (v := dgV t) (b := dgB t) (nid := 1) (H' := [dgB master, dgB t, hole]) rfl rfl rfl (by kernel_rfl) (by kernel_rfl) ?_
  refine r_assign (v := .int .i64 0) rfl rfl rfl ?_
  refine r_doneN (x_then (c_seq (c_reg ?_)))
  refine r_load (p := pt 0 0) (v := dgV master) rfl rfl rfl (by kernel_rfl) ?_
  refine r_move (v := .int .i64 region) rfl rfl rfl ?_
  refine r_move (v := .int .i64 node) rfl rfl rfl ?_
  refine r_callP (Key_ok (G := G) kk hG master region node) (vals := [dgV master, .int .i64 region, .int .i64 node]) (res' := .tuple #[dgV ((keyT kk master region node).1), .int .i64 (((keyT kk master region node).2))]) rfl rfl rfl rfl rfl (by kernel_rfl) ?_
  refine r_move (v := .tuple #[dgV ((keyT kk master region node).1), .int .i64 (((keyT kk master region node).2))]) rfl rfl rfl ?_
  refine r_extract (vs := #[dgV ((keyT kk master region node).1), .int .i64 (((keyT kk master region node).2))]) (v := dgV ((keyT kk master region node).1)) rfl rfl rfl rfl ?_
  refine r_extract (vs := #[dgV ((keyT kk master region node).1), .int .i64 (((keyT kk master region node).2))]) (v := .int .i64 (((keyT kk master region node).2))) rfl rfl rfl rfl ?_
  refine r_alloc (b := dgB dz) (nid := 2) (H' := [dgB master, dgB t, dgB dz]) rfl rfl (by kernel_rfl) (by kernel_rfl) ?_
  refine r_store (p := pt 2 0) (v := dgV ((keyT kk master region node).1)) (b := 2) (blk := dgB ((keyT kk master region node).1)) (H' := [dgB master, dgB t, dgB ((keyT kk master region node).1)]) rfl rfl rfl (by kernel_rfl) (by kernel_rfl) ?_
  refine r_assign (v := .int .i64 (((keyT kk master region node).2))) rfl rfl rfl ?_
  refine r_doneN (x_then (c_seq (c_block (c_seq (c_reg ?_)))))
  refine r_move (v := .int .i64 (((keyT kk master region node).2))) rfl rfl rfl ?_
  by_cases h1 : (((keyT kk master region node).2)) ≠ 0
  refine r_bin (v := .bool true) (vx := .int .i64 (((keyT kk master region node).2))) (vy := .int .i64 0) rfl rfl rfl rfl (neq_t (by omega)) ?_
  refine r_assign (v := .bool true) rfl rfl rfl ?_
  refine r_doneN (x_then (c_true rfl (c_seq (c_reg ?_))))
  refine r_move (v := .int .i64 (((keyT kk master region node).2))) rfl rfl rfl ?_
  refine r_assign (v := .int .i64 (((keyT kk master region node).2))) rfl rfl rfl ?_
  refine r_doneN (x_then (c_ret (x_blockR (x_thenR (x_end ?_)))))
  rw [show holdsE kk master region node s t = (((keyT kk master region node).2)) from by unfold holdsE; rw [if_pos h1]]
  exact end_same (v := .int .i64 (((keyT kk master region node).2))) rfl rfl rfl (by kernel_rfl) rfl
  refine r_bin (v := .bool false) (vx := .int .i64 (((keyT kk master region node).2))) (vy := .int .i64 0) rfl rfl rfl rfl (neq_f (by omega)) ?_
  refine r_assign (v := .bool false) rfl rfl rfl ?_
  refine r_doneN (x_then (c_false rfl (c_seq ?_)))
  refine c_drawK (by kernel_rfl) ?_
  refine r_load (p := pt 2 0) (v := dgV ((keyT kk master region node).1)) rfl rfl rfl (by kernel_rfl) ?_
  refine r_move (v := .string s) rfl rfl rfl ?_
  refine r_callP (Mac_ok (G := G) kk hG ((keyT kk master region node).1) s hs) (vals := [dgV ((keyT kk master region node).1), .string s]) (res' := dgV (macT kk ((keyT kk master region node).1) s)) rfl rfl rfl rfl rfl (by kernel_rfl) ?_
  refine r_load (p := pt 1 0) (v := dgV t) rfl rfl rfl (by kernel_rfl) ?_
  refine r_callP (Same_ok (G := G) (macT kk ((keyT kk master region node).1) s) t) (vals := [dgV (macT kk ((keyT kk master region node).1) s), dgV t]) (res' := .bool (sameB 32 (macT kk ((keyT kk master region node).1) s) t)) rfl rfl rfl rfl rfl rfl ?_
  rcases Bool.eq_false_or_eq_true (sameB 32 (macT kk ((keyT kk master region node).1) s) t) with h2 | h2
  refine r_un (v := .bool false) (vx := .bool (sameB 32 (macT kk ((keyT kk master region node).1) s) t)) rfl rfl rfl (Eq.trans un_not (congrArg (fun b => some (Value.bool !b)) h2)) ?_
  refine r_assign (v := .bool false) rfl rfl rfl ?_
  refine r_doneK (by kernel_rfl) ?_
  refine x_then (c_false rfl (c_skip (x_blockN (x_then (c_seq (c_reg ?_))))))
  refine r_assign (v := .int .i64 0) rfl rfl rfl ?_
  refine r_doneN (x_then (c_ret (x_end ?_)))
  rw [show holdsE kk master region node s t = 0 from by unfold holdsE; rw [if_neg h1, if_pos h2]]
  exact end_same (v := .int .i64 0) rfl rfl rfl (by kernel_rfl) rfl
  refine r_un (v := .bool true) (vx := .bool (sameB 32 (macT kk ((keyT kk master region node).1) s) t)) rfl rfl rfl (Eq.trans un_not (congrArg (fun b => some (Value.bool !b)) h2)) ?_
  refine r_assign (v := .bool true) rfl rfl rfl ?_
  refine r_doneK (by kernel_rfl) ?_
  refine x_then (c_true rfl (c_seq (c_reg ?_)))
  refine r_assign (v := .int .i64 72) rfl rfl rfl ?_
  refine r_doneN (x_then (c_ret (x_blockR (x_thenR (x_end ?_)))))
  rw [show holdsE kk master region node s t = 72 from by unfold holdsE; rw [if_neg h1, if_neg (by rw [h2]; decide)]]
  exact end_same (v := .int .i64 72) rfl rfl rfl (by kernel_rfl) rfl
end Go.Flat
