/- Walks and plain laws: what each theorem says, within the bounds that it names. -/
import Derived.Test.YtoheeojjdpdljaaDoorL1
set_option linter.unusedVariables false
set_option linter.unusedSimpArgs false
set_option maxRecDepth 20000
namespace Go.Flat
open Go.Proofs
variable {G : Glob}
theorem eqSigned_iff' (a b : Signed) : eqSigned a b = true ↔ eqHead a.head b.head = true ∧ a.node = b.node ∧ sameB 32 a.tag b.tag = true := by simp [eqSigned]
theorem eqClaim_iff (a b : Claim) : eqClaim a b = true ↔ a.region = b.region ∧ a.epoch = b.epoch ∧ a.node = b.node ∧ a.size = b.size ∧ sameB 32 a.root b.root = true := by simp [eqClaim]
theorem eqEnt_iff (a b : Entry) : eqEnt a b = true ↔ a.kind = b.kind ∧ a.client = b.client ∧ a.seq = b.seq ∧ a.text = b.text ∧ eqSigned a.head b.head = true ∧ eqClaim a.claim b.claim = true := by simp [eqEnt]
theorem eqItem_iff (a b : Item) : eqItem a b = true ↔ a.epoch = b.epoch ∧ eqEnt a.entry b.entry = true := by simp [eqItem]
theorem eqSigned_trans {a b c : Signed} (h : eqSigned a b = true) (h' : eqSigned b c = true) : eqSigned a c = true := by
  rw [eqSigned_iff'] at h h' ⊢
  exact ⟨eqHead_trans h.1 h'.1, h.2.1.trans h'.2.1, sameB_trans h.2.2 h'.2.2⟩
theorem eqClaim_trans {a b c : Claim} (h : eqClaim a b = true) (h' : eqClaim b c = true) : eqClaim a c = true := by
  rw [eqClaim_iff] at h h' ⊢
  exact ⟨h.1.trans h'.1, h.2.1.trans h'.2.1, h.2.2.1.trans h'.2.2.1, h.2.2.2.1.trans h'.2.2.2.1, sameB_trans h.2.2.2.2 h'.2.2.2.2⟩
theorem eqItem_symm {a b : Item} (h : eqItem a b = true) : eqItem b a = true := by
  rw [eqItem_iff, eqEnt_iff] at h ⊢
  obtain ⟨h0, h1, h2, h3, h4, h5, h6⟩ := h
  exact ⟨h0.symm, h1.symm, h2.symm, h3.symm, h4.symm, (eqSigned_comm _ _).trans h5, (eqClaim_comm _ _).trans h6⟩
theorem eqItem_trans {a b c : Item} (h : eqItem a b = true) (h' : eqItem b c = true) : eqItem a c = true := by
  rw [eqItem_iff, eqEnt_iff] at h h' ⊢
  obtain ⟨h0, h1, h2, h3, h4, h5, h6⟩ := h
  obtain ⟨g0, g1, g2, g3, g4, g5, g6⟩ := h'
  exact ⟨h0.trans g0, h1.trans g1, h2.trans g2, h3.trans g3, h4.trans g4, eqSigned_trans h5 g5, eqClaim_trans h6 g6⟩
theorem putC_congr {a b : Claim} (h : eqClaim a b = true) (hb : rightC b) : (putC a).1 = (putC b).1 := by
  have ha := rightC_congr h hb
  obtain ⟨h1, h2, h3, h4, h5⟩ := (eqClaim_iff a b).1 h
  rw [show putC a = _ from if_pos ha, show putC b = _ from if_pos hb]
  show (layF (claimF a) 0 []).1 = (layF (claimF b) 0 []).1
  unfold claimF
  rw [h1, h2, h3, h4, dgL_same h5]
theorem putI_congr {a b : Item} (h : eqItem a b = true) (ha : rightI a) (hb : rightI b) : (putI a).1 = (putI b).1 := by
  obtain ⟨h0, he⟩ := (eqItem_iff a b).1 h
  obtain ⟨h1, h2, h3, h4, h5, h6⟩ := (eqEnt_iff _ _).1 he
  have hp : (putE a.entry).1 = (putE b.entry).1 := by
    rw [show putE a.entry = _ from if_pos ha.2.2, show putE b.entry = _ from if_pos hb.2.2]
    show (layF (entF a.entry) 0 []).1 = (layF (entF b.entry) 0 []).1
    unfold entF
    rw [h1, h2, h3, h4]
    split
    · rfl
    · split
      · rename_i g1 g2
        rw [putSF_congr h5 (by
          rcases hb.2.2 with q | q | q
          · exact absurd q.1 g1
          · exact q.2.2.2.2.1
          · have := q.1; omega)]
      · rename_i g1 g2
        rw [putC_congr h6 (by
          rcases hb.2.2 with q | q | q
          · exact absurd q.1 g1
          · exact absurd q.1 g2
          · exact q.2.2.2.2.2)]
  rw [show putI a = _ from if_pos ha, show putI b = _ from if_pos hb]
  show (layF (itemF a) 0 []).1 = (layF (itemF b) 0 []).1
  unfold itemF
  rw [h0, hp]
theorem apartI {x y : Item} (hx : (putI x).2 = 0) (hy : (putI y).2 = 0) : sameT (strOf (putI x).1) (strOf (putI y).1) = eqItem x y := by
  rw [Bool.eq_iff_iff, sameT_str]
  constructor
  · intro h
    have g1 := gotI_put (putI_1 hx)
    have g2 := gotI_put (putI_1 hy)
    rw [h] at g1
    exact eqItem_trans (eqItem_symm g1.2) g2.2
  · intro h; exact putI_congr h (putI_1 hx) (putI_1 hy)
theorem apartC {a b : Claim} (ha : (putC a).2 = 0) (hb : (putC b).2 = 0) : sameT (strOf (putC a).1) (strOf (putC b).1) = eqClaim a b := by
  rw [Bool.eq_iff_iff, sameT_str]
  constructor
  · intro h
    have g1 := gotC_put (putC_1 ha)
    have g2 := gotC_put (putC_1 hb)
    rw [h] at g1
    exact eqClaim_trans ((eqClaim_comm _ _).trans g1.2) g2.2
  · intro h; exact putC_congr h (putC_1 hb)
theorem EntryApart_ok (kk : Nat → BitVec 32) (hG : G 1 = some (rowE w32 64 kk)) (x y : Item) (c d : Claim) : CallL Tryd.prog G 6 [itemV x, itemV y, claimV c, claimV d] [] (.bool true) [] := by
  refine walk (fn := Tryd.f6) (nt := 89) rfl rfl rfl rfl ?_
  refine c_hole 8 (H' := [hole, hole, hole, hole, hole, hole, hole, hole]) rfl ?_
  refine c_seq (c_reg ?_)
  refine r_box (v := itemV x) (b := bxB 110 (itemC x)) (nid := 0) (H' := [bxB 110 (itemC x), hole, hole, hole, hole, hole, hole, hole]) rfl rfl rfl (by kernel_rfl) (by kernel_rfl) ?_
  refine r_box (v := itemV y) (b := bxB 110 (itemC y)) (nid := 1) (H' := [bxB 110 (itemC x), bxB 110 (itemC y), hole, hole, hole, hole, hole, hole]) rfl rfl rfl (by kernel_rfl) (by kernel_rfl) ?_
  refine r_box (v := claimV c) (b := bxB 36 (claimC c)) (nid := 2) (H' := [bxB 110 (itemC x), bxB 110 (itemC y), bxB 36 (claimC c), hole, hole, hole, hole, hole]) rfl rfl rfl (by kernel_rfl) (by kernel_rfl) ?_
  refine r_box (v := claimV d) (b := bxB 36 (claimC d)) (nid := 3) (H' := [bxB 110 (itemC x), bxB 110 (itemC y), bxB 36 (claimC c), bxB 36 (claimC d), hole, hole, hole, hole]) rfl rfl rfl (by kernel_rfl) (by kernel_rfl) ?_
  refine r_assign (v := .bool false) rfl rfl rfl ?_
  refine r_doneN (x_then (c_seq (c_seq (c_reg ?_))))
  refine r_fieldAddr (b := 0) (o := 0) (n := 1) (o' := 1) rfl rfl rfl rfl rfl ?_
  refine r_fieldAddr (b := 0) (o := 1) (n := 3) (o' := 4) rfl rfl rfl rfl rfl ?_
  refine r_load (p := pt 0 4) (v := .string x.entry.text) rfl rfl rfl (by kernel_rfl) ?_
  refine r_len (p := .string x.entry.text) (v := .int .i64 (x.entry.text.size : Nat)) rfl rfl rfl rfl ?_
  by_cases h1 : 16384 < (x.entry.text.size : Nat)
  refine r_bin (v := .bool true) (vx := .int .i64 (x.entry.text.size : Nat)) (vy := .int .i64 16384) rfl rfl rfl rfl (gtr_t (by omega)) ?_
  refine r_move (v := .bool true) rfl rfl rfl ?_
  refine r_skip rfl rfl (r_skip rfl rfl (r_skip rfl rfl (r_skip rfl rfl (r_skip rfl rfl ?_))))
  refine r_pick (v := .bool true) rfl rfl rfl ?_
  refine r_doneN (x_then (c_true rfl (c_seq (c_reg ?_))))
  refine r_assign (v := .bool true) rfl rfl rfl ?_
  refine r_doneN (x_then (c_ret (x_thenR (x_end ?_))))
  exact end_pv (v := .bool true) rfl rfl rfl
  refine r_bin (v := .bool false) (vx := .int .i64 (x.entry.text.size : Nat)) (vy := .int .i64 16384) rfl rfl rfl rfl (gtr_f (by omega)) ?_
  refine r_move (v := .bool false) rfl rfl rfl ?_
  refine r_fieldAddr (b := 1) (o := 0) (n := 1) (o' := 1) rfl rfl rfl rfl rfl ?_
  refine r_fieldAddr (b := 1) (o := 1) (n := 3) (o' := 4) rfl rfl rfl rfl rfl ?_
  refine r_load (p := pt 1 4) (v := .string y.entry.text) rfl rfl rfl (by kernel_rfl) ?_
  refine r_len (p := .string y.entry.text) (v := .int .i64 (y.entry.text.size : Nat)) rfl rfl rfl rfl ?_
  by_cases h2 : 16384 < (y.entry.text.size : Nat)
  refine r_bin (v := .bool true) (vx := .int .i64 (y.entry.text.size : Nat)) (vy := .int .i64 16384) rfl rfl rfl rfl (gtr_t (by omega)) ?_
  refine r_pick (v := .bool true) rfl rfl rfl ?_
  refine r_doneN (x_then (c_true rfl (c_seq (c_reg ?_))))
  refine r_assign (v := .bool true) rfl rfl rfl ?_
  refine r_doneN (x_then (c_ret (x_thenR (x_end ?_))))
  exact end_pv (v := .bool true) rfl rfl rfl
  refine r_bin (v := .bool false) (vx := .int .i64 (y.entry.text.size : Nat)) (vy := .int .i64 16384) rfl rfl rfl rfl (gtr_f (by omega)) ?_
  refine r_pick (v := .bool false) rfl rfl rfl ?_
  refine r_doneN (x_then (c_false rfl (c_skip (x_then (c_seq (c_reg ?_))))))
  refine r_load (p := pt 0 0) (v := itemV x) rfl rfl rfl (by kernel_rfl) ?_
  have hpl15 := putI_len x
  refine r_callN (e := []) (nid := 4) (PutItem_ok (G := G) x) (vals := [itemV x]) (v := .tuple #[slv 4 0 ((putI x).1.length) ((putI x).1.length), .int .i64 (((putI x).2))]) (H' := [bxB 110 (itemC x), bxB 110 (itemC y), bxB 36 (claimC c), bxB 36 (claimC d), rowB ((putI x).1), hole, hole, hole]) rfl rfl rfl rfl rfl rfl rfl ⟨⟨rfl, trivial⟩, trivial, rfl, rfl, rfl⟩ (by kernel_rfl) (by kernel_rfl) ?_
  refine r_move (v := .tuple #[slv 4 0 ((putI x).1.length) ((putI x).1.length), .int .i64 (((putI x).2))]) rfl rfl rfl ?_
  refine r_extract (vs := #[slv 4 0 ((putI x).1.length) ((putI x).1.length), .int .i64 (((putI x).2))]) (v := slv 4 0 ((putI x).1.length) ((putI x).1.length)) rfl rfl rfl rfl ?_
  refine r_extract (vs := #[slv 4 0 ((putI x).1.length) ((putI x).1.length), .int .i64 (((putI x).2))]) (v := .int .i64 (((putI x).2))) rfl rfl rfl rfl ?_
  refine r_assign (v := slv 4 0 ((putI x).1.length) ((putI x).1.length)) rfl rfl rfl ?_
  refine r_assign (v := .int .i64 (((putI x).2))) rfl rfl rfl ?_
  refine r_doneN (x_then (c_seq (c_reg ?_)))
  refine r_load (p := pt 1 0) (v := itemV y) rfl rfl rfl (by kernel_rfl) ?_
  have hpl16 := putI_len y
  refine r_callN (e := []) (nid := 5) (PutItem_ok (G := G) y) (vals := [itemV y]) (v := .tuple #[slv 5 0 ((putI y).1.length) ((putI y).1.length), .int .i64 (((putI y).2))]) (H' := [bxB 110 (itemC x), bxB 110 (itemC y), bxB 36 (claimC c), bxB 36 (claimC d), rowB ((putI x).1), rowB ((putI y).1), hole, hole]) rfl rfl rfl rfl rfl rfl rfl ⟨⟨rfl, trivial⟩, trivial, rfl, rfl, rfl⟩ (by kernel_rfl) (by kernel_rfl) ?_
  refine r_move (v := .tuple #[slv 5 0 ((putI y).1.length) ((putI y).1.length), .int .i64 (((putI y).2))]) rfl rfl rfl ?_
  refine r_extract (vs := #[slv 5 0 ((putI y).1.length) ((putI y).1.length), .int .i64 (((putI y).2))]) (v := slv 5 0 ((putI y).1.length) ((putI y).1.length)) rfl rfl rfl rfl ?_
  refine r_extract (vs := #[slv 5 0 ((putI y).1.length) ((putI y).1.length), .int .i64 (((putI y).2))]) (v := .int .i64 (((putI y).2))) rfl rfl rfl rfl ?_
  refine r_assign (v := slv 5 0 ((putI y).1.length) ((putI y).1.length)) rfl rfl rfl ?_
  refine r_assign (v := .int .i64 (((putI y).2))) rfl rfl rfl ?_
  refine r_doneN (x_then (c_seq (c_reg ?_)))
  refine r_load (p := pt 2 0) (v := claimV c) rfl rfl rfl (by kernel_rfl) ?_
  have hpl17 := putC_len c
  refine r_callN (e := []) (nid := 6) (PutClaim_ok (G := G) c) (vals := [claimV c]) (v := .tuple #[slv 6 0 ((putC c).1.length) ((putC c).1.length), .int .i64 (((putC c).2))]) (H' := [bxB 110 (itemC x), bxB 110 (itemC y), bxB 36 (claimC c), bxB 36 (claimC d), rowB ((putI x).1), rowB ((putI y).1), rowB ((putC c).1), hole]) rfl rfl rfl rfl rfl rfl rfl ⟨⟨rfl, trivial⟩, trivial, rfl, rfl, rfl⟩ (by kernel_rfl) (by kernel_rfl) ?_
  refine r_move (v := .tuple #[slv 6 0 ((putC c).1.length) ((putC c).1.length), .int .i64 (((putC c).2))]) rfl rfl rfl ?_
  refine r_extract (vs := #[slv 6 0 ((putC c).1.length) ((putC c).1.length), .int .i64 (((putC c).2))]) (v := slv 6 0 ((putC c).1.length) ((putC c).1.length)) rfl rfl rfl rfl ?_
  refine r_extract (vs := #[slv 6 0 ((putC c).1.length) ((putC c).1.length), .int .i64 (((putC c).2))]) (v := .int .i64 (((putC c).2))) rfl rfl rfl rfl ?_
  refine r_assign (v := slv 6 0 ((putC c).1.length) ((putC c).1.length)) rfl rfl rfl ?_
  refine r_assign (v := .int .i64 (((putC c).2))) rfl rfl rfl ?_
  refine r_doneN (x_then (c_seq (c_reg ?_)))
  refine r_load (p := pt 3 0) (v := claimV d) rfl rfl rfl (by kernel_rfl) ?_
  have hpl18 := putC_len d
  refine r_callN (e := []) (nid := 7) (PutClaim_ok (G := G) d) (vals := [claimV d]) (v := .tuple #[slv 7 0 ((putC d).1.length) ((putC d).1.length), .int .i64 (((putC d).2))]) (H' := [bxB 110 (itemC x), bxB 110 (itemC y), bxB 36 (claimC c), bxB 36 (claimC d), rowB ((putI x).1), rowB ((putI y).1), rowB ((putC c).1), rowB ((putC d).1)]) rfl rfl rfl rfl rfl rfl rfl ⟨⟨rfl, trivial⟩, trivial, rfl, rfl, rfl⟩ (by kernel_rfl) (by kernel_rfl) ?_
  refine r_move (v := .tuple #[slv 7 0 ((putC d).1.length) ((putC d).1.length), .int .i64 (((putC d).2))]) rfl rfl rfl ?_
  refine r_extract (vs := #[slv 7 0 ((putC d).1.length) ((putC d).1.length), .int .i64 (((putC d).2))]) (v := slv 7 0 ((putC d).1.length) ((putC d).1.length)) rfl rfl rfl rfl ?_
  refine r_extract (vs := #[slv 7 0 ((putC d).1.length) ((putC d).1.length), .int .i64 (((putC d).2))]) (v := .int .i64 (((putC d).2))) rfl rfl rfl rfl ?_
  refine r_assign (v := slv 7 0 ((putC d).1.length) ((putC d).1.length)) rfl rfl rfl ?_
  refine r_assign (v := .int .i64 (((putC d).2))) rfl rfl rfl ?_
  refine r_doneN (x_then (c_seq (c_seq ?_)))
  refine c_draw (by kernel_rfl) ?_
  refine r_move (v := .int .i64 (((putI x).2))) rfl rfl rfl ?_
  by_cases h3 : (((putI x).2)) = 0
  refine r_bin (v := .bool true) (vx := .int .i64 (((putI x).2))) (vy := .int .i64 0) rfl rfl rfl rfl (eql_t (by omega)) ?_
  refine r_move (v := .bool true) rfl rfl rfl ?_
  refine r_move (v := .int .i64 (((putI y).2))) rfl rfl rfl ?_
  by_cases h4 : (((putI y).2)) = 0
  refine r_bin (v := .bool true) (vx := .int .i64 (((putI y).2))) (vy := .int .i64 0) rfl rfl rfl rfl (eql_t (by omega)) ?_
  refine r_pick (v := .bool true) rfl rfl rfl ?_
  refine r_move (v := .bool true) rfl rfl rfl ?_
  refine r_move (v := slv 4 0 ((putI x).1.length) ((putI x).1.length)) rfl rfl rfl ?_
  refine r_str (p := slv 4 0 ((putI x).1.length) ((putI x).1.length)) (v := .string (strOf ((putI x).1))) rfl rfl rfl (str_whole rfl rfl rfl rfl rfl (by omega)) ?_
  refine r_move (v := slv 5 0 ((putI y).1.length) ((putI y).1.length)) rfl rfl rfl ?_
  refine r_str (p := slv 5 0 ((putI y).1.length) ((putI y).1.length)) (v := .string (strOf ((putI y).1))) rfl rfl rfl (str_whole rfl rfl rfl rfl rfl (by omega)) ?_
  rcases Bool.eq_false_or_eq_true (sameT (strOf ((putI x).1)) (strOf ((putI y).1))) with h5 | h5
  refine r_bin (v := .bool true) (vx := .string (strOf ((putI x).1))) (vy := .string (strOf ((putI y).1))) rfl rfl rfl rfl (Eq.trans (eql_str _ _) (by rw [h5] <;> rfl)) ?_
  refine r_load (p := pt 0 0) (v := itemV x) rfl rfl rfl (by kernel_rfl) ?_
  refine r_load (p := pt 1 0) (v := itemV y) rfl rfl rfl (by kernel_rfl) ?_
  rcases Bool.eq_false_or_eq_true (eqItem x y) with h6 | h6
  refine r_bin (v := .bool true) (vx := itemV x) (vy := itemV y) rfl rfl rfl rfl (Eq.trans (eql_Item x y) (by rw [h6] <;> rfl)) ?_
  refine r_bin (v := .bool false) (vx := .bool true) (vy := .bool true) rfl rfl rfl rfl (neqB' rfl rfl rfl) ?_
  refine r_pick (v := .bool false) rfl rfl rfl ?_
  refine r_doneD (drawnT_ok [[], [0], [0, 1], [0, 1, 2], [0, 1, 2, 3], [0, 1, 2, 3, 4], [0, 1, 2, 3, 4, 5], [0, 1, 2, 3, 4, 5, 6], [0, 1, 2, 3, 4, 5, 6, 7], [0, 1, 2, 3, 4, 5, 6], [0, 1, 2, 3, 4, 5, 6, 9], [0, 1, 2, 3, 4, 5, 6, 7, 8, 9, 10], [0, 1, 2, 3, 4, 5, 6], [0, 1, 2, 3, 4, 5, 6], [0, 1, 2, 3, 4, 5, 6, 12, 13], [0, 1, 2, 3, 4, 5, 6, 7, 8, 9, 10, 11, 12, 13, 14], [0, 1, 2, 3, 4, 5, 6, 7, 8, 9, 10, 11, 12, 13, 14, 15]] (by kernel_rfl) (by kernel_rfl)) ?_
  refine x_then (c_false rfl (c_skip (x_then (c_seq ?_))))
  refine c_draw (by kernel_rfl) ?_
  refine r_callP (claims_ok (G := G)) (vals := []) (res' := .bool true) rfl rfl rfl rfl rfl rfl ?_
  refine r_move (v := .bool true) rfl rfl rfl ?_
  refine r_callP (items_ok (G := G) kk hG) (vals := []) (res' := .bool true) rfl rfl rfl rfl rfl rfl ?_
  refine r_pick (v := .bool true) rfl rfl rfl ?_
  refine r_move (v := .bool true) rfl rfl rfl ?_
  refine r_move (v := .int .i64 (((putC c).2))) rfl rfl rfl ?_
  by_cases h7 : (((putC c).2)) ≠ 0
  refine r_bin (v := .bool true) (vx := .int .i64 (((putC c).2))) (vy := .int .i64 0) rfl rfl rfl rfl (neq_t (by omega)) ?_
  refine r_move (v := .bool true) rfl rfl rfl ?_
  refine r_skip rfl rfl (r_skip rfl rfl ?_)
  refine r_pick (v := .bool true) rfl rfl rfl ?_
  refine r_move (v := .bool true) rfl rfl rfl ?_
  refine r_skip rfl rfl (r_skip rfl rfl (r_skip rfl rfl (r_skip rfl rfl (r_skip rfl rfl (r_skip rfl rfl (r_skip rfl rfl (r_skip rfl rfl (r_skip rfl rfl ?_))))))))
  refine r_pick (v := .bool true) rfl rfl rfl ?_
  refine r_pick (v := .bool true) rfl rfl rfl ?_
  refine r_assign (v := .bool true) rfl rfl rfl ?_
  refine r_doneD (drawnT_ok [[], [0], [0, 1], [0, 1, 2], [0, 1, 2, 3], [0, 1, 2, 3, 4], [0, 1, 2, 3, 4, 5], [0, 1, 2, 3, 4, 5, 6], [0, 1, 2, 3, 4, 5, 6, 7], [0, 1, 2, 3, 4, 5, 6, 7, 8], [0, 1, 2, 3, 4, 5, 6, 7, 8, 9], [0, 1, 2, 3, 4, 5, 6, 7, 8, 9, 10], [0, 1, 2, 3, 4, 5, 6, 7, 8, 9, 10, 11], [0, 1, 2, 3, 4, 5, 6, 7, 8, 9, 10, 11, 12], [0, 1, 2, 3, 4, 5, 6, 7, 8, 9, 10, 11], [0, 1, 2, 3, 4, 5, 6, 7, 8, 9, 10, 11, 14], [0, 1, 2, 3, 4, 5, 6, 7, 8, 9, 10, 11, 12, 13, 14, 15], [0, 1, 2, 3, 4, 5, 6, 7, 8, 9, 10, 11], [0, 1, 2, 3, 4, 5, 6, 7, 8, 9, 10, 11], [0, 1, 2, 3, 4, 5, 6, 7, 8, 9, 10, 11, 17, 18], [0, 1, 2, 3, 4, 5, 6, 7, 8, 9, 10, 11, 12, 13, 14, 15, 16, 17, 18, 19], [0, 1, 2, 3, 4, 5, 6, 7, 8, 9, 10, 11, 12, 13, 14, 15, 16, 17, 18, 19, 20], [0, 1, 2, 3, 4, 5, 6, 7, 8, 9, 10, 11, 12, 13, 14, 15, 16, 17, 18, 19, 20, 21], [0, 1, 2, 3, 4, 5, 6, 7, 8, 9, 10, 11, 12, 13, 14, 15, 16, 17, 18, 19, 20, 21, 22]] (by kernel_rfl) (by kernel_rfl)) ?_
  refine x_then (c_ret (x_end ?_))
  exact end_pv (v := .bool true) rfl rfl rfl
  refine r_bin (v := .bool false) (vx := .int .i64 (((putC c).2))) (vy := .int .i64 0) rfl rfl rfl rfl (neq_f (by omega)) ?_
  refine r_move (v := .bool false) rfl rfl rfl ?_
  refine r_move (v := .int .i64 (((putC d).2))) rfl rfl rfl ?_
  by_cases h8 : (((putC d).2)) ≠ 0
  refine r_bin (v := .bool true) (vx := .int .i64 (((putC d).2))) (vy := .int .i64 0) rfl rfl rfl rfl (neq_t (by omega)) ?_
  refine r_pick (v := .bool true) rfl rfl rfl ?_
  refine r_move (v := .bool true) rfl rfl rfl ?_
  refine r_skip rfl rfl (r_skip rfl rfl (r_skip rfl rfl (r_skip rfl rfl (r_skip rfl rfl (r_skip rfl rfl (r_skip rfl rfl (r_skip rfl rfl (r_skip rfl rfl ?_))))))))
  refine r_pick (v := .bool true) rfl rfl rfl ?_
  refine r_pick (v := .bool true) rfl rfl rfl ?_
  refine r_assign (v := .bool true) rfl rfl rfl ?_
  refine r_doneD (drawnT_ok [[], [0], [0, 1], [0, 1, 2], [0, 1, 2, 3], [0, 1, 2, 3, 4], [0, 1, 2, 3, 4, 5], [0, 1, 2, 3, 4, 5, 6], [0, 1, 2, 3, 4, 5, 6, 7], [0, 1, 2, 3, 4, 5, 6, 7, 8], [0, 1, 2, 3, 4, 5, 6, 7, 8, 9], [0, 1, 2, 3, 4, 5, 6, 7, 8, 9, 10], [0, 1, 2, 3, 4, 5, 6, 7, 8, 9, 10, 11], [0, 1, 2, 3, 4, 5, 6, 7, 8, 9, 10, 11, 12], [0, 1, 2, 3, 4, 5, 6, 7, 8, 9, 10, 11], [0, 1, 2, 3, 4, 5, 6, 7, 8, 9, 10, 11, 14], [0, 1, 2, 3, 4, 5, 6, 7, 8, 9, 10, 11, 12, 13, 14, 15], [0, 1, 2, 3, 4, 5, 6, 7, 8, 9, 10, 11], [0, 1, 2, 3, 4, 5, 6, 7, 8, 9, 10, 11], [0, 1, 2, 3, 4, 5, 6, 7, 8, 9, 10, 11, 17, 18], [0, 1, 2, 3, 4, 5, 6, 7, 8, 9, 10, 11, 12, 13, 14, 15, 16, 17, 18, 19], [0, 1, 2, 3, 4, 5, 6, 7, 8, 9, 10, 11, 12, 13, 14, 15, 16, 17, 18, 19, 20], [0, 1, 2, 3, 4, 5, 6, 7, 8, 9, 10, 11, 12, 13, 14, 15, 16, 17, 18, 19, 20, 21], [0, 1, 2, 3, 4, 5, 6, 7, 8, 9, 10, 11, 12, 13, 14, 15, 16, 17, 18, 19, 20, 21, 22]] (by kernel_rfl) (by kernel_rfl)) ?_
  refine x_then (c_ret (x_end ?_))
  exact end_pv (v := .bool true) rfl rfl rfl
  refine r_bin (v := .bool false) (vx := .int .i64 (((putC d).2))) (vy := .int .i64 0) rfl rfl rfl rfl (neq_f (by omega)) ?_
  refine r_pick (v := .bool false) rfl rfl rfl ?_
  refine r_move (v := .bool false) rfl rfl rfl ?_
  refine r_move (v := slv 6 0 ((putC c).1.length) ((putC c).1.length)) rfl rfl rfl ?_
  refine r_str (p := slv 6 0 ((putC c).1.length) ((putC c).1.length)) (v := .string (strOf ((putC c).1))) rfl rfl rfl (str_whole rfl rfl rfl rfl rfl (by omega)) ?_
  refine r_move (v := slv 7 0 ((putC d).1.length) ((putC d).1.length)) rfl rfl rfl ?_
  refine r_str (p := slv 7 0 ((putC d).1.length) ((putC d).1.length)) (v := .string (strOf ((putC d).1))) rfl rfl rfl (str_whole rfl rfl rfl rfl rfl (by omega)) ?_
  rcases Bool.eq_false_or_eq_true (sameT (strOf ((putC c).1)) (strOf ((putC d).1))) with h9 | h9
  refine r_bin (v := .bool true) (vx := .string (strOf ((putC c).1))) (vy := .string (strOf ((putC d).1))) rfl rfl rfl rfl (Eq.trans (eql_str _ _) (by rw [h9] <;> rfl)) ?_
  refine r_load (p := pt 2 0) (v := claimV c) rfl rfl rfl (by kernel_rfl) ?_
  refine r_load (p := pt 3 0) (v := claimV d) rfl rfl rfl (by kernel_rfl) ?_
  rcases Bool.eq_false_or_eq_true (eqClaim c d) with h10 | h10
  refine r_bin (v := .bool true) (vx := claimV c) (vy := claimV d) rfl rfl rfl rfl (Eq.trans (eql_Claim c d) (by rw [h10] <;> rfl)) ?_
  refine r_bin (v := .bool true) (vx := .bool true) (vy := .bool true) rfl rfl rfl rfl (eqlB' rfl rfl rfl) ?_
  refine r_pick (v := .bool true) rfl rfl rfl ?_
  refine r_pick (v := .bool true) rfl rfl rfl ?_
  refine r_assign (v := .bool true) rfl rfl rfl ?_
  refine r_doneD (drawnT_ok [[], [0], [0, 1], [0, 1, 2], [0, 1, 2, 3], [0, 1, 2, 3, 4], [0, 1, 2, 3, 4, 5], [0, 1, 2, 3, 4, 5, 6], [0, 1, 2, 3, 4, 5, 6, 7], [0, 1, 2, 3, 4, 5, 6, 7, 8], [0, 1, 2, 3, 4, 5, 6, 7, 8, 9], [0, 1, 2, 3, 4, 5, 6, 7, 8, 9, 10], [0, 1, 2, 3, 4, 5, 6, 7, 8, 9, 10, 11], [0, 1, 2, 3, 4, 5, 6, 7, 8, 9, 10, 11, 12], [0, 1, 2, 3, 4, 5, 6, 7, 8, 9, 10, 11], [0, 1, 2, 3, 4, 5, 6, 7, 8, 9, 10, 11, 14], [0, 1, 2, 3, 4, 5, 6, 7, 8, 9, 10, 11, 12, 13, 14, 15], [0, 1, 2, 3, 4, 5, 6, 7, 8, 9, 10, 11], [0, 1, 2, 3, 4, 5, 6, 7, 8, 9, 10, 11], [0, 1, 2, 3, 4, 5, 6, 7, 8, 9, 10, 11, 17, 18], [0, 1, 2, 3, 4, 5, 6, 7, 8, 9, 10, 11, 12, 13, 14, 15, 16, 17, 18, 19], [0, 1, 2, 3, 4, 5, 6, 7, 8, 9, 10, 11, 12, 13, 14, 15, 16, 17, 18, 19, 20], [0, 1, 2, 3, 4, 5, 6, 7, 8, 9, 10, 11, 12, 13, 14, 15, 16, 17, 18, 19, 20, 21], [0, 1, 2, 3, 4, 5, 6, 7, 8, 9, 10, 11, 12, 13, 14, 15, 16, 17, 18, 19, 20, 21, 22]] (by kernel_rfl) (by kernel_rfl)) ?_
  refine x_then (c_ret (x_end ?_))
  exact end_pv (v := .bool true) rfl rfl rfl
  refine r_bin (v := .bool false) (vx := claimV c) (vy := claimV d) rfl rfl rfl rfl (Eq.trans (eql_Claim c d) (by rw [h10] <;> rfl)) ?_
  refine r_bin (v := .bool false) (vx := .bool true) (vy := .bool false) rfl rfl rfl rfl (eqlB' rfl rfl rfl) ?_
  refine r_pick (v := .bool false) rfl rfl rfl ?_
  refine r_pick (v := .bool false) rfl rfl rfl ?_
  refine r_assign (v := .bool false) rfl rfl rfl ?_
  refine r_doneD (drawnT_ok [[], [0], [0, 1], [0, 1, 2], [0, 1, 2, 3], [0, 1, 2, 3, 4], [0, 1, 2, 3, 4, 5], [0, 1, 2, 3, 4, 5, 6], [0, 1, 2, 3, 4, 5, 6, 7], [0, 1, 2, 3, 4, 5, 6, 7, 8], [0, 1, 2, 3, 4, 5, 6, 7, 8, 9], [0, 1, 2, 3, 4, 5, 6, 7, 8, 9, 10], [0, 1, 2, 3, 4, 5, 6, 7, 8, 9, 10, 11], [0, 1, 2, 3, 4, 5, 6, 7, 8, 9, 10, 11, 12], [0, 1, 2, 3, 4, 5, 6, 7, 8, 9, 10, 11], [0, 1, 2, 3, 4, 5, 6, 7, 8, 9, 10, 11, 14], [0, 1, 2, 3, 4, 5, 6, 7, 8, 9, 10, 11, 12, 13, 14, 15], [0, 1, 2, 3, 4, 5, 6, 7, 8, 9, 10, 11], [0, 1, 2, 3, 4, 5, 6, 7, 8, 9, 10, 11], [0, 1, 2, 3, 4, 5, 6, 7, 8, 9, 10, 11, 17, 18], [0, 1, 2, 3, 4, 5, 6, 7, 8, 9, 10, 11, 12, 13, 14, 15, 16, 17, 18, 19], [0, 1, 2, 3, 4, 5, 6, 7, 8, 9, 10, 11, 12, 13, 14, 15, 16, 17, 18, 19, 20], [0, 1, 2, 3, 4, 5, 6, 7, 8, 9, 10, 11, 12, 13, 14, 15, 16, 17, 18, 19, 20, 21], [0, 1, 2, 3, 4, 5, 6, 7, 8, 9, 10, 11, 12, 13, 14, 15, 16, 17, 18, 19, 20, 21, 22]] (by kernel_rfl) (by kernel_rfl)) ?_
  refine x_then (c_ret (x_end ?_))
  exfalso
  · first | (have i1 := apartI (x := x) (y := y) (by omega) (by omega); simp_all; done) | (have i2 := apartC (a := c) (b := d) (by omega) (by omega); simp_all; done)
  refine r_bin (v := .bool false) (vx := .string (strOf ((putC c).1))) (vy := .string (strOf ((putC d).1))) rfl rfl rfl rfl (Eq.trans (eql_str _ _) (by rw [h9] <;> rfl)) ?_
  refine r_load (p := pt 2 0) (v := claimV c) rfl rfl rfl (by kernel_rfl) ?_
  refine r_load (p := pt 3 0) (v := claimV d) rfl rfl rfl (by kernel_rfl) ?_
  rcases Bool.eq_false_or_eq_true (eqClaim c d) with h11 | h11
  refine r_bin (v := .bool true) (vx := claimV c) (vy := claimV d) rfl rfl rfl rfl (Eq.trans (eql_Claim c d) (by rw [h11] <;> rfl)) ?_
  refine r_bin (v := .bool false) (vx := .bool false) (vy := .bool true) rfl rfl rfl rfl (eqlB' rfl rfl rfl) ?_
  refine r_pick (v := .bool false) rfl rfl rfl ?_
  refine r_pick (v := .bool false) rfl rfl rfl ?_
  refine r_assign (v := .bool false) rfl rfl rfl ?_
  refine r_doneD (drawnT_ok [[], [0], [0, 1], [0, 1, 2], [0, 1, 2, 3], [0, 1, 2, 3, 4], [0, 1, 2, 3, 4, 5], [0, 1, 2, 3, 4, 5, 6], [0, 1, 2, 3, 4, 5, 6, 7], [0, 1, 2, 3, 4, 5, 6, 7, 8], [0, 1, 2, 3, 4, 5, 6, 7, 8, 9], [0, 1, 2, 3, 4, 5, 6, 7, 8, 9, 10], [0, 1, 2, 3, 4, 5, 6, 7, 8, 9, 10, 11], [0, 1, 2, 3, 4, 5, 6, 7, 8, 9, 10, 11, 12], [0, 1, 2, 3, 4, 5, 6, 7, 8, 9, 10, 11], [0, 1, 2, 3, 4, 5, 6, 7, 8, 9, 10, 11, 14], [0, 1, 2, 3, 4, 5, 6, 7, 8, 9, 10, 11, 12, 13, 14, 15], [0, 1, 2, 3, 4, 5, 6, 7, 8, 9, 10, 11], [0, 1, 2, 3, 4, 5, 6, 7, 8, 9, 10, 11], [0, 1, 2, 3, 4, 5, 6, 7, 8, 9, 10, 11, 17, 18], [0, 1, 2, 3, 4, 5, 6, 7, 8, 9, 10, 11, 12, 13, 14, 15, 16, 17, 18, 19], [0, 1, 2, 3, 4, 5, 6, 7, 8, 9, 10, 11, 12, 13, 14, 15, 16, 17, 18, 19, 20], [0, 1, 2, 3, 4, 5, 6, 7, 8, 9, 10, 11, 12, 13, 14, 15, 16, 17, 18, 19, 20, 21], [0, 1, 2, 3, 4, 5, 6, 7, 8, 9, 10, 11, 12, 13, 14, 15, 16, 17, 18, 19, 20, 21, 22]] (by kernel_rfl) (by kernel_rfl)) ?_
  refine x_then (c_ret (x_end ?_))
  exfalso
  · first | (have i1 := apartI (x := x) (y := y) (by omega) (by omega); simp_all; done) | (have i2 := apartC (a := c) (b := d) (by omega) (by omega); simp_all; done)
  refine r_bin (v := .bool false) (vx := claimV c) (vy := claimV d) rfl rfl rfl rfl (Eq.trans (eql_Claim c d) (by rw [h11] <;> rfl)) ?_
  refine r_bin (v := .bool true) (vx := .bool false) (vy := .bool false) rfl rfl rfl rfl (eqlB' rfl rfl rfl) ?_
  refine r_pick (v := .bool true) rfl rfl rfl ?_
  refine r_pick (v := .bool true) rfl rfl rfl ?_
  refine r_assign (v := .bool true) rfl rfl rfl ?_
  refine r_doneD (drawnT_ok [[], [0], [0, 1], [0, 1, 2], [0, 1, 2, 3], [0, 1, 2, 3, 4], [0, 1, 2, 3, 4, 5], [0, 1, 2, 3, 4, 5, 6], [0, 1, 2, 3, 4, 5, 6, 7], [0, 1, 2, 3, 4, 5, 6, 7, 8], [0, 1, 2, 3, 4, 5, 6, 7, 8, 9], [0, 1, 2, 3, 4, 5, 6, 7, 8, 9, 10], [0, 1, 2, 3, 4, 5, 6, 7, 8, 9, 10, 11], [0, 1, 2, 3, 4, 5, 6, 7, 8, 9, 10, 11, 12], [0, 1, 2, 3, 4, 5, 6, 7, 8, 9, 10, 11], [0, 1, 2, 3, 4, 5, 6, 7, 8, 9, 10, 11, 14], [0, 1, 2, 3, 4, 5, 6, 7, 8, 9, 10, 11, 12, 13, 14, 15], [0, 1, 2, 3, 4, 5, 6, 7, 8, 9, 10, 11], [0, 1, 2, 3, 4, 5, 6, 7, 8, 9, 10, 11], [0, 1, 2, 3, 4, 5, 6, 7, 8, 9, 10, 11, 17, 18], [0, 1, 2, 3, 4, 5, 6, 7, 8, 9, 10, 11, 12, 13, 14, 15, 16, 17, 18, 19], [0, 1, 2, 3, 4, 5, 6, 7, 8, 9, 10, 11, 12, 13, 14, 15, 16, 17, 18, 19, 20], [0, 1, 2, 3, 4, 5, 6, 7, 8, 9, 10, 11, 12, 13, 14, 15, 16, 17, 18, 19, 20, 21], [0, 1, 2, 3, 4, 5, 6, 7, 8, 9, 10, 11, 12, 13, 14, 15, 16, 17, 18, 19, 20, 21, 22]] (by kernel_rfl) (by kernel_rfl)) ?_
  refine x_then (c_ret (x_end ?_))
  exact end_pv (v := .bool true) rfl rfl rfl
  refine r_bin (v := .bool false) (vx := itemV x) (vy := itemV y) rfl rfl rfl rfl (Eq.trans (eql_Item x y) (by rw [h6] <;> rfl)) ?_
  refine r_bin (v := .bool true) (vx := .bool true) (vy := .bool false) rfl rfl rfl rfl (neqB' rfl rfl rfl) ?_
  refine r_pick (v := .bool true) rfl rfl rfl ?_
  refine r_doneD (drawnT_ok [[], [0], [0, 1], [0, 1, 2], [0, 1, 2, 3], [0, 1, 2, 3, 4], [0, 1, 2, 3, 4, 5], [0, 1, 2, 3, 4, 5, 6], [0, 1, 2, 3, 4, 5, 6, 7], [0, 1, 2, 3, 4, 5, 6], [0, 1, 2, 3, 4, 5, 6, 9], [0, 1, 2, 3, 4, 5, 6, 7, 8, 9, 10], [0, 1, 2, 3, 4, 5, 6], [0, 1, 2, 3, 4, 5, 6], [0, 1, 2, 3, 4, 5, 6, 12, 13], [0, 1, 2, 3, 4, 5, 6, 7, 8, 9, 10, 11, 12, 13, 14], [0, 1, 2, 3, 4, 5, 6, 7, 8, 9, 10, 11, 12, 13, 14, 15]] (by kernel_rfl) (by kernel_rfl)) ?_
  refine x_then (c_true rfl (c_seq (c_reg ?_)))
  refine r_assign (v := .bool false) rfl rfl rfl ?_
  refine r_doneN (x_then (c_ret (x_thenR (x_end ?_))))
  exfalso
  · first | (have i1 := apartI (x := x) (y := y) (by omega) (by omega); simp_all; done) | (have i2 := apartC (a := c) (b := d) (by omega) (by omega); simp_all; done)
  refine r_bin (v := .bool false) (vx := .string (strOf ((putI x).1))) (vy := .string (strOf ((putI y).1))) rfl rfl rfl rfl (Eq.trans (eql_str _ _) (by rw [h5] <;> rfl)) ?_
  refine r_load (p := pt 0 0) (v := itemV x) rfl rfl rfl (by kernel_rfl) ?_
  refine r_load (p := pt 1 0) (v := itemV y) rfl rfl rfl (by kernel_rfl) ?_
  rcases Bool.eq_false_or_eq_true (eqItem x y) with h12 | h12
  refine r_bin (v := .bool true) (vx := itemV x) (vy := itemV y) rfl rfl rfl rfl (Eq.trans (eql_Item x y) (by rw [h12] <;> rfl)) ?_
  refine r_bin (v := .bool true) (vx := .bool false) (vy := .bool true) rfl rfl rfl rfl (neqB' rfl rfl rfl) ?_
  refine r_pick (v := .bool true) rfl rfl rfl ?_
  refine r_doneD (drawnT_ok [[], [0], [0, 1], [0, 1, 2], [0, 1, 2, 3], [0, 1, 2, 3, 4], [0, 1, 2, 3, 4, 5], [0, 1, 2, 3, 4, 5, 6], [0, 1, 2, 3, 4, 5, 6, 7], [0, 1, 2, 3, 4, 5, 6], [0, 1, 2, 3, 4, 5, 6, 9], [0, 1, 2, 3, 4, 5, 6, 7, 8, 9, 10], [0, 1, 2, 3, 4, 5, 6], [0, 1, 2, 3, 4, 5, 6], [0, 1, 2, 3, 4, 5, 6, 12, 13], [0, 1, 2, 3, 4, 5, 6, 7, 8, 9, 10, 11, 12, 13, 14], [0, 1, 2, 3, 4, 5, 6, 7, 8, 9, 10, 11, 12, 13, 14, 15]] (by kernel_rfl) (by kernel_rfl)) ?_
  refine x_then (c_true rfl (c_seq (c_reg ?_)))
  refine r_assign (v := .bool false) rfl rfl rfl ?_
  refine r_doneN (x_then (c_ret (x_thenR (x_end ?_))))
  exfalso
  · first | (have i1 := apartI (x := x) (y := y) (by omega) (by omega); simp_all; done) | (have i2 := apartC (a := c) (b := d) (by omega) (by omega); simp_all; done)
  refine r_bin (v := .bool false) (vx := itemV x) (vy := itemV y) rfl rfl rfl rfl (Eq.trans (eql_Item x y) (by rw [h12] <;> rfl)) ?_
  refine r_bin (v := .bool false) (vx := .bool false) (vy := .bool false) rfl rfl rfl rfl (neqB' rfl rfl rfl) ?_
  refine r_pick (v := .bool false) rfl rfl rfl ?_
  refine r_doneD (drawnT_ok [[], [0], [0, 1], [0, 1, 2], [0, 1, 2, 3], [0, 1, 2, 3, 4], [0, 1, 2, 3, 4, 5], [0, 1, 2, 3, 4, 5, 6], [0, 1, 2, 3, 4, 5, 6, 7], [0, 1, 2, 3, 4, 5, 6], [0, 1, 2, 3, 4, 5, 6, 9], [0, 1, 2, 3, 4, 5, 6, 7, 8, 9, 10], [0, 1, 2, 3, 4, 5, 6], [0, 1, 2, 3, 4, 5, 6], [0, 1, 2, 3, 4, 5, 6, 12, 13], [0, 1, 2, 3, 4, 5, 6, 7, 8, 9, 10, 11, 12, 13, 14], [0, 1, 2, 3, 4, 5, 6, 7, 8, 9, 10, 11, 12, 13, 14, 15]] (by kernel_rfl) (by kernel_rfl)) ?_
  refine x_then (c_false rfl (c_skip (x_then (c_seq ?_))))
  refine c_draw (by kernel_rfl) ?_
  refine r_callP (claims_ok (G := G)) (vals := []) (res' := .bool true) rfl rfl rfl rfl rfl rfl ?_
  refine r_move (v := .bool true) rfl rfl rfl ?_
  refine r_callP (items_ok (G := G) kk hG) (vals := []) (res' := .bool true) rfl rfl rfl rfl rfl rfl ?_
  refine r_pick (v := .bool true) rfl rfl rfl ?_
  refine r_move (v := .bool true) rfl rfl rfl ?_
  refine r_move (v := .int .i64 (((putC c).2))) rfl rfl rfl ?_
  by_cases h13 : (((putC c).2)) ≠ 0
  refine r_bin (v := .bool true) (vx := .int .i64 (((putC c).2))) (vy := .int .i64 0) rfl rfl rfl rfl (neq_t (by omega)) ?_
  refine r_move (v := .bool true) rfl rfl rfl ?_
  refine r_skip rfl rfl (r_skip rfl rfl ?_)
  refine r_pick (v := .bool true) rfl rfl rfl ?_
  refine r_move (v := .bool true) rfl rfl rfl ?_
  refine r_skip rfl rfl (r_skip rfl rfl (r_skip rfl rfl (r_skip rfl rfl (r_skip rfl rfl (r_skip rfl rfl (r_skip rfl rfl (r_skip rfl rfl (r_skip rfl rfl ?_))))))))
  refine r_pick (v := .bool true) rfl rfl rfl ?_
  refine r_pick (v := .bool true) rfl rfl rfl ?_
  refine r_assign (v := .bool true) rfl rfl rfl ?_
  refine r_doneD (drawnT_ok [[], [0], [0, 1], [0, 1, 2], [0, 1, 2, 3], [0, 1, 2, 3, 4], [0, 1, 2, 3, 4, 5], [0, 1, 2, 3, 4, 5, 6], [0, 1, 2, 3, 4, 5, 6, 7], [0, 1, 2, 3, 4, 5, 6, 7, 8], [0, 1, 2, 3, 4, 5, 6, 7, 8, 9], [0, 1, 2, 3, 4, 5, 6, 7, 8, 9, 10], [0, 1, 2, 3, 4, 5, 6, 7, 8, 9, 10, 11], [0, 1, 2, 3, 4, 5, 6, 7, 8, 9, 10, 11, 12], [0, 1, 2, 3, 4, 5, 6, 7, 8, 9, 10, 11], [0, 1, 2, 3, 4, 5, 6, 7, 8, 9, 10, 11, 14], [0, 1, 2, 3, 4, 5, 6, 7, 8, 9, 10, 11, 12, 13, 14, 15], [0, 1, 2, 3, 4, 5, 6, 7, 8, 9, 10, 11], [0, 1, 2, 3, 4, 5, 6, 7, 8, 9, 10, 11], [0, 1, 2, 3, 4, 5, 6, 7, 8, 9, 10, 11, 17, 18], [0, 1, 2, 3, 4, 5, 6, 7, 8, 9, 10, 11, 12, 13, 14, 15, 16, 17, 18, 19], [0, 1, 2, 3, 4, 5, 6, 7, 8, 9, 10, 11, 12, 13, 14, 15, 16, 17, 18, 19, 20], [0, 1, 2, 3, 4, 5, 6, 7, 8, 9, 10, 11, 12, 13, 14, 15, 16, 17, 18, 19, 20, 21], [0, 1, 2, 3, 4, 5, 6, 7, 8, 9, 10, 11, 12, 13, 14, 15, 16, 17, 18, 19, 20, 21, 22]] (by kernel_rfl) (by kernel_rfl)) ?_
  refine x_then (c_ret (x_end ?_))
  exact end_pv (v := .bool true) rfl rfl rfl
  refine r_bin (v := .bool false) (vx := .int .i64 (((putC c).2))) (vy := .int .i64 0) rfl rfl rfl rfl (neq_f (by omega)) ?_
  refine r_move (v := .bool false) rfl rfl rfl ?_
  refine r_move (v := .int .i64 (((putC d).2))) rfl rfl rfl ?_
  by_cases h14 : (((putC d).2)) ≠ 0
  refine r_bin (v := .bool true) (vx := .int .i64 (((putC d).2))) (vy := .int .i64 0) rfl rfl rfl rfl (neq_t (by omega)) ?_
  refine r_pick (v := .bool true) rfl rfl rfl ?_
  refine r_move (v := .bool true) rfl rfl rfl ?_
  refine r_skip rfl rfl (r_skip rfl rfl (r_skip rfl rfl (r_skip rfl rfl (r_skip rfl rfl (r_skip rfl rfl (r_skip rfl rfl (r_skip rfl rfl (r_skip rfl rfl ?_))))))))
  refine r_pick (v := .bool true) rfl rfl rfl ?_
  refine r_pick (v := .bool true) rfl rfl rfl ?_
  refine r_assign (v := .bool true) rfl rfl rfl ?_
  refine r_doneD (drawnT_ok [[], [0], [0, 1], [0, 1, 2], [0, 1, 2, 3], [0, 1, 2, 3, 4], [0, 1, 2, 3, 4, 5], [0, 1, 2, 3, 4, 5, 6], [0, 1, 2, 3, 4, 5, 6, 7], [0, 1, 2, 3, 4, 5, 6, 7, 8], [0, 1, 2, 3, 4, 5, 6, 7, 8, 9], [0, 1, 2, 3, 4, 5, 6, 7, 8, 9, 10], [0, 1, 2, 3, 4, 5, 6, 7, 8, 9, 10, 11], [0, 1, 2, 3, 4, 5, 6, 7, 8, 9, 10, 11, 12], [0, 1, 2, 3, 4, 5, 6, 7, 8, 9, 10, 11], [0, 1, 2, 3, 4, 5, 6, 7, 8, 9, 10, 11, 14], [0, 1, 2, 3, 4, 5, 6, 7, 8, 9, 10, 11, 12, 13, 14, 15], [0, 1, 2, 3, 4, 5, 6, 7, 8, 9, 10, 11], [0, 1, 2, 3, 4, 5, 6, 7, 8, 9, 10, 11], [0, 1, 2, 3, 4, 5, 6, 7, 8, 9, 10, 11, 17, 18], [0, 1, 2, 3, 4, 5, 6, 7, 8, 9, 10, 11, 12, 13, 14, 15, 16, 17, 18, 19], [0, 1, 2, 3, 4, 5, 6, 7, 8, 9, 10, 11, 12, 13, 14, 15, 16, 17, 18, 19, 20], [0, 1, 2, 3, 4, 5, 6, 7, 8, 9, 10, 11, 12, 13, 14, 15, 16, 17, 18, 19, 20, 21], [0, 1, 2, 3, 4, 5, 6, 7, 8, 9, 10, 11, 12, 13, 14, 15, 16, 17, 18, 19, 20, 21, 22]] (by kernel_rfl) (by kernel_rfl)) ?_
  refine x_then (c_ret (x_end ?_))
  exact end_pv (v := .bool true) rfl rfl rfl
  refine r_bin (v := .bool false) (vx := .int .i64 (((putC d).2))) (vy := .int .i64 0) rfl rfl rfl rfl (neq_f (by omega)) ?_
  refine r_pick (v := .bool false) rfl rfl rfl ?_
  refine r_move (v := .bool false) rfl rfl rfl ?_
  refine r_move (v := slv 6 0 ((putC c).1.length) ((putC c).1.length)) rfl rfl rfl ?_
  refine r_str (p := slv 6 0 ((putC c).1.length) ((putC c).1.length)) (v := .string (strOf ((putC c).1))) rfl rfl rfl (str_whole rfl rfl rfl rfl rfl (by omega)) ?_
  refine r_move (v := slv 7 0 ((putC d).1.length) ((putC d).1.length)) rfl rfl rfl ?_
  refine r_str (p := slv 7 0 ((putC d).1.length) ((putC d).1.length)) (v := .string (strOf ((putC d).1))) rfl rfl rfl (str_whole rfl rfl rfl rfl rfl (by omega)) ?_
  rcases Bool.eq_false_or_eq_true (sameT (strOf ((putC c).1)) (strOf ((putC d).1))) with h15 | h15
  refine r_bin (v := .bool true) (vx := .string (strOf ((putC c).1))) (vy := .string (strOf ((putC d).1))) rfl rfl rfl rfl (Eq.trans (eql_str _ _) (by rw [h15] <;> rfl)) ?_
  refine r_load (p := pt 2 0) (v := claimV c) rfl rfl rfl (by kernel_rfl) ?_
  refine r_load (p := pt 3 0) (v := claimV d) rfl rfl rfl (by kernel_rfl) ?_
  rcases Bool.eq_false_or_eq_true (eqClaim c d) with h16 | h16
  refine r_bin (v := .bool true) (vx := claimV c) (vy := claimV d) rfl rfl rfl rfl (Eq.trans (eql_Claim c d) (by rw [h16] <;> rfl)) ?_
  refine r_bin (v := .bool true) (vx := .bool true) (vy := .bool true) rfl rfl rfl rfl (eqlB' rfl rfl rfl) ?_
  refine r_pick (v := .bool true) rfl rfl rfl ?_
  refine r_pick (v := .bool true) rfl rfl rfl ?_
  refine r_assign (v := .bool true) rfl rfl rfl ?_
  refine r_doneD (drawnT_ok [[], [0], [0, 1], [0, 1, 2], [0, 1, 2, 3], [0, 1, 2, 3, 4], [0, 1, 2, 3, 4, 5], [0, 1, 2, 3, 4, 5, 6], [0, 1, 2, 3, 4, 5, 6, 7], [0, 1, 2, 3, 4, 5, 6, 7, 8], [0, 1, 2, 3, 4, 5, 6, 7, 8, 9], [0, 1, 2, 3, 4, 5, 6, 7, 8, 9, 10], [0, 1, 2, 3, 4, 5, 6, 7, 8, 9, 10, 11], [0, 1, 2, 3, 4, 5, 6, 7, 8, 9, 10, 11, 12], [0, 1, 2, 3, 4, 5, 6, 7, 8, 9, 10, 11], [0, 1, 2, 3, 4, 5, 6, 7, 8, 9, 10, 11, 14], [0, 1, 2, 3, 4, 5, 6, 7, 8, 9, 10, 11, 12, 13, 14, 15], [0, 1, 2, 3, 4, 5, 6, 7, 8, 9, 10, 11], [0, 1, 2, 3, 4, 5, 6, 7, 8, 9, 10, 11], [0, 1, 2, 3, 4, 5, 6, 7, 8, 9, 10, 11, 17, 18], [0, 1, 2, 3, 4, 5, 6, 7, 8, 9, 10, 11, 12, 13, 14, 15, 16, 17, 18, 19], [0, 1, 2, 3, 4, 5, 6, 7, 8, 9, 10, 11, 12, 13, 14, 15, 16, 17, 18, 19, 20], [0, 1, 2, 3, 4, 5, 6, 7, 8, 9, 10, 11, 12, 13, 14, 15, 16, 17, 18, 19, 20, 21], [0, 1, 2, 3, 4, 5, 6, 7, 8, 9, 10, 11, 12, 13, 14, 15, 16, 17, 18, 19, 20, 21, 22]] (by kernel_rfl) (by kernel_rfl)) ?_
  refine x_then (c_ret (x_end ?_))
  exact end_pv (v := .bool true) rfl rfl rfl
  refine r_bin (v := .bool false) (vx := claimV c) (vy := claimV d) rfl rfl rfl rfl (Eq.trans (eql_Claim c d) (by rw [h16] <;> rfl)) ?_
  refine r_bin (v := .bool false) (vx := .bool true) (vy := .bool false) rfl rfl rfl rfl (eqlB' rfl rfl rfl) ?_
  refine r_pick (v := .bool false) rfl rfl rfl ?_
  refine r_pick (v := .bool false) rfl rfl rfl ?_
  refine r_assign (v := .bool false) rfl rfl rfl ?_
  refine r_doneD (drawnT_ok [[], [0], [0, 1], [0, 1, 2], [0, 1, 2, 3], [0, 1, 2, 3, 4], [0, 1, 2, 3, 4, 5], [0, 1, 2, 3, 4, 5, 6], [0, 1, 2, 3, 4, 5, 6, 7], [0, 1, 2, 3, 4, 5, 6, 7, 8], [0, 1, 2, 3, 4, 5, 6, 7, 8, 9], [0, 1, 2, 3, 4, 5, 6, 7, 8, 9, 10], [0, 1, 2, 3, 4, 5, 6, 7, 8, 9, 10, 11], [0, 1, 2, 3, 4, 5, 6, 7, 8, 9, 10, 11, 12], [0, 1, 2, 3, 4, 5, 6, 7, 8, 9, 10, 11], [0, 1, 2, 3, 4, 5, 6, 7, 8, 9, 10, 11, 14], [0, 1, 2, 3, 4, 5, 6, 7, 8, 9, 10, 11, 12, 13, 14, 15], [0, 1, 2, 3, 4, 5, 6, 7, 8, 9, 10, 11], [0, 1, 2, 3, 4, 5, 6, 7, 8, 9, 10, 11], [0, 1, 2, 3, 4, 5, 6, 7, 8, 9, 10, 11, 17, 18], [0, 1, 2, 3, 4, 5, 6, 7, 8, 9, 10, 11, 12, 13, 14, 15, 16, 17, 18, 19], [0, 1, 2, 3, 4, 5, 6, 7, 8, 9, 10, 11, 12, 13, 14, 15, 16, 17, 18, 19, 20], [0, 1, 2, 3, 4, 5, 6, 7, 8, 9, 10, 11, 12, 13, 14, 15, 16, 17, 18, 19, 20, 21], [0, 1, 2, 3, 4, 5, 6, 7, 8, 9, 10, 11, 12, 13, 14, 15, 16, 17, 18, 19, 20, 21, 22]] (by kernel_rfl) (by kernel_rfl)) ?_
  refine x_then (c_ret (x_end ?_))
  exfalso
  · first | (have i1 := apartI (x := x) (y := y) (by omega) (by omega); simp_all; done) | (have i2 := apartC (a := c) (b := d) (by omega) (by omega); simp_all; done)
  refine r_bin (v := .bool false) (vx := .string (strOf ((putC c).1))) (vy := .string (strOf ((putC d).1))) rfl rfl rfl rfl (Eq.trans (eql_str _ _) (by rw [h15] <;> rfl)) ?_
  refine r_load (p := pt 2 0) (v := claimV c) rfl rfl rfl (by kernel_rfl) ?_
  refine r_load (p := pt 3 0) (v := claimV d) rfl rfl rfl (by kernel_rfl) ?_
  rcases Bool.eq_false_or_eq_true (eqClaim c d) with h17 | h17
  refine r_bin (v := .bool true) (vx := claimV c) (vy := claimV d) rfl rfl rfl rfl (Eq.trans (eql_Claim c d) (by rw [h17] <;> rfl)) ?_
  refine r_bin (v := .bool false) (vx := .bool false) (vy := .bool true) rfl rfl rfl rfl (eqlB' rfl rfl rfl) ?_
  refine r_pick (v := .bool false) rfl rfl rfl ?_
  refine r_pick (v := .bool false) rfl rfl rfl ?_
  refine r_assign (v := .bool false) rfl rfl rfl ?_
  refine r_doneD (drawnT_ok [[], [0], [0, 1], [0, 1, 2], [0, 1, 2, 3], [0, 1, 2, 3, 4], [0, 1, 2, 3, 4, 5], [0, 1, 2, 3, 4, 5, 6], [0, 1, 2, 3, 4, 5, 6, 7], [0, 1, 2, 3, 4, 5, 6, 7, 8], [0, 1, 2, 3, 4, 5, 6, 7, 8, 9], [0, 1, 2, 3, 4, 5, 6, 7, 8, 9, 10], [0, 1, 2, 3, 4, 5, 6, 7, 8, 9, 10, 11], [0, 1, 2, 3, 4, 5, 6, 7, 8, 9, 10, 11, 12], [0, 1, 2, 3, 4, 5, 6, 7, 8, 9, 10, 11], [0, 1, 2, 3, 4, 5, 6, 7, 8, 9, 10, 11, 14], [0, 1, 2, 3, 4, 5, 6, 7, 8, 9, 10, 11, 12, 13, 14, 15], [0, 1, 2, 3, 4, 5, 6, 7, 8, 9, 10, 11], [0, 1, 2, 3, 4, 5, 6, 7, 8, 9, 10, 11], [0, 1, 2, 3, 4, 5, 6, 7, 8, 9, 10, 11, 17, 18], [0, 1, 2, 3, 4, 5, 6, 7, 8, 9, 10, 11, 12, 13, 14, 15, 16, 17, 18, 19], [0, 1, 2, 3, 4, 5, 6, 7, 8, 9, 10, 11, 12, 13, 14, 15, 16, 17, 18, 19, 20], [0, 1, 2, 3, 4, 5, 6, 7, 8, 9, 10, 11, 12, 13, 14, 15, 16, 17, 18, 19, 20, 21], [0, 1, 2, 3, 4, 5, 6, 7, 8, 9, 10, 11, 12, 13, 14, 15, 16, 17, 18, 19, 20, 21, 22]] (by kernel_rfl) (by kernel_rfl)) ?_
  refine x_then (c_ret (x_end ?_))
  exfalso
  · first | (have i1 := apartI (x := x) (y := y) (by omega) (by omega); simp_all; done) | (have i2 := apartC (a := c) (b := d) (by omega) (by omega); simp_all; done)
  refine r_bin (v := .bool false) (vx := claimV c) (vy := claimV d) rfl rfl rfl rfl (Eq.trans (eql_Claim c d) (by rw [h17] <;> rfl)) ?_
  refine r_bin (v := .bool true) (vx := .bool false) (vy := .bool false) rfl rfl rfl rfl (eqlB' rfl rfl rfl) ?_
  refine r_pick (v := .bool true) rfl rfl rfl ?_
  refine r_pick (v := .bool true) rfl rfl rfl ?_
  refine r_assign (v := .bool true) rfl rfl rfl ?_
  refine r_doneD (drawnT_ok [[], [0], [0, 1], [0, 1, 2], [0, 1, 2, 3], [0, 1, 2, 3, 4], [0, 1, 2, 3, 4, 5], [0, 1, 2, 3, 4, 5, 6], [0, 1, 2, 3, 4, 5, 6, 7], [0, 1, 2, 3, 4, 5, 6, 7, 8], [0, 1, 2, 3, 4, 5, 6, 7, 8, 9], [0, 1, 2, 3, 4, 5, 6, 7, 8, 9, 10], [0, 1, 2, 3, 4, 5, 6, 7, 8, 9, 10, 11], [0, 1, 2, 3, 4, 5, 6, 7, 8, 9, 10, 11, 12], [0, 1, 2, 3, 4, 5, 6, 7, 8, 9, 10, 11], [0, 1, 2, 3, 4, 5, 6, 7, 8, 9, 10, 11, 14], [0, 1, 2, 3, 4, 5, 6, 7, 8, 9, 10, 11, 12, 13, 14, 15], [0, 1, 2, 3, 4, 5, 6, 7, 8, 9, 10, 11], [0, 1, 2, 3, 4, 5, 6, 7, 8, 9, 10, 11], [0, 1, 2, 3, 4, 5, 6, 7, 8, 9, 10, 11, 17, 18], [0, 1, 2, 3, 4, 5, 6, 7, 8, 9, 10, 11, 12, 13, 14, 15, 16, 17, 18, 19], [0, 1, 2, 3, 4, 5, 6, 7, 8, 9, 10, 11, 12, 13, 14, 15, 16, 17, 18, 19, 20], [0, 1, 2, 3, 4, 5, 6, 7, 8, 9, 10, 11, 12, 13, 14, 15, 16, 17, 18, 19, 20, 21], [0, 1, 2, 3, 4, 5, 6, 7, 8, 9, 10, 11, 12, 13, 14, 15, 16, 17, 18, 19, 20, 21, 22]] (by kernel_rfl) (by kernel_rfl)) ?_
  refine x_then (c_ret (x_end ?_))
  exact end_pv (v := .bool true) rfl rfl rfl
  refine r_bin (v := .bool false) (vx := .int .i64 (((putI y).2))) (vy := .int .i64 0) rfl rfl rfl rfl (eql_f (by omega)) ?_
  refine r_pick (v := .bool false) rfl rfl rfl ?_
  refine r_move (v := .bool false) rfl rfl rfl ?_
  refine r_skip rfl rfl (r_skip rfl rfl (r_skip rfl rfl (r_skip rfl rfl (r_skip rfl rfl (r_skip rfl rfl (r_skip rfl rfl (r_skip rfl rfl (r_skip rfl rfl ?_))))))))
  refine r_pick (v := .bool false) rfl rfl rfl ?_
  refine r_doneD (drawnT_ok [[], [0], [0, 1], [0, 1, 2], [0, 1, 2, 3], [0, 1, 2, 3, 4], [0, 1, 2, 3, 4, 5], [0, 1, 2, 3, 4, 5, 6], [0, 1, 2, 3, 4, 5, 6, 7], [0, 1, 2, 3, 4, 5, 6], [0, 1, 2, 3, 4, 5, 6, 9], [0, 1, 2, 3, 4, 5, 6, 7, 8, 9, 10], [0, 1, 2, 3, 4, 5, 6], [0, 1, 2, 3, 4, 5, 6], [0, 1, 2, 3, 4, 5, 6, 12, 13], [0, 1, 2, 3, 4, 5, 6, 7, 8, 9, 10, 11, 12, 13, 14], [0, 1, 2, 3, 4, 5, 6, 7, 8, 9, 10, 11, 12, 13, 14, 15]] (by kernel_rfl) (by kernel_rfl)) ?_
  refine x_then (c_false rfl (c_skip (x_then (c_seq ?_))))
  refine c_draw (by kernel_rfl) ?_
  refine r_callP (claims_ok (G := G)) (vals := []) (res' := .bool true) rfl rfl rfl rfl rfl rfl ?_
  refine r_move (v := .bool true) rfl rfl rfl ?_
  refine r_callP (items_ok (G := G) kk hG) (vals := []) (res' := .bool true) rfl rfl rfl rfl rfl rfl ?_
  refine r_pick (v := .bool true) rfl rfl rfl ?_
  refine r_move (v := .bool true) rfl rfl rfl ?_
  refine r_move (v := .int .i64 (((putC c).2))) rfl rfl rfl ?_
  by_cases h18 : (((putC c).2)) ≠ 0
  refine r_bin (v := .bool true) (vx := .int .i64 (((putC c).2))) (vy := .int .i64 0) rfl rfl rfl rfl (neq_t (by omega)) ?_
  refine r_move (v := .bool true) rfl rfl rfl ?_
  refine r_skip rfl rfl (r_skip rfl rfl ?_)
  refine r_pick (v := .bool true) rfl rfl rfl ?_
  refine r_move (v := .bool true) rfl rfl rfl ?_
  refine r_skip rfl rfl (r_skip rfl rfl (r_skip rfl rfl (r_skip rfl rfl (r_skip rfl rfl (r_skip rfl rfl (r_skip rfl rfl (r_skip rfl rfl (r_skip rfl rfl ?_))))))))
  refine r_pick (v := .bool true) rfl rfl rfl ?_
  refine r_pick (v := .bool true) rfl rfl rfl ?_
  refine r_assign (v := .bool true) rfl rfl rfl ?_
  refine r_doneD (drawnT_ok [[], [0], [0, 1], [0, 1, 2], [0, 1, 2, 3], [0, 1, 2, 3, 4], [0, 1, 2, 3, 4, 5], [0, 1, 2, 3, 4, 5, 6], [0, 1, 2, 3, 4, 5, 6, 7], [0, 1, 2, 3, 4, 5, 6, 7, 8], [0, 1, 2, 3, 4, 5, 6, 7, 8, 9], [0, 1, 2, 3, 4, 5, 6, 7, 8, 9, 10], [0, 1, 2, 3, 4, 5, 6, 7, 8, 9, 10, 11], [0, 1, 2, 3, 4, 5, 6, 7, 8, 9, 10, 11, 12], [0, 1, 2, 3, 4, 5, 6, 7, 8, 9, 10, 11], [0, 1, 2, 3, 4, 5, 6, 7, 8, 9, 10, 11, 14], [0, 1, 2, 3, 4, 5, 6, 7, 8, 9, 10, 11, 12, 13, 14, 15], [0, 1, 2, 3, 4, 5, 6, 7, 8, 9, 10, 11], [0, 1, 2, 3, 4, 5, 6, 7, 8, 9, 10, 11], [0, 1, 2, 3, 4, 5, 6, 7, 8, 9, 10, 11, 17, 18], [0, 1, 2, 3, 4, 5, 6, 7, 8, 9, 10, 11, 12, 13, 14, 15, 16, 17, 18, 19], [0, 1, 2, 3, 4, 5, 6, 7, 8, 9, 10, 11, 12, 13, 14, 15, 16, 17, 18, 19, 20], [0, 1, 2, 3, 4, 5, 6, 7, 8, 9, 10, 11, 12, 13, 14, 15, 16, 17, 18, 19, 20, 21], [0, 1, 2, 3, 4, 5, 6, 7, 8, 9, 10, 11, 12, 13, 14, 15, 16, 17, 18, 19, 20, 21, 22]] (by kernel_rfl) (by kernel_rfl)) ?_
  refine x_then (c_ret (x_end ?_))
  exact end_pv (v := .bool true) rfl rfl rfl
  refine r_bin (v := .bool false) (vx := .int .i64 (((putC c).2))) (vy := .int .i64 0) rfl rfl rfl rfl (neq_f (by omega)) ?_
  refine r_move (v := .bool false) rfl rfl rfl ?_
  refine r_move (v := .int .i64 (((putC d).2))) rfl rfl rfl ?_
  by_cases h19 : (((putC d).2)) ≠ 0
  refine r_bin (v := .bool true) (vx := .int .i64 (((putC d).2))) (vy := .int .i64 0) rfl rfl rfl rfl (neq_t (by omega)) ?_
  refine r_pick (v := .bool true) rfl rfl rfl ?_
  refine r_move (v := .bool true) rfl rfl rfl ?_
  refine r_skip rfl rfl (r_skip rfl rfl (r_skip rfl rfl (r_skip rfl rfl (r_skip rfl rfl (r_skip rfl rfl (r_skip rfl rfl (r_skip rfl rfl (r_skip rfl rfl ?_))))))))
  refine r_pick (v := .bool true) rfl rfl rfl ?_
  refine r_pick (v := .bool true) rfl rfl rfl ?_
  refine r_assign (v := .bool true) rfl rfl rfl ?_
  refine r_doneD (drawnT_ok [[], [0], [0, 1], [0, 1, 2], [0, 1, 2, 3], [0, 1, 2, 3, 4], [0, 1, 2, 3, 4, 5], [0, 1, 2, 3, 4, 5, 6], [0, 1, 2, 3, 4, 5, 6, 7], [0, 1, 2, 3, 4, 5, 6, 7, 8], [0, 1, 2, 3, 4, 5, 6, 7, 8, 9], [0, 1, 2, 3, 4, 5, 6, 7, 8, 9, 10], [0, 1, 2, 3, 4, 5, 6, 7, 8, 9, 10, 11], [0, 1, 2, 3, 4, 5, 6, 7, 8, 9, 10, 11, 12], [0, 1, 2, 3, 4, 5, 6, 7, 8, 9, 10, 11], [0, 1, 2, 3, 4, 5, 6, 7, 8, 9, 10, 11, 14], [0, 1, 2, 3, 4, 5, 6, 7, 8, 9, 10, 11, 12, 13, 14, 15], [0, 1, 2, 3, 4, 5, 6, 7, 8, 9, 10, 11], [0, 1, 2, 3, 4, 5, 6, 7, 8, 9, 10, 11], [0, 1, 2, 3, 4, 5, 6, 7, 8, 9, 10, 11, 17, 18], [0, 1, 2, 3, 4, 5, 6, 7, 8, 9, 10, 11, 12, 13, 14, 15, 16, 17, 18, 19], [0, 1, 2, 3, 4, 5, 6, 7, 8, 9, 10, 11, 12, 13, 14, 15, 16, 17, 18, 19, 20], [0, 1, 2, 3, 4, 5, 6, 7, 8, 9, 10, 11, 12, 13, 14, 15, 16, 17, 18, 19, 20, 21], [0, 1, 2, 3, 4, 5, 6, 7, 8, 9, 10, 11, 12, 13, 14, 15, 16, 17, 18, 19, 20, 21, 22]] (by kernel_rfl) (by kernel_rfl)) ?_
  refine x_then (c_ret (x_end ?_))
  exact end_pv (v := .bool true) rfl rfl rfl
  refine r_bin (v := .bool false) (vx := .int .i64 (((putC d).2))) (vy := .int .i64 0) rfl rfl rfl rfl (neq_f (by omega)) ?_
  refine r_pick (v := .bool false) rfl rfl rfl ?_
  refine r_move (v := .bool false) rfl rfl rfl ?_
  refine r_move (v := slv 6 0 ((putC c).1.length) ((putC c).1.length)) rfl rfl rfl ?_
  refine r_str (p := slv 6 0 ((putC c).1.length) ((putC c).1.length)) (v := .string (strOf ((putC c).1))) rfl rfl rfl (str_whole rfl rfl rfl rfl rfl (by omega)) ?_
  refine r_move (v := slv 7 0 ((putC d).1.length) ((putC d).1.length)) rfl rfl rfl ?_
  refine r_str (p := slv 7 0 ((putC d).1.length) ((putC d).1.length)) (v := .string (strOf ((putC d).1))) rfl rfl rfl (str_whole rfl rfl rfl rfl rfl (by omega)) ?_
  rcases Bool.eq_false_or_eq_true (sameT (strOf ((putC c).1)) (strOf ((putC d).1))) with h20 | h20
  refine r_bin (v := .bool true) (vx := .string (strOf ((putC c).1))) (vy := .string (strOf ((putC d).1))) rfl rfl rfl rfl (Eq.trans (eql_str _ _) (by rw [h20] <;> rfl)) ?_
  refine r_load (p := pt 2 0) (v := claimV c) rfl rfl rfl (by kernel_rfl) ?_
  refine r_load (p := pt 3 0) (v := claimV d) rfl rfl rfl (by kernel_rfl) ?_
  rcases Bool.eq_false_or_eq_true (eqClaim c d) with h21 | h21
  refine r_bin (v := .bool true) (vx := claimV c) (vy := claimV d) rfl rfl rfl rfl (Eq.trans (eql_Claim c d) (by rw [h21] <;> rfl)) ?_
  refine r_bin (v := .bool true) (vx := .bool true) (vy := .bool true) rfl rfl rfl rfl (eqlB' rfl rfl rfl) ?_
  refine r_pick (v := .bool true) rfl rfl rfl ?_
  refine r_pick (v := .bool true) rfl rfl rfl ?_
  refine r_assign (v := .bool true) rfl rfl rfl ?_
  refine r_doneD (drawnT_ok [[], [0], [0, 1], [0, 1, 2], [0, 1, 2, 3], [0, 1, 2, 3, 4], [0, 1, 2, 3, 4, 5], [0, 1, 2, 3, 4, 5, 6], [0, 1, 2, 3, 4, 5, 6, 7], [0, 1, 2, 3, 4, 5, 6, 7, 8], [0, 1, 2, 3, 4, 5, 6, 7, 8, 9], [0, 1, 2, 3, 4, 5, 6, 7, 8, 9, 10], [0, 1, 2, 3, 4, 5, 6, 7, 8, 9, 10, 11], [0, 1, 2, 3, 4, 5, 6, 7, 8, 9, 10, 11, 12], [0, 1, 2, 3, 4, 5, 6, 7, 8, 9, 10, 11], [0, 1, 2, 3, 4, 5, 6, 7, 8, 9, 10, 11, 14], [0, 1, 2, 3, 4, 5, 6, 7, 8, 9, 10, 11, 12, 13, 14, 15], [0, 1, 2, 3, 4, 5, 6, 7, 8, 9, 10, 11], [0, 1, 2, 3, 4, 5, 6, 7, 8, 9, 10, 11], [0, 1, 2, 3, 4, 5, 6, 7, 8, 9, 10, 11, 17, 18], [0, 1, 2, 3, 4, 5, 6, 7, 8, 9, 10, 11, 12, 13, 14, 15, 16, 17, 18, 19], [0, 1, 2, 3, 4, 5, 6, 7, 8, 9, 10, 11, 12, 13, 14, 15, 16, 17, 18, 19, 20], [0, 1, 2, 3, 4, 5, 6, 7, 8, 9, 10, 11, 12, 13, 14, 15, 16, 17, 18, 19, 20, 21], [0, 1, 2, 3, 4, 5, 6, 7, 8, 9, 10, 11, 12, 13, 14, 15, 16, 17, 18, 19, 20, 21, 22]] (by kernel_rfl) (by kernel_rfl)) ?_
  refine x_then (c_ret (x_end ?_))
  exact end_pv (v := .bool true) rfl rfl rfl
  refine r_bin (v := .bool false) (vx := claimV c) (vy := claimV d) rfl rfl rfl rfl (Eq.trans (eql_Claim c d) (by rw [h21] <;> rfl)) ?_
  refine r_bin (v := .bool false) (vx := .bool true) (vy := .bool false) rfl rfl rfl rfl (eqlB' rfl rfl rfl) ?_
  refine r_pick (v := .bool false) rfl rfl rfl ?_
  refine r_pick (v := .bool false) rfl rfl rfl ?_
  refine r_assign (v := .bool false) rfl rfl rfl ?_
  refine r_doneD (drawnT_ok [[], [0], [0, 1], [0, 1, 2], [0, 1, 2, 3], [0, 1, 2, 3, 4], [0, 1, 2, 3, 4, 5], [0, 1, 2, 3, 4, 5, 6], [0, 1, 2, 3, 4, 5, 6, 7], [0, 1, 2, 3, 4, 5, 6, 7, 8], [0, 1, 2, 3, 4, 5, 6, 7, 8, 9], [0, 1, 2, 3, 4, 5, 6, 7, 8, 9, 10], [0, 1, 2, 3, 4, 5, 6, 7, 8, 9, 10, 11], [0, 1, 2, 3, 4, 5, 6, 7, 8, 9, 10, 11, 12], [0, 1, 2, 3, 4, 5, 6, 7, 8, 9, 10, 11], [0, 1, 2, 3, 4, 5, 6, 7, 8, 9, 10, 11, 14], [0, 1, 2, 3, 4, 5, 6, 7, 8, 9, 10, 11, 12, 13, 14, 15], [0, 1, 2, 3, 4, 5, 6, 7, 8, 9, 10, 11], [0, 1, 2, 3, 4, 5, 6, 7, 8, 9, 10, 11], [0, 1, 2, 3, 4, 5, 6, 7, 8, 9, 10, 11, 17, 18], [0, 1, 2, 3, 4, 5, 6, 7, 8, 9, 10, 11, 12, 13, 14, 15, 16, 17, 18, 19], [0, 1, 2, 3, 4, 5, 6, 7, 8, 9, 10, 11, 12, 13, 14, 15, 16, 17, 18, 19, 20], [0, 1, 2, 3, 4, 5, 6, 7, 8, 9, 10, 11, 12, 13, 14, 15, 16, 17, 18, 19, 20, 21], [0, 1, 2, 3, 4, 5, 6, 7, 8, 9, 10, 11, 12, 13, 14, 15, 16, 17, 18, 19, 20, 21, 22]] (by kernel_rfl) (by kernel_rfl)) ?_
  refine x_then (c_ret (x_end ?_))
  exfalso
  · first | (have i1 := apartI (x := x) (y := y) (by omega) (by omega); simp_all; done) | (have i2 := apartC (a := c) (b := d) (by omega) (by omega); simp_all; done)
  refine r_bin (v := .bool false) (vx := .string (strOf ((putC c).1))) (vy := .string (strOf ((putC d).1))) rfl rfl rfl rfl (Eq.trans (eql_str _ _) (by rw [h20] <;> rfl)) ?_
  refine r_load (p := pt 2 0) (v := claimV c) rfl rfl rfl (by kernel_rfl) ?_
  refine r_load (p := pt 3 0) (v := claimV d) rfl rfl rfl (by kernel_rfl) ?_
  rcases Bool.eq_false_or_eq_true (eqClaim c d) with h22 | h22
  refine r_bin (v := .bool true) (vx := claimV c) (vy := claimV d) rfl rfl rfl rfl (Eq.trans (eql_Claim c d) (by rw [h22] <;> rfl)) ?_
  refine r_bin (v := .bool false) (vx := .bool false) (vy := .bool true) rfl rfl rfl rfl (eqlB' rfl rfl rfl) ?_
  refine r_pick (v := .bool false) rfl rfl rfl ?_
  refine r_pick (v := .bool false) rfl rfl rfl ?_
  refine r_assign (v := .bool false) rfl rfl rfl ?_
  refine r_doneD (drawnT_ok [[], [0], [0, 1], [0, 1, 2], [0, 1, 2, 3], [0, 1, 2, 3, 4], [0, 1, 2, 3, 4, 5], [0, 1, 2, 3, 4, 5, 6], [0, 1, 2, 3, 4, 5, 6, 7], [0, 1, 2, 3, 4, 5, 6, 7, 8], [0, 1, 2, 3, 4, 5, 6, 7, 8, 9], [0, 1, 2, 3, 4, 5, 6, 7, 8, 9, 10], [0, 1, 2, 3, 4, 5, 6, 7, 8, 9, 10, 11], [0, 1, 2, 3, 4, 5, 6, 7, 8, 9, 10, 11, 12], [0, 1, 2, 3, 4, 5, 6, 7, 8, 9, 10, 11], [0, 1, 2, 3, 4, 5, 6, 7, 8, 9, 10, 11, 14], [0, 1, 2, 3, 4, 5, 6, 7, 8, 9, 10, 11, 12, 13, 14, 15], [0, 1, 2, 3, 4, 5, 6, 7, 8, 9, 10, 11], [0, 1, 2, 3, 4, 5, 6, 7, 8, 9, 10, 11], [0, 1, 2, 3, 4, 5, 6, 7, 8, 9, 10, 11, 17, 18], [0, 1, 2, 3, 4, 5, 6, 7, 8, 9, 10, 11, 12, 13, 14, 15, 16, 17, 18, 19], [0, 1, 2, 3, 4, 5, 6, 7, 8, 9, 10, 11, 12, 13, 14, 15, 16, 17, 18, 19, 20], [0, 1, 2, 3, 4, 5, 6, 7, 8, 9, 10, 11, 12, 13, 14, 15, 16, 17, 18, 19, 20, 21], [0, 1, 2, 3, 4, 5, 6, 7, 8, 9, 10, 11, 12, 13, 14, 15, 16, 17, 18, 19, 20, 21, 22]] (by kernel_rfl) (by kernel_rfl)) ?_
  refine x_then (c_ret (x_end ?_))
  exfalso
  · first | (have i1 := apartI (x := x) (y := y) (by omega) (by omega); simp_all; done) | (have i2 := apartC (a := c) (b := d) (by omega) (by omega); simp_all; done)
  refine r_bin (v := .bool false) (vx := claimV c) (vy := claimV d) rfl rfl rfl rfl (Eq.trans (eql_Claim c d) (by rw [h22] <;> rfl)) ?_
  refine r_bin (v := .bool true) (vx := .bool false) (vy := .bool false) rfl rfl rfl rfl (eqlB' rfl rfl rfl) ?_
  refine r_pick (v := .bool true) rfl rfl rfl ?_
  refine r_pick (v := .bool true) rfl rfl rfl ?_
  refine r_assign (v := .bool true) rfl rfl rfl ?_
  refine r_doneD (drawnT_ok [[], [0], [0, 1], [0, 1, 2], [0, 1, 2, 3], [0, 1, 2, 3, 4], [0, 1, 2, 3, 4, 5], [0, 1, 2, 3, 4, 5, 6], [0, 1, 2, 3, 4, 5, 6, 7], [0, 1, 2, 3, 4, 5, 6, 7, 8], [0, 1, 2, 3, 4, 5, 6, 7, 8, 9], [0, 1, 2, 3, 4, 5, 6, 7, 8, 9, 10], [0, 1, 2, 3, 4, 5, 6, 7, 8, 9, 10, 11], [0, 1, 2, 3, 4, 5, 6, 7, 8, 9, 10, 11, 12], [0, 1, 2, 3, 4, 5, 6, 7, 8, 9, 10, 11], [0, 1, 2, 3, 4, 5, 6, 7, 8, 9, 10, 11, 14], [0, 1, 2, 3, 4, 5, 6, 7, 8, 9, 10, 11, 12, 13, 14, 15], [0, 1, 2, 3, 4, 5, 6, 7, 8, 9, 10, 11], [0, 1, 2, 3, 4, 5, 6, 7, 8, 9, 10, 11], [0, 1, 2, 3, 4, 5, 6, 7, 8, 9, 10, 11, 17, 18], [0, 1, 2, 3, 4, 5, 6, 7, 8, 9, 10, 11, 12, 13, 14, 15, 16, 17, 18, 19], [0, 1, 2, 3, 4, 5, 6, 7, 8, 9, 10, 11, 12, 13, 14, 15, 16, 17, 18, 19, 20], [0, 1, 2, 3, 4, 5, 6, 7, 8, 9, 10, 11, 12, 13, 14, 15, 16, 17, 18, 19, 20, 21], [0, 1, 2, 3, 4, 5, 6, 7, 8, 9, 10, 11, 12, 13, 14, 15, 16, 17, 18, 19, 20, 21, 22]] (by kernel_rfl) (by kernel_rfl)) ?_
  refine x_then (c_ret (x_end ?_))
  exact end_pv (v := .bool true) rfl rfl rfl
  refine r_bin (v := .bool false) (vx := .int .i64 (((putI x).2))) (vy := .int .i64 0) rfl rfl rfl rfl (eql_f (by omega)) ?_
  refine r_move (v := .bool false) rfl rfl rfl ?_
  refine r_skip rfl rfl (r_skip rfl rfl ?_)
  refine r_pick (v := .bool false) rfl rfl rfl ?_
  refine r_move (v := .bool false) rfl rfl rfl ?_
  refine r_skip rfl rfl (r_skip rfl rfl (r_skip rfl rfl (r_skip rfl rfl (r_skip rfl rfl (r_skip rfl rfl (r_skip rfl rfl (r_skip rfl rfl (r_skip rfl rfl ?_))))))))
  refine r_pick (v := .bool false) rfl rfl rfl ?_
  refine r_doneD (drawnT_ok [[], [0], [0, 1], [0, 1, 2], [0, 1, 2, 3], [0, 1, 2, 3, 4], [0, 1, 2, 3, 4, 5], [0, 1, 2, 3, 4, 5, 6], [0, 1, 2, 3, 4, 5, 6, 7], [0, 1, 2, 3, 4, 5, 6], [0, 1, 2, 3, 4, 5, 6, 9], [0, 1, 2, 3, 4, 5, 6, 7, 8, 9, 10], [0, 1, 2, 3, 4, 5, 6], [0, 1, 2, 3, 4, 5, 6], [0, 1, 2, 3, 4, 5, 6, 12, 13], [0, 1, 2, 3, 4, 5, 6, 7, 8, 9, 10, 11, 12, 13, 14], [0, 1, 2, 3, 4, 5, 6, 7, 8, 9, 10, 11, 12, 13, 14, 15]] (by kernel_rfl) (by kernel_rfl)) ?_
  refine x_then (c_false rfl (c_skip (x_then (c_seq ?_))))
  refine c_draw (by kernel_rfl) ?_
  refine r_callP (claims_ok (G := G)) (vals := []) (res' := .bool true) rfl rfl rfl rfl rfl rfl ?_
  refine r_move (v := .bool true) rfl rfl rfl ?_
  refine r_callP (items_ok (G := G) kk hG) (vals := []) (res' := .bool true) rfl rfl rfl rfl rfl rfl ?_
  refine r_pick (v := .bool true) rfl rfl rfl ?_
  refine r_move (v := .bool true) rfl rfl rfl ?_
  refine r_move (v := .int .i64 (((putC c).2))) rfl rfl rfl ?_
  by_cases h23 : (((putC c).2)) ≠ 0
  refine r_bin (v := .bool true) (vx := .int .i64 (((putC c).2))) (vy := .int .i64 0) rfl rfl rfl rfl (neq_t (by omega)) ?_
  refine r_move (v := .bool true) rfl rfl rfl ?_
  refine r_skip rfl rfl (r_skip rfl rfl ?_)
  refine r_pick (v := .bool true) rfl rfl rfl ?_
  refine r_move (v := .bool true) rfl rfl rfl ?_
  refine r_skip rfl rfl (r_skip rfl rfl (r_skip rfl rfl (r_skip rfl rfl (r_skip rfl rfl (r_skip rfl rfl (r_skip rfl rfl (r_skip rfl rfl (r_skip rfl rfl ?_))))))))
  refine r_pick (v := .bool true) rfl rfl rfl ?_
  refine r_pick (v := .bool true) rfl rfl rfl ?_
  refine r_assign (v := .bool true) rfl rfl rfl ?_
  refine r_doneD (drawnT_ok [[], [0], [0, 1], [0, 1, 2], [0, 1, 2, 3], [0, 1, 2, 3, 4], [0, 1, 2, 3, 4, 5], [0, 1, 2, 3, 4, 5, 6], [0, 1, 2, 3, 4, 5, 6, 7], [0, 1, 2, 3, 4, 5, 6, 7, 8], [0, 1, 2, 3, 4, 5, 6, 7, 8, 9], [0, 1, 2, 3, 4, 5, 6, 7, 8, 9, 10], [0, 1, 2, 3, 4, 5, 6, 7, 8, 9, 10, 11], [0, 1, 2, 3, 4, 5, 6, 7, 8, 9, 10, 11, 12], [0, 1, 2, 3, 4, 5, 6, 7, 8, 9, 10, 11], [0, 1, 2, 3, 4, 5, 6, 7, 8, 9, 10, 11, 14], [0, 1, 2, 3, 4, 5, 6, 7, 8, 9, 10, 11, 12, 13, 14, 15], [0, 1, 2, 3, 4, 5, 6, 7, 8, 9, 10, 11], [0, 1, 2, 3, 4, 5, 6, 7, 8, 9, 10, 11], [0, 1, 2, 3, 4, 5, 6, 7, 8, 9, 10, 11, 17, 18], [0, 1, 2, 3, 4, 5, 6, 7, 8, 9, 10, 11, 12, 13, 14, 15, 16, 17, 18, 19], [0, 1, 2, 3, 4, 5, 6, 7, 8, 9, 10, 11, 12, 13, 14, 15, 16, 17, 18, 19, 20], [0, 1, 2, 3, 4, 5, 6, 7, 8, 9, 10, 11, 12, 13, 14, 15, 16, 17, 18, 19, 20, 21], [0, 1, 2, 3, 4, 5, 6, 7, 8, 9, 10, 11, 12, 13, 14, 15, 16, 17, 18, 19, 20, 21, 22]] (by kernel_rfl) (by kernel_rfl)) ?_
  refine x_then (c_ret (x_end ?_))
  exact end_pv (v := .bool true) rfl rfl rfl
  refine r_bin (v := .bool false) (vx := .int .i64 (((putC c).2))) (vy := .int .i64 0) rfl rfl rfl rfl (neq_f (by omega)) ?_
  refine r_move (v := .bool false) rfl rfl rfl ?_
  refine r_move (v := .int .i64 (((putC d).2))) rfl rfl rfl ?_
  by_cases h24 : (((putC d).2)) ≠ 0
  refine r_bin (v := .bool true) (vx := .int .i64 (((putC d).2))) (vy := .int .i64 0) rfl rfl rfl rfl (neq_t (by omega)) ?_
  refine r_pick (v := .bool true) rfl rfl rfl ?_
  refine r_move (v := .bool true) rfl rfl rfl ?_
  refine r_skip rfl rfl (r_skip rfl rfl (r_skip rfl rfl (r_skip rfl rfl (r_skip rfl rfl (r_skip rfl rfl (r_skip rfl rfl (r_skip rfl rfl (r_skip rfl rfl ?_))))))))
  refine r_pick (v := .bool true) rfl rfl rfl ?_
  refine r_pick (v := .bool true) rfl rfl rfl ?_
  refine r_assign (v := .bool true) rfl rfl rfl ?_
  refine r_doneD (drawnT_ok [[], [0], [0, 1], [0, 1, 2], [0, 1, 2, 3], [0, 1, 2, 3, 4], [0, 1, 2, 3, 4, 5], [0, 1, 2, 3, 4, 5, 6], [0, 1, 2, 3, 4, 5, 6, 7], [0, 1, 2, 3, 4, 5, 6, 7, 8], [0, 1, 2, 3, 4, 5, 6, 7, 8, 9], [0, 1, 2, 3, 4, 5, 6, 7, 8, 9, 10], [0, 1, 2, 3, 4, 5, 6, 7, 8, 9, 10, 11], [0, 1, 2, 3, 4, 5, 6, 7, 8, 9, 10, 11, 12], [0, 1, 2, 3, 4, 5, 6, 7, 8, 9, 10, 11], [0, 1, 2, 3, 4, 5, 6, 7, 8, 9, 10, 11, 14], [0, 1, 2, 3, 4, 5, 6, 7, 8, 9, 10, 11, 12, 13, 14, 15], [0, 1, 2, 3, 4, 5, 6, 7, 8, 9, 10, 11], [0, 1, 2, 3, 4, 5, 6, 7, 8, 9, 10, 11], [0, 1, 2, 3, 4, 5, 6, 7, 8, 9, 10, 11, 17, 18], [0, 1, 2, 3, 4, 5, 6, 7, 8, 9, 10, 11, 12, 13, 14, 15, 16, 17, 18, 19], [0, 1, 2, 3, 4, 5, 6, 7, 8, 9, 10, 11, 12, 13, 14, 15, 16, 17, 18, 19, 20], [0, 1, 2, 3, 4, 5, 6, 7, 8, 9, 10, 11, 12, 13, 14, 15, 16, 17, 18, 19, 20, 21], [0, 1, 2, 3, 4, 5, 6, 7, 8, 9, 10, 11, 12, 13, 14, 15, 16, 17, 18, 19, 20, 21, 22]] (by kernel_rfl) (by kernel_rfl)) ?_
  refine x_then (c_ret (x_end ?_))
  exact end_pv (v := .bool true) rfl rfl rfl
  refine r_bin (v := .bool false) (vx := .int .i64 (((putC d).2))) (vy := .int .i64 0) rfl rfl rfl rfl (neq_f (by omega)) ?_
  refine r_pick (v := .bool false) rfl rfl rfl ?_
  refine r_move (v := .bool false) rfl rfl rfl ?_
  refine r_move (v := slv 6 0 ((putC c).1.length) ((putC c).1.length)) rfl rfl rfl ?_
  refine r_str (p := slv 6 0 ((putC c).1.length) ((putC c).1.length)) (v := .string (strOf ((putC c).1))) rfl rfl rfl (str_whole rfl rfl rfl rfl rfl (by omega)) ?_
  refine r_move (v := slv 7 0 ((putC d).1.length) ((putC d).1.length)) rfl rfl rfl ?_
  refine r_str (p := slv 7 0 ((putC d).1.length) ((putC d).1.length)) (v := .string (strOf ((putC d).1))) rfl rfl rfl (str_whole rfl rfl rfl rfl rfl (by omega)) ?_
  rcases Bool.eq_false_or_eq_true (sameT (strOf ((putC c).1)) (strOf ((putC d).1))) with h25 | h25
  refine r_bin (v := .bool true) (vx := .string (strOf ((putC c).1))) (vy := .string (strOf ((putC d).1))) rfl rfl rfl rfl (Eq.trans (eql_str _ _) (by rw [h25] <;> rfl)) ?_
  refine r_load (p := pt 2 0) (v := claimV c) rfl rfl rfl (by kernel_rfl) ?_
  refine r_load (p := pt 3 0) (v := claimV d) rfl rfl rfl (by kernel_rfl) ?_
  rcases Bool.eq_false_or_eq_true (eqClaim c d) with h26 | h26
  refine r_bin (v := .bool true) (vx := claimV c) (vy := claimV d) rfl rfl rfl rfl (Eq.trans (eql_Claim c d) (by rw [h26] <;> rfl)) ?_
  refine r_bin (v := .bool true) (vx := .bool true) (vy := .bool true) rfl rfl rfl rfl (eqlB' rfl rfl rfl) ?_
  refine r_pick (v := .bool true) rfl rfl rfl ?_
  refine r_pick (v := .bool true) rfl rfl rfl ?_
  refine r_assign (v := .bool true) rfl rfl rfl ?_
  refine r_doneD (drawnT_ok [[], [0], [0, 1], [0, 1, 2], [0, 1, 2, 3], [0, 1, 2, 3, 4], [0, 1, 2, 3, 4, 5], [0, 1, 2, 3, 4, 5, 6], [0, 1, 2, 3, 4, 5, 6, 7], [0, 1, 2, 3, 4, 5, 6, 7, 8], [0, 1, 2, 3, 4, 5, 6, 7, 8, 9], [0, 1, 2, 3, 4, 5, 6, 7, 8, 9, 10], [0, 1, 2, 3, 4, 5, 6, 7, 8, 9, 10, 11], [0, 1, 2, 3, 4, 5, 6, 7, 8, 9, 10, 11, 12], [0, 1, 2, 3, 4, 5, 6, 7, 8, 9, 10, 11], [0, 1, 2, 3, 4, 5, 6, 7, 8, 9, 10, 11, 14], [0, 1, 2, 3, 4, 5, 6, 7, 8, 9, 10, 11, 12, 13, 14, 15], [0, 1, 2, 3, 4, 5, 6, 7, 8, 9, 10, 11], [0, 1, 2, 3, 4, 5, 6, 7, 8, 9, 10, 11], [0, 1, 2, 3, 4, 5, 6, 7, 8, 9, 10, 11, 17, 18], [0, 1, 2, 3, 4, 5, 6, 7, 8, 9, 10, 11, 12, 13, 14, 15, 16, 17, 18, 19], [0, 1, 2, 3, 4, 5, 6, 7, 8, 9, 10, 11, 12, 13, 14, 15, 16, 17, 18, 19, 20], [0, 1, 2, 3, 4, 5, 6, 7, 8, 9, 10, 11, 12, 13, 14, 15, 16, 17, 18, 19, 20, 21], [0, 1, 2, 3, 4, 5, 6, 7, 8, 9, 10, 11, 12, 13, 14, 15, 16, 17, 18, 19, 20, 21, 22]] (by kernel_rfl) (by kernel_rfl)) ?_
  refine x_then (c_ret (x_end ?_))
  exact end_pv (v := .bool true) rfl rfl rfl
  refine r_bin (v := .bool false) (vx := claimV c) (vy := claimV d) rfl rfl rfl rfl (Eq.trans (eql_Claim c d) (by rw [h26] <;> rfl)) ?_
  refine r_bin (v := .bool false) (vx := .bool true) (vy := .bool false) rfl rfl rfl rfl (eqlB' rfl rfl rfl) ?_
  refine r_pick (v := .bool false) rfl rfl rfl ?_
  refine r_pick (v := .bool false) rfl rfl rfl ?_
  refine r_assign (v := .bool false) rfl rfl rfl ?_
  refine r_doneD (drawnT_ok [[], [0], [0, 1], [0, 1, 2], [0, 1, 2, 3], [0, 1, 2, 3, 4], [0, 1, 2, 3, 4, 5], [0, 1, 2, 3, 4, 5, 6], [0, 1, 2, 3, 4, 5, 6, 7], [0, 1, 2, 3, 4, 5, 6, 7, 8], [0, 1, 2, 3, 4, 5, 6, 7, 8, 9], [0, 1, 2, 3, 4, 5, 6, 7, 8, 9, 10], [0, 1, 2, 3, 4, 5, 6, 7, 8, 9, 10, 11], [0, 1, 2, 3, 4, 5, 6, 7, 8, 9, 10, 11, 12], [0, 1, 2, 3, 4, 5, 6, 7, 8, 9, 10, 11], [0, 1, 2, 3, 4, 5, 6, 7, 8, 9, 10, 11, 14], [0, 1, 2, 3, 4, 5, 6, 7, 8, 9, 10, 11, 12, 13, 14, 15], [0, 1, 2, 3, 4, 5, 6, 7, 8, 9, 10, 11], [0, 1, 2, 3, 4, 5, 6, 7, 8, 9, 10, 11], [0, 1, 2, 3, 4, 5, 6, 7, 8, 9, 10, 11, 17, 18], [0, 1, 2, 3, 4, 5, 6, 7, 8, 9, 10, 11, 12, 13, 14, 15, 16, 17, 18, 19], [0, 1, 2, 3, 4, 5, 6, 7, 8, 9, 10, 11, 12, 13, 14, 15, 16, 17, 18, 19, 20], [0, 1, 2, 3, 4, 5, 6, 7, 8, 9, 10, 11, 12, 13, 14, 15, 16, 17, 18, 19, 20, 21], [0, 1, 2, 3, 4, 5, 6, 7, 8, 9, 10, 11, 12, 13, 14, 15, 16, 17, 18, 19, 20, 21, 22]] (by kernel_rfl) (by kernel_rfl)) ?_
  refine x_then (c_ret (x_end ?_))
  exfalso
  · first | (have i1 := apartI (x := x) (y := y) (by omega) (by omega); simp_all; done) | (have i2 := apartC (a := c) (b := d) (by omega) (by omega); simp_all; done)
  refine r_bin (v := .bool false) (vx := .string (strOf ((putC c).1))) (vy := .string (strOf ((putC d).1))) rfl rfl rfl rfl (Eq.trans (eql_str _ _) (by rw [h25] <;> rfl)) ?_
  refine r_load (p := pt 2 0) (v := claimV c) rfl rfl rfl (by kernel_rfl) ?_
  refine r_load (p := pt 3 0) (v := claimV d) rfl rfl rfl (by kernel_rfl) ?_
  rcases Bool.eq_false_or_eq_true (eqClaim c d) with h27 | h27
  refine r_bin (v := .bool true) (vx := claimV c) (vy := claimV d) rfl rfl rfl rfl (Eq.trans (eql_Claim c d) (by rw [h27] <;> rfl)) ?_
  refine r_bin (v := .bool false) (vx := .bool false) (vy := .bool true) rfl rfl rfl rfl (eqlB' rfl rfl rfl) ?_
  refine r_pick (v := .bool false) rfl rfl rfl ?_
  refine r_pick (v := .bool false) rfl rfl rfl ?_
  refine r_assign (v := .bool false) rfl rfl rfl ?_
  refine r_doneD (drawnT_ok [[], [0], [0, 1], [0, 1, 2], [0, 1, 2, 3], [0, 1, 2, 3, 4], [0, 1, 2, 3, 4, 5], [0, 1, 2, 3, 4, 5, 6], [0, 1, 2, 3, 4, 5, 6, 7], [0, 1, 2, 3, 4, 5, 6, 7, 8], [0, 1, 2, 3, 4, 5, 6, 7, 8, 9], [0, 1, 2, 3, 4, 5, 6, 7, 8, 9, 10], [0, 1, 2, 3, 4, 5, 6, 7, 8, 9, 10, 11], [0, 1, 2, 3, 4, 5, 6, 7, 8, 9, 10, 11, 12], [0, 1, 2, 3, 4, 5, 6, 7, 8, 9, 10, 11], [0, 1, 2, 3, 4, 5, 6, 7, 8, 9, 10, 11, 14], [0, 1, 2, 3, 4, 5, 6, 7, 8, 9, 10, 11, 12, 13, 14, 15], [0, 1, 2, 3, 4, 5, 6, 7, 8, 9, 10, 11], [0, 1, 2, 3, 4, 5, 6, 7, 8, 9, 10, 11], [0, 1, 2, 3, 4, 5, 6, 7, 8, 9, 10, 11, 17, 18], [0, 1, 2, 3, 4, 5, 6, 7, 8, 9, 10, 11, 12, 13, 14, 15, 16, 17, 18, 19], [0, 1, 2, 3, 4, 5, 6, 7, 8, 9, 10, 11, 12, 13, 14, 15, 16, 17, 18, 19, 20], [0, 1, 2, 3, 4, 5, 6, 7, 8, 9, 10, 11, 12, 13, 14, 15, 16, 17, 18, 19, 20, 21], [0, 1, 2, 3, 4, 5, 6, 7, 8, 9, 10, 11, 12, 13, 14, 15, 16, 17, 18, 19, 20, 21, 22]] (by kernel_rfl) (by kernel_rfl)) ?_
  refine x_then (c_ret (x_end ?_))
  exfalso
  · first | (have i1 := apartI (x := x) (y := y) (by omega) (by omega); simp_all; done) | (have i2 := apartC (a := c) (b := d) (by omega) (by omega); simp_all; done)
  refine r_bin (v := .bool false) (vx := claimV c) (vy := claimV d) rfl rfl rfl rfl (Eq.trans (eql_Claim c d) (by rw [h27] <;> rfl)) ?_
  refine r_bin (v := .bool true) (vx := .bool false) (vy := .bool false) rfl rfl rfl rfl (eqlB' rfl rfl rfl) ?_
  refine r_pick (v := .bool true) rfl rfl rfl ?_
  refine r_pick (v := .bool true) rfl rfl rfl ?_
  refine r_assign (v := .bool true) rfl rfl rfl ?_
  refine r_doneD (drawnT_ok [[], [0], [0, 1], [0, 1, 2], [0, 1, 2, 3], [0, 1, 2, 3, 4], [0, 1, 2, 3, 4, 5], [0, 1, 2, 3, 4, 5, 6], [0, 1, 2, 3, 4, 5, 6, 7], [0, 1, 2, 3, 4, 5, 6, 7, 8], [0, 1, 2, 3, 4, 5, 6, 7, 8, 9], [0, 1, 2, 3, 4, 5, 6, 7, 8, 9, 10], [0, 1, 2, 3, 4, 5, 6, 7, 8, 9, 10, 11], [0, 1, 2, 3, 4, 5, 6, 7, 8, 9, 10, 11, 12], [0, 1, 2, 3, 4, 5, 6, 7, 8, 9, 10, 11], [0, 1, 2, 3, 4, 5, 6, 7, 8, 9, 10, 11, 14], [0, 1, 2, 3, 4, 5, 6, 7, 8, 9, 10, 11, 12, 13, 14, 15], [0, 1, 2, 3, 4, 5, 6, 7, 8, 9, 10, 11], [0, 1, 2, 3, 4, 5, 6, 7, 8, 9, 10, 11], [0, 1, 2, 3, 4, 5, 6, 7, 8, 9, 10, 11, 17, 18], [0, 1, 2, 3, 4, 5, 6, 7, 8, 9, 10, 11, 12, 13, 14, 15, 16, 17, 18, 19], [0, 1, 2, 3, 4, 5, 6, 7, 8, 9, 10, 11, 12, 13, 14, 15, 16, 17, 18, 19, 20], [0, 1, 2, 3, 4, 5, 6, 7, 8, 9, 10, 11, 12, 13, 14, 15, 16, 17, 18, 19, 20, 21], [0, 1, 2, 3, 4, 5, 6, 7, 8, 9, 10, 11, 12, 13, 14, 15, 16, 17, 18, 19, 20, 21, 22]] (by kernel_rfl) (by kernel_rfl)) ?_
  refine x_then (c_ret (x_end ?_))
  exact end_pv (v := .bool true) rfl rfl rfl
end Go.Flat
