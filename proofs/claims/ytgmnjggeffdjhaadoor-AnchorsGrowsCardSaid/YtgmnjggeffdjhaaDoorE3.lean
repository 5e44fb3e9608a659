/- Walks and plain laws: what each theorem says, within the bounds that it names. -/
import Derived.Test.YtgmnjggeffdjhaaDoorE2
set_option linter.unusedVariables false
set_option linter.unusedSimpArgs false
set_option maxRecDepth 20000
namespace Go.Flat
open Go.Proofs
variable {G : Glob}
theorem drop_gd (l : List Item) (i : Nat) (h : i < l.length) : l.drop i = l.getD i default :: l.drop (i + 1) := by
  rw [List.drop_eq_getElem_cons h, List.getD_eq_getElem?_getD, List.getElem?_eq_getElem h]; rfl
def goodF : Int → List Item → Bool
  | _, [] => true
  | ep, x :: l => decide (rightI x) && decide (ep ≤ x.epoch) && goodF x.epoch l
def rightL (l : List Item) : Prop := l.length ≤ 2000 ∧ goodF 0 l = true
instance (l : List Item) : Decidable (rightL l) := inferInstanceAs (Decidable (_ ∧ _))
def chkL (l : List Item) : Int := if rightL l then 0 else 100
theorem chkL_pos {l : List Item} (h : chkL l = 0) : rightL l := by
  unfold chkL at h
  split at h
  · assumption
  · omega
theorem chkL_neg {l : List Item} (h : ¬ chkL l = 0) : ¬ rightL l := fun q => h (if_pos q)
theorem goodF_step {ep : Int} {l : List Item} {i : Nat} {R : Bool} (hR : goodF ep (l.drop i) = R) (hi : i < l.length) (h1 : rightI (l.getD i default)) (h2 : ep ≤ (l.getD i default).epoch) : goodF (l.getD i default).epoch (l.drop (i + 1)) = R := by
  rw [drop_gd l i hi, goodF, decide_eq_true h1, decide_eq_true h2] at hR; simpa using hR
theorem goodF_bad {ep : Int} {l : List Item} {i : Nat} {R : Bool} (hR : goodF ep (l.drop i) = R) (hi : i < l.length) (h : ¬ (rightI (l.getD i default) ∧ ep ≤ (l.getD i default).epoch)) : R = false := by
  rw [drop_gd l i hi, goodF] at hR
  rw [← hR]
  by_cases h1 : rightI (l.getD i default)
  · rw [decide_eq_false (fun q => h ⟨h1, q⟩ : ¬ ep ≤ (l.getD i default).epoch)]; simp
  · rw [decide_eq_false h1]; simp
def prevE (l : List Item) (i : Nat) : Int := if i = 0 then 0 else (l.getD (i - 1) default).epoch
def bigT (x : Item) : Bool := decide (1000 < x.entry.text.size)
def bigB (l : List Item) : Bool := decide (60 < l.length) || l.any bigT
theorem any_step {l : List Item} {i : Nat} {p : Item → Bool} {R : Bool} (hR : (l.drop i).any p = R) (hi : i < l.length) (h : p (l.getD i default) = false) : (l.drop (i + 1)).any p = R := by
  rw [drop_gd l i hi, List.any_cons, h, Bool.false_or] at hR; exact hR
theorem any_hit {l : List Item} {i : Nat} {p : Item → Bool} {R : Bool} (hR : (l.drop i).any p = R) (hi : i < l.length) (h : p (l.getD i default) = true) : R = true := by
  rw [drop_gd l i hi, List.any_cons, h, Bool.true_or] at hR; exact hR.symm
def sameL (l m : List Item) : Bool := decide (l.length = m.length) && (List.range l.length).all fun i => eqItem (l.getD i default) (m.getD i default)
theorem hwithin_ok (n low high : Int) : CallL Tryd.prog G 68 [.int .i64 n, .int .i64 low, .int .i64 high] [] (.bool (withinB n low high)) [] := by
  refine walk (fn := Tryd.f68) (nt := 15) rfl rfl rfl rfl ?_
  refine c_seq (c_reg ?_)
  refine r_assign (v := .bool false) rfl rfl rfl ?_
  refine r_doneN (x_then (c_seq (c_reg ?_)))
  refine r_move (v := .int .i64 n) rfl rfl rfl ?_
  refine r_move (v := .int .i64 low) rfl rfl rfl ?_
  by_cases h1 : low ≤ n
  refine r_bin (v := .bool true) (vx := .int .i64 n) (vy := .int .i64 low) rfl rfl rfl rfl (geq_t (by omega)) ?_
  refine r_move (v := .bool true) rfl rfl rfl ?_
  refine r_move (v := .int .i64 n) rfl rfl rfl ?_
  refine r_move (v := .int .i64 high) rfl rfl rfl ?_
  by_cases h2 : n ≤ high
  refine r_bin (v := .bool true) (vx := .int .i64 n) (vy := .int .i64 high) rfl rfl rfl rfl (leq_t (by omega)) ?_
  refine r_pick (v := .bool true) rfl rfl rfl ?_
  refine r_assign (v := .bool true) rfl rfl rfl ?_
  refine r_doneN (x_then (c_ret (x_end ?_)))
  rw [show withinB n low high = true from withinB_t (by omega) (by omega)]
  exact end_same (v := .bool true) rfl rfl rfl (by kernel_rfl) rfl
  refine r_bin (v := .bool false) (vx := .int .i64 n) (vy := .int .i64 high) rfl rfl rfl rfl (leq_f (by omega)) ?_
  refine r_pick (v := .bool false) rfl rfl rfl ?_
  refine r_assign (v := .bool false) rfl rfl rfl ?_
  refine r_doneN (x_then (c_ret (x_end ?_)))
  rw [show withinB n low high = false from withinB_f (by omega)]
  exact end_same (v := .bool false) rfl rfl rfl (by kernel_rfl) rfl
  refine r_bin (v := .bool false) (vx := .int .i64 n) (vy := .int .i64 low) rfl rfl rfl rfl (geq_f (by omega)) ?_
  refine r_move (v := .bool false) rfl rfl rfl ?_
  refine r_skip rfl rfl (r_skip rfl rfl (r_skip rfl rfl ?_))
  refine r_pick (v := .bool false) rfl rfl rfl ?_
  refine r_assign (v := .bool false) rfl rfl rfl ?_
  refine r_doneN (x_then (c_ret (x_end ?_)))
  rw [show withinB n low high = false from withinB_f (by omega)]
  exact end_same (v := .bool false) rfl rfl rfl (by kernel_rfl) rfl
theorem right_ok (x : Item) : CallL Tryd.prog G 43 [itemV x] [] (.bool (decide (rightI x))) [] := by
  refine walk (fn := Tryd.f43) (nt := 12) rfl rfl rfl rfl ?_
  refine c_hole 1 (H' := [hole]) rfl ?_
  refine c_seq (c_reg ?_)
  refine r_box (v := itemV x) (b := bxB 110 (itemC x)) (nid := 0) (H' := [bxB 110 (itemC x)]) rfl rfl rfl (by kernel_rfl) (by kernel_rfl) ?_
  refine r_assign (v := .bool false) rfl rfl rfl ?_
  refine r_doneN (x_then (c_seq (c_reg ?_)))
  refine r_fieldAddr (b := 0) (o := 0) (n := 0) (o' := 0) rfl rfl rfl rfl rfl ?_
  refine r_load (p := pt 0 0) (v := .int .i64 x.epoch) rfl rfl rfl (by kernel_rfl) ?_
  by_cases h1 : 1 ≤ x.epoch
  by_cases h2 : x.epoch ≤ 900000000
  refine r_callP ((hwithin_ok (G := G) x.epoch 1 900000000).res (congrArg Value.bool (withinB_t (by omega) (by omega)))) (vals := [.int .i64 x.epoch, .int .i64 1, .int .i64 900000000]) (res' := .bool true) rfl rfl rfl rfl rfl rfl ?_
  refine r_move (v := .bool true) rfl rfl rfl ?_
  refine r_fieldAddr (b := 0) (o := 0) (n := 1) (o' := 1) rfl rfl rfl rfl rfl ?_
  refine r_load (p := pt 0 1) (v := entV x.entry) rfl rfl rfl (by kernel_rfl) ?_
  refine r_callP (EntCheck_ok (G := G) x.entry) (vals := [entV x.entry]) (res' := .int .i64 ((chkE x.entry))) rfl rfl rfl rfl rfl rfl ?_
  by_cases h3 : ((chkE x.entry)) = 0
  refine r_bin (v := .bool true) (vx := .int .i64 ((chkE x.entry))) (vy := .int .i64 0) rfl rfl rfl rfl (eql_t (by omega)) ?_
  refine r_pick (v := .bool true) rfl rfl rfl ?_
  refine r_assign (v := .bool true) rfl rfl rfl ?_
  refine r_doneN (x_then (c_ret (x_end ?_)))
  rw [show decide (rightI x) = true from decide_eq_true ⟨by omega, by omega, chkE_pos (by omega)⟩]
  exact end_same (v := .bool true) rfl rfl rfl (by kernel_rfl) rfl
  refine r_bin (v := .bool false) (vx := .int .i64 ((chkE x.entry))) (vy := .int .i64 0) rfl rfl rfl rfl (eql_f (by omega)) ?_
  refine r_pick (v := .bool false) rfl rfl rfl ?_
  refine r_assign (v := .bool false) rfl rfl rfl ?_
  refine r_doneN (x_then (c_ret (x_end ?_)))
  rw [show decide (rightI x) = false from decide_eq_false (fun q => by first | (have := q.1; have := q.2.1; omega) | (exact chkE_neg (by omega) q.2.2))]
  exact end_same (v := .bool false) rfl rfl rfl (by kernel_rfl) rfl
  refine r_callP ((hwithin_ok (G := G) x.epoch 1 900000000).res (congrArg Value.bool (withinB_f (by omega)))) (vals := [.int .i64 x.epoch, .int .i64 1, .int .i64 900000000]) (res' := .bool false) rfl rfl rfl rfl rfl rfl ?_
  refine r_move (v := .bool false) rfl rfl rfl ?_
  refine r_skip rfl rfl (r_skip rfl rfl (r_skip rfl rfl (r_skip rfl rfl ?_)))
  refine r_pick (v := .bool false) rfl rfl rfl ?_
  refine r_assign (v := .bool false) rfl rfl rfl ?_
  refine r_doneN (x_then (c_ret (x_end ?_)))
  rw [show decide (rightI x) = false from decide_eq_false (fun q => by first | (have := q.1; have := q.2.1; omega) | (exact chkE_neg (by omega) q.2.2))]
  exact end_same (v := .bool false) rfl rfl rfl (by kernel_rfl) rfl
  refine r_callP ((hwithin_ok (G := G) x.epoch 1 900000000).res (congrArg Value.bool (withinB_f (by omega)))) (vals := [.int .i64 x.epoch, .int .i64 1, .int .i64 900000000]) (res' := .bool false) rfl rfl rfl rfl rfl rfl ?_
  refine r_move (v := .bool false) rfl rfl rfl ?_
  refine r_skip rfl rfl (r_skip rfl rfl (r_skip rfl rfl (r_skip rfl rfl ?_)))
  refine r_pick (v := .bool false) rfl rfl rfl ?_
  refine r_assign (v := .bool false) rfl rfl rfl ?_
  refine r_doneN (x_then (c_ret (x_end ?_)))
  rw [show decide (rightI x) = false from decide_eq_false (fun q => by first | (have := q.1; have := q.2.1; omega) | (exact chkE_neg (by omega) q.2.2))]
  exact end_same (v := .bool false) rfl rfl rfl (by kernel_rfl) rfl
theorem LCheck_ok (l : List Item) (n c : Nat) (hn : l.length = n) (hc : n ≤ c) (hb : n ≤ 1048576) : CallL Tryd.prog G 27 [slv 0 0 n c] [rwR cItem l] (.int .i64 (chkL l)) [rwR cItem l] := by
  refine walk (fn := Tryd.f27) (nt := 27) rfl rfl rfl rfl ?_
  refine c_seq (c_reg ?_)
  refine r_assign (v := .int .i64 0) rfl rfl rfl ?_
  refine r_doneN (x_then (c_seq (c_reg ?_)))
  refine r_assign (v := .int .i64 0) rfl rfl rfl ?_
  refine r_doneN (x_then (c_seq (c_seq (c_reg ?_))))
  refine r_move (v := slv 0 0 n c) rfl rfl rfl ?_
  refine r_len (p := slv 0 0 n c) (v := .int .i64 (n : Nat)) rfl rfl rfl rfl ?_
  refine r_move (v := .int .i64 0) rfl rfl rfl ?_
  refine r_doneN (x_then (c_block ?_))
  refine c_loopN (fun x : Nat × Int => match x with | (i, ep) => [slv 0 0 n c, dead, dead, .int .i64 ep, dead, dead, slv 0 0 n c, .int .i64 (n : Nat), .int .i64 (i : Nat)]) (fun x : Nat × Int => match x with | (i, ep) => [rwR cItem l]) (fun x : Nat × Int => match x with | (i, ep) => goodF ep (l.drop i) = goodF 0 l ∧ i ≤ n) (fun x : Nat × Int => match x with | (i, ep) => n - i) (0, 0) ⟨rfl, by omega⟩ ?_ ?_
  · refine weak_to (n := 1) rfl ?_ (by kernel_rfl) (by kernel_rfl)
    repeat (first | exact trivial | refine ⟨.inl rfl, ?_⟩ | refine ⟨.inr ⟨rfl, rfl⟩, ?_⟩ | refine ⟨.inr ⟨congrArg (Value.int .i64) (by first | omega | (dsimp only; omega)), rfl⟩, ?_⟩)
  rintro ⟨i, ep⟩ ⟨hR, hi⟩
  dsimp only at *
  refine c_hole 2 (H' := [rwR cItem l, hole, hole]) rfl ?_
  refine c_seq (c_reg ?_)
  by_cases h1 : (i : Nat) < (n : Nat)
  refine r_bin (v := .bool true) (vx := .int .i64 (i : Nat)) (vy := .int .i64 (n : Nat)) rfl rfl rfl rfl (lss_t (by omega)) ?_
  refine r_doneN (x_then (c_seq (c_true rfl (c_skip (x_then (c_seq (c_block (c_seq (c_reg ?_)))))))))
  refine r_idxS (b := 0) (o := 0) (j := i * 110) (m := n) (c := c) (sz := 110) (i := (i : Nat)) (k := .i64) rfl rfl rfl rfl rfl (by omega) (by omega) (by omega) ?_
  refine r_load (p := pt 0 (i * 110)) (v := itemV (l.getD i default)) rfl rfl rfl (load_rw (n := 0) (m := 110) cItem rfl rfl rfl rfl (by have := hn; omega) (by omega)) ?_
  refine r_alloc (b := bxB 110 (itemC (⟨0, (⟨0, 0, 0, ⟨#[]⟩, (⟨(⟨0, 0, 0, dz, 0⟩ : Head), 0, dz⟩ : Signed), (⟨0, 0, 0, 0, dz⟩ : Claim)⟩ : Entry)⟩ : Item))) (nid := 1) (H' := [rwR cItem l, bxB 110 (itemC (⟨0, (⟨0, 0, 0, ⟨#[]⟩, (⟨(⟨0, 0, 0, dz, 0⟩ : Head), 0, dz⟩ : Signed), (⟨0, 0, 0, 0, dz⟩ : Claim)⟩ : Entry)⟩ : Item)), hole]) rfl rfl (by kernel_rfl) (by kernel_rfl) ?_
  refine r_store (p := pt 1 0) (v := itemV (l.getD i default)) (b := 1) (blk := bxB 110 (itemC (l.getD i default))) (H' := [rwR cItem l, bxB 110 (itemC (l.getD i default)), hole]) rfl rfl rfl (by kernel_rfl) (by kernel_rfl) ?_
  refine r_doneN (x_then (c_seq (c_seq (c_reg ?_))))
  refine r_load (p := pt 1 0) (v := itemV (l.getD i default)) rfl rfl rfl (by kernel_rfl) ?_
  refine r_callP (right_ok (G := G) (l.getD i default)) (vals := [itemV (l.getD i default)]) (res' := .bool (decide (rightI (l.getD i default)))) rfl rfl rfl rfl rfl rfl ?_
  rcases Bool.eq_false_or_eq_true (decide (rightI (l.getD i default))) with h2 | h2
  refine r_un (v := .bool false) (vx := .bool (decide (rightI (l.getD i default)))) rfl rfl rfl (Eq.trans un_not (congrArg (fun b => some (Value.bool !b)) h2)) ?_
  refine r_move (v := .bool false) rfl rfl rfl ?_
  refine r_fieldAddr (b := 1) (o := 0) (n := 0) (o' := 0) rfl rfl rfl rfl rfl ?_
  refine r_load (p := pt 1 0) (v := .int .i64 (((l.getD i default).epoch))) rfl rfl rfl (by kernel_rfl) ?_
  refine r_move (v := .int .i64 ep) rfl rfl rfl ?_
  by_cases h3 : (((l.getD i default).epoch)) < ep
  refine r_bin (v := .bool true) (vx := .int .i64 (((l.getD i default).epoch))) (vy := .int .i64 ep) rfl rfl rfl rfl (lss_t (by omega)) ?_
  refine r_pick (v := .bool true) rfl rfl rfl ?_
  refine r_doneN (x_then (c_true rfl (c_seq (c_reg ?_))))
  refine r_assign (v := .int .i64 100) rfl rfl rfl ?_
  refine r_doneN (x_then (c_ret (x_thenR (x_blockR (x_thenR (x_leaveR (x_blockR (x_thenR (x_end ?_)))))))))
  rw [show chkL l = 100 from if_neg (fun q => by have q1 := q.1; have q2 := q.2; first | omega | (rw [goodF_bad hR (by omega) (fun r => by first | (have := r.2; omega) | exact absurd r.1 (of_decide_eq_false (by assumption)))] at q2; cases q2))]
  exact end_same (v := .int .i64 100) rfl rfl rfl (by kernel_rfl) rfl
  refine r_bin (v := .bool false) (vx := .int .i64 (((l.getD i default).epoch))) (vy := .int .i64 ep) rfl rfl rfl rfl (lss_f (by omega)) ?_
  refine r_pick (v := .bool false) rfl rfl rfl ?_
  refine r_doneN (x_then (c_false rfl (c_skip (x_then (c_reg ?_)))))
  refine r_fieldAddr (b := 1) (o := 0) (n := 0) (o' := 0) rfl rfl rfl rfl rfl ?_
  refine r_load (p := pt 1 0) (v := .int .i64 (((l.getD i default).epoch))) rfl rfl rfl (by kernel_rfl) ?_
  refine r_assign (v := .int .i64 (((l.getD i default).epoch))) rfl rfl rfl ?_
  refine r_doneN (x_blockN (x_then (c_reg ?_)))
  refine r_bin (v := .int .i64 ((i : Nat) + 1)) (vx := .int .i64 (i : Nat)) (vy := .int .i64 1) rfl rfl rfl rfl (bin_add (by omega) (by omega) (by omega)) ?_
  refine r_move (v := .int .i64 ((i : Nat) + 1)) rfl rfl rfl ?_
  refine r_doneN ?_
  refine x_round ⟨((i + 1), (((l.getD i default).epoch))), ⟨goodF_step hR (by omega) (of_decide_eq_true (by assumption)) (by omega), by omega⟩, by show n - (i + 1) < n - i; omega, ?_⟩
  refine weak_to (n := 1) rfl ?_ (by kernel_rfl) (by kernel_rfl)
  repeat (first | exact trivial | refine ⟨.inl rfl, ?_⟩ | refine ⟨.inr ⟨rfl, rfl⟩, ?_⟩ | refine ⟨.inr ⟨congrArg (Value.int .i64) (by first | omega | (dsimp only; omega)), rfl⟩, ?_⟩)
  refine r_un (v := .bool true) (vx := .bool (decide (rightI (l.getD i default)))) rfl rfl rfl (Eq.trans un_not (congrArg (fun b => some (Value.bool !b)) h2)) ?_
  refine r_move (v := .bool true) rfl rfl rfl ?_
  refine r_skip rfl rfl (r_skip rfl rfl (r_skip rfl rfl (r_skip rfl rfl ?_)))
  refine r_pick (v := .bool true) rfl rfl rfl ?_
  refine r_doneN (x_then (c_true rfl (c_seq (c_reg ?_))))
  refine r_assign (v := .int .i64 100) rfl rfl rfl ?_
  refine r_doneN (x_then (c_ret (x_thenR (x_blockR (x_thenR (x_leaveR (x_blockR (x_thenR (x_end ?_)))))))))
  rw [show chkL l = 100 from if_neg (fun q => by have q1 := q.1; have q2 := q.2; first | omega | (rw [goodF_bad hR (by omega) (fun r => by first | (have := r.2; omega) | exact absurd r.1 (of_decide_eq_false (by assumption)))] at q2; cases q2))]
  exact end_same (v := .int .i64 100) rfl rfl rfl (by kernel_rfl) rfl
  refine r_bin (v := .bool false) (vx := .int .i64 (i : Nat)) (vy := .int .i64 (n : Nat)) rfl rfl rfl rfl (lss_f (by omega)) ?_
  refine r_doneN (x_then (c_seq (c_false rfl (c_exit (x_thenE (x_leaveE (x_block rfl (x_then (c_seq (c_seq (c_reg ?_)))))))))))
  refine r_move (v := slv 0 0 n c) rfl rfl rfl ?_
  refine r_len (p := slv 0 0 n c) (v := .int .i64 (n : Nat)) rfl rfl rfl rfl ?_
  by_cases h4 : 2000 < (n : Nat)
  refine r_bin (v := .bool true) (vx := .int .i64 (n : Nat)) (vy := .int .i64 2000) rfl rfl rfl rfl (gtr_t (by omega)) ?_
  refine r_doneN (x_then (c_true rfl (c_seq (c_reg ?_))))
  refine r_assign (v := .int .i64 100) rfl rfl rfl ?_
  refine r_doneN (x_then (c_ret (x_thenR (x_end ?_))))
  rw [show chkL l = 100 from if_neg (fun q => by have q1 := q.1; have q2 := q.2; first | omega | (rw [goodF_bad hR (by omega) (fun r => by first | (have := r.2; omega) | exact absurd r.1 (of_decide_eq_false (by assumption)))] at q2; cases q2))]
  exact end_same (v := .int .i64 100) rfl rfl rfl (by kernel_rfl) rfl
  refine r_bin (v := .bool false) (vx := .int .i64 (n : Nat)) (vy := .int .i64 2000) rfl rfl rfl rfl (gtr_f (by omega)) ?_
  refine r_doneN (x_then (c_false rfl (c_skip (x_then (c_seq (c_reg ?_))))))
  refine r_assign (v := .int .i64 0) rfl rfl rfl ?_
  refine r_doneN (x_then (c_ret (x_end ?_)))
  rw [show chkL l = 0 from if_pos ⟨by omega, by rw [← hR, List.drop_of_length_le (by omega)]; rfl⟩]
  exact end_same (v := .int .i64 0) rfl rfl rfl (by kernel_rfl) rfl
theorem refBig_ok (l : List Item) (n c : Nat) (hn : l.length = n) (hc : n ≤ c) (hb : n ≤ 9223372036854775807) : CallL Tryd.prog G 9 [slv 0 0 n c] [rwR cItem l] (.bool (bigB l)) [rwR cItem l] := by
  refine walk (fn := Tryd.f9) (nt := 21) rfl rfl rfl rfl ?_
  refine c_seq (c_reg ?_)
  refine r_assign (v := .bool false) rfl rfl rfl ?_
  refine r_doneN (x_then (c_seq (c_seq (c_reg ?_))))
  refine r_move (v := slv 0 0 n c) rfl rfl rfl ?_
  refine r_len (p := slv 0 0 n c) (v := .int .i64 (n : Nat)) rfl rfl rfl rfl ?_
  by_cases h1 : 60 < (n : Nat)
  refine r_bin (v := .bool true) (vx := .int .i64 (n : Nat)) (vy := .int .i64 60) rfl rfl rfl rfl (gtr_t (by omega)) ?_
  refine r_doneN (x_then (c_true rfl (c_seq (c_reg ?_))))
  refine r_assign (v := .bool true) rfl rfl rfl ?_
  refine r_doneN (x_then (c_ret (x_thenR (x_end ?_))))
  rw [show bigB l = true from by unfold bigB; first | (rw [decide_eq_true (by omega : 60 < l.length)]; rfl) | (rw [any_hit hR (by omega) (decide_eq_true (by omega)), Bool.or_true])]
  exact end_same (v := .bool true) rfl rfl rfl (by kernel_rfl) rfl
  refine r_bin (v := .bool false) (vx := .int .i64 (n : Nat)) (vy := .int .i64 60) rfl rfl rfl rfl (gtr_f (by omega)) ?_
  refine r_doneN (x_then (c_false rfl (c_skip (x_then (c_seq (c_seq (c_reg ?_)))))))
  refine r_assign (v := .int .i64 0) rfl rfl rfl ?_
  refine r_doneN (x_then (c_block ?_))
  refine c_loopN (fun i : Nat => [slv 0 0 n c, dead, dead, .int .i64 (i : Nat), slv 0 0 n c, .int .i64 (n : Nat), .bool false]) (fun i : Nat => [rwR cItem l]) (fun i : Nat => (l.drop i).any bigT = l.any bigT ∧ i ≤ n) (fun i : Nat => n - i) 0 ⟨rfl, by omega⟩ ?_ ?_
  · refine weak_to (n := 1) rfl ?_ (by kernel_rfl) (by kernel_rfl)
    repeat (first | exact trivial | refine ⟨.inl rfl, ?_⟩ | refine ⟨.inr ⟨rfl, rfl⟩, ?_⟩ | refine ⟨.inr ⟨congrArg (Value.int .i64) (by first | omega | (dsimp only; omega)), rfl⟩, ?_⟩)
  rintro i ⟨hR, hi⟩
  refine c_hole 1 (H' := [rwR cItem l, hole]) rfl ?_
  refine c_seq (c_seq (c_reg ?_))
  refine r_move (v := .int .i64 (i : Nat)) rfl rfl rfl ?_
  refine r_move (v := slv 0 0 n c) rfl rfl rfl ?_
  refine r_len (p := slv 0 0 n c) (v := .int .i64 (n : Nat)) rfl rfl rfl rfl ?_
  by_cases h2 : (i : Nat) < (n : Nat)
  refine r_bin (v := .bool true) (vx := .int .i64 (i : Nat)) (vy := .int .i64 (n : Nat)) rfl rfl rfl rfl (lss_t (by omega)) ?_
  refine r_doneN (x_then (c_true rfl (c_skip (x_then (c_seq (c_block (c_seq (c_reg ?_))))))))
  refine r_move (v := slv 0 0 n c) rfl rfl rfl ?_
  refine r_move (v := .int .i64 (i : Nat)) rfl rfl rfl ?_
  refine r_idxS (b := 0) (o := 0) (j := i * 110) (m := n) (c := c) (sz := 110) (i := (i : Nat)) (k := .i64) rfl rfl rfl rfl rfl (by omega) (by omega) (by omega) ?_
  refine r_fieldAddr (b := 0) (o := i * 110) (n := 1) (o' := i * 110 + 1) rfl rfl rfl rfl (by omega) ?_
  refine r_fieldAddr (b := 0) (o := i * 110 + 1) (n := 3) (o' := i * 110 + 4) rfl rfl rfl rfl (by omega) ?_
  refine r_load (p := pt 0 (i * 110 + 4)) (v := .string (((l.getD i default).entry).text)) rfl rfl rfl (load_fld1 cItem (l := l) (i := i) (k := 4) (m := 110) rfl rfl rfl rfl (by have := hn; omega) (by omega) (by kernel_rfl) rfl) ?_
  refine r_len (p := .string (((l.getD i default).entry).text)) (v := .int .i64 ((((((l.getD i default).entry).text).size) : Nat) : Int)) rfl rfl rfl rfl ?_
  by_cases h3 : 1000 < ((((((l.getD i default).entry).text).size) : Nat) : Int)
  refine r_bin (v := .bool true) (vx := .int .i64 ((((((l.getD i default).entry).text).size) : Nat) : Int)) (vy := .int .i64 1000) rfl rfl rfl rfl (gtr_t (by omega)) ?_
  refine r_doneN (x_then (c_true rfl (c_seq (c_reg ?_))))
  refine r_assign (v := .bool true) rfl rfl rfl ?_
  refine r_doneN (x_then (c_ret (x_blockR (x_thenR (x_leaveR (x_blockR (x_thenR (x_end ?_))))))))
  rw [show bigB l = true from by unfold bigB; first | (rw [decide_eq_true (by omega : 60 < l.length)]; rfl) | (rw [any_hit hR (by omega) (decide_eq_true (by omega)), Bool.or_true])]
  exact end_same (v := .bool true) rfl rfl rfl (by kernel_rfl) rfl
  refine r_bin (v := .bool false) (vx := .int .i64 ((((((l.getD i default).entry).text).size) : Nat) : Int)) (vy := .int .i64 1000) rfl rfl rfl rfl (gtr_f (by omega)) ?_
  refine r_doneN (x_then (c_false rfl (c_skip (x_blockN (x_then (c_reg ?_))))))
  refine r_move (v := .int .i64 (i : Nat)) rfl rfl rfl ?_
  refine r_bin (v := .int .i64 ((i : Nat) + 1)) (vx := .int .i64 (i : Nat)) (vy := .int .i64 1) rfl rfl rfl rfl (bin_add (by omega) (by omega) (by omega)) ?_
  refine r_assign (v := .int .i64 ((i : Nat) + 1)) rfl rfl rfl ?_
  refine r_doneN ?_
  refine x_round ⟨(i + 1), ⟨any_step hR (by omega) (decide_eq_false (by omega)), by omega⟩, by show n - (i + 1) < n - i; omega, ?_⟩
  refine weak_to (n := 1) rfl ?_ (by kernel_rfl) (by kernel_rfl)
  repeat (first | exact trivial | refine ⟨.inl rfl, ?_⟩ | refine ⟨.inr ⟨rfl, rfl⟩, ?_⟩ | refine ⟨.inr ⟨congrArg (Value.int .i64) (by first | omega | (dsimp only; omega)), rfl⟩, ?_⟩)
  refine r_bin (v := .bool false) (vx := .int .i64 (i : Nat)) (vy := .int .i64 (n : Nat)) rfl rfl rfl rfl (lss_f (by omega)) ?_
  refine r_doneN (x_then (c_false rfl (c_exit (x_thenE (x_leaveE (x_block rfl (x_then (c_seq (c_reg ?_)))))))))
  refine r_assign (v := .bool false) rfl rfl rfl ?_
  refine r_doneN (x_then (c_ret (x_end ?_)))
  rw [show bigB l = false from by unfold bigB; rw [decide_eq_false (by omega : ¬ 60 < l.length), Bool.false_or, ← hR, List.drop_of_length_le (by omega)]; rfl]
  exact end_same (v := .bool false) rfl rfl rfl (by kernel_rfl) rfl
theorem refOwn_ok (l : List Item) (n c : Nat) (hn : l.length = n) (hc : n ≤ c) (hb : n ≤ 1048576) : CallL Tryd.prog G 10 [slv 0 0 n c] [rwR cItem l] (slv 1 0 n n) [rwR cItem l, rwB cItem l] := by
  refine walk (fn := Tryd.f10) (nt := 8) rfl rfl rfl rfl ?_
  refine c_hole 1 (H' := [rwR cItem l, hole]) rfl ?_
  refine c_seq (c_reg ?_)
  refine r_assign (v := .slice none 0 0) rfl rfl rfl ?_
  refine r_doneN (x_then (c_seq (c_reg ?_)))
  refine r_assign (v := .slice none 0 0) rfl rfl rfl ?_
  refine r_doneN (x_then (c_seq ?_))
  refine c_weak (Weak.nilTmp (i := 3) (b := 1) true 110 rfl (by decide) rfl) ?_
  refine c_reg ?_
  refine r_move (v := slv 1 0 0 0) rfl rfl rfl ?_
  refine r_move (v := slv 0 0 n c) rfl rfl rfl ?_
  have hl2 : ([] ++ l).length = n := by have := hn; first | (rw [List.length_append]; omega) | (simp; omega) | simp
  refine r_append (p := slv 1 0 0 0) (q := slv 0 0 n c) (v := slv 1 0 n n) (b := 1) (blk := rwB cItem ([] ++ l)) (H' := [rwR cItem l, rwB cItem ([] ++ l)]) rfl rfl rfl (.inl ⟨_, rfl⟩) rfl rfl (appD_rw cItem (by_ := 216) (k := n) (n' := n) (ms := l) (fun _ => rfl) rfl rfl (srcA_rwW cItem rfl rfl (by have := hn; omega)) rfl rfl rfl (by omega) (by decide) (by omega)) rfl (by kernel_rfl) ?_
  refine r_assign (v := slv 1 0 n n) rfl rfl rfl ?_
  refine r_doneN (x_then (c_seq (c_reg ?_)))
  refine r_move (v := slv 1 0 n n) rfl rfl rfl ?_
  refine r_assign (v := slv 1 0 n n) rfl rfl rfl ?_
  refine r_doneN (x_then (c_ret (x_end ?_)))
  exact end_map [0, 1] (v := slv 1 0 n n) rfl (by kernel_rfl) rfl rfl (by decide) (by simp [keptB, rwB, rwR, cItem]) ⟨rfl, rfl, rfl, by first | omega | exact Nat.le_refl _ | exact Nat.zero_le _ | (dsimp only; omega), by first | omega | exact Nat.le_refl _ | exact Nat.zero_le _ | (dsimp only; omega)⟩
end Go.Flat
