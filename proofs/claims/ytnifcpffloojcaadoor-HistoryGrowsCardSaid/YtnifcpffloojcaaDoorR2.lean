/- Walks and plain laws: what each theorem says, within the bounds that it names. -/
import Derived.Test.YtnifcpffloojcaaDoorR1
set_option linter.unusedVariables false
set_option linter.unusedSimpArgs false
set_option maxRecDepth 20000
namespace Go.Flat
open Go.Proofs
variable {G : Glob}
theorem goodF_last : ∀ (l : List Item) (ep : Int) (x : Item), goodF ep l = true → rightI x → (l = [] → ep ≤ x.epoch) → (l ≠ [] → (l.getD (l.length - 1) default).epoch ≤ x.epoch) → goodF ep (l ++ [x]) = true
  | [], ep, x, _, hx, h0, _ => by
    show (decide (rightI x) && decide (ep ≤ x.epoch) && true) = true
    rw [decide_eq_true hx, decide_eq_true (h0 rfl)]; rfl
  | y :: l, ep, x, h, hx, _, h1 => by
    rw [goodF, Bool.and_eq_true] at h
    show (decide (rightI y) && decide (ep ≤ y.epoch) && goodF y.epoch (l ++ [x])) = true
    rw [h.1, Bool.true_and]
    have h2 := h1 (by simp)
    refine goodF_last l y.epoch x h.2 hx (fun e => ?_) (fun e => ?_)
    · subst e; exact h2
    · have hp : 0 < l.length := by cases l with | nil => exact absurd rfl e | cons => simp
      rw [show (y :: l).length - 1 = (l.length - 1) + 1 from by simp; omega] at h2
      exact h2
theorem mayF_0 {l : List Item} {n : Nat} {x : Item} (h : mayF l n x = 0) : rightL l ∧ rightI x ∧ ¬ (0 < n ∧ x.epoch < (l.getD (n - 1) default).epoch) ∧ n < 2000 ∧ (x.entry.kind = 1 → oldL l x.entry.client x.entry.seq = false) := by
  unfold mayF at h
  split at h
  · omega
  · rename_i h1
    split at h
    · omega
    · rename_i h2
      split at h
      · omega
      · rename_i h3
        have hr : rightL l := Decidable.byContradiction fun q => h1 (.inl q)
        have hx : rightI x := Decidable.byContradiction fun q => h1 (.inr q)
        refine ⟨hr, hx, h2, by omega, fun hk => ?_⟩
        rw [if_neg (fun q => q hk)] at h
        cases ho : oldL l x.entry.client x.entry.seq with
        | false => rfl
        | true => rw [ho] at h; simp at h
theorem acL_congr (kk : Nat → BitVec 32) (l m : List Item) : ∀ k, (∀ j, j < k → l.getD j default = m.getD j default) → acL kk l k = acL kk m k
  | 0, _ => rfl
  | k + 1, h => by rw [acL, acL, acL_congr kk l m k fun j hj => h j (by omega), h k (by omega)]
theorem getD_app (l : List Item) (x : Item) (j : Nat) (h : j < l.length) : (l ++ [x]).getD j default = l.getD j default := by
  rw [List.getD_eq_getElem?_getD, List.getElem?_append_left h, ← List.getD_eq_getElem?_getD]
theorem rightL_app {l : List Item} {x : Item} (h : mayF l l.length x = 0) : rightL (l ++ [x]) := by
  obtain ⟨h1, h2, h3, h4, h5⟩ := mayF_0 h
  refine ⟨by rw [List.length_append]; show l.length + 1 ≤ 2000; omega, goodF_last l 0 x h1.2 h2 (fun _ => by have := h2.1; omega) (fun e => ?_)⟩
  have hp : 0 < l.length := by cases l with | nil => exact absurd rfl e | cons => simp
  exact Int.not_lt.1 fun q => h3 ⟨hp, q⟩
theorem firL_app {kk : Nat → BitVec 32} {l : List Item} {x : Item} {n : Int} (h : rightL (l ++ [x])) (h0 : (firL kk l n).2 = 0) : firL kk (l ++ [x]) n = firL kk l n := by
  unfold firL at h0 ⊢
  split at h0
  · rename_i h1
    split at h0
    · rename_i h2
      rw [if_pos h, if_pos h1, if_pos h2, if_pos ⟨h2.1, by rw [List.length_append]; show n ≤ ((l.length + 1 : Nat) : Int); omega⟩]
      rw [acL_congr kk (l ++ [x]) l n.toNat fun j hj => getD_app l x j (by omega)]
    · exact absurd h0 (by decide)
  · exact absurd h0 (by decide)
theorem grow_facts {kk : Nat → BitVec 32} {l : List Item} {x : Item} {n : Int} (h : mayF l l.length x = 0) :
    chkL l = 0 ∧ chkL (l ++ [x]) = 0 ∧ ((rootH kk l n).2 = 0 → (rootH kk (l ++ [x]) n).2 = 0 ∧ sameB 32 (rootH kk (l ++ [x]) n).1 (rootH kk l n).1 = true) ∧
    (x.entry.kind = 1 → (findL (l ++ [x]) x.entry.client x.entry.seq).1 = (l.length : Int) ∧ (findL (l ++ [x]) x.entry.client x.entry.seq).2 = true ∧ mayF (l ++ [x]) (l.length + 1) x ≠ 0) := by
  have ha := rightL_app h
  obtain ⟨h1, h2, h3, h4, h5⟩ := mayF_0 h
  have hx : (l ++ [x]).getD l.length default = x := by
    rw [List.getD_eq_getElem?_getD, List.getElem?_append_right (Nat.le_refl _), Nat.sub_self]; rfl
  have hlen : (l ++ [x]).length = l.length + 1 := by rw [List.length_append]; rfl
  refine ⟨if_pos h1, if_pos ha, fun hz => ?_, fun hk => ?_⟩
  · have e : rootH kk (l ++ [x]) n = rootH kk l n := by
      have hf : (firL kk l n).2 = 0 := by
        refine Decidable.byContradiction fun q => ?_
        rw [show rootH kk l n = (dz, (firL kk l n).2) from if_neg q] at hz; exact q hz
      unfold rootH
      rw [firL_app ha hf]
    rw [e]; exact ⟨hz, sameB_refl 32 _⟩
  · have ho := h5 hk
    have hf : findL (l ++ [x]) x.entry.client x.entry.seq = ((l.length : Int), true) := by
      refine findF_yes (findF_skip l.length (by omega) fun j hj q => ?_) (by omega) (by rw [hx]; exact ⟨hk, rfl, rfl⟩)
      rw [getD_app l x j hj] at q
      have : oldL l x.entry.client x.entry.seq = true := any_idx.2 ⟨j, hj, decide_eq_true ⟨q.1, q.2.1, by rw [q.2.2]; exact Int.le_refl _⟩⟩
      rw [ho] at this; cases this
    rw [hf]
    refine ⟨rfl, rfl, fun hm => ?_⟩
    rw [← hlen] at hm
    have ho2 := (mayF_0 hm).2.2.2.2 hk
    have : oldL (l ++ [x]) x.entry.client x.entry.seq = true := any_idx.2 ⟨l.length, by omega, by rw [hx]; exact decide_eq_true ⟨hk, rfl, Int.le_refl _⟩⟩
    rw [ho2] at this; cases this
theorem HistoryGrows_ok (kk : Nat → BitVec 32) (hG : G 3 = some (rowE w32 64 kk)) (hG1 : G 1 = some (rowE u8N 64 dbF)) (l : List Item) (c : Nat) (hl : l.length ≤ c) (hcc : c ≤ 9223372036854775807) (x : Item) (n : Int) : CallL Tryd.prog G 7 [slv 0 0 l.length c, itemV x, .int .i64 n] [rwR cItem l] (.bool true) [rwR cItem l] := by
  refine walk (fn := Tryd.f7) (nt := 108) rfl rfl rfl rfl ?_
  refine c_hole 5 (H' := [rwR cItem l, hole, hole, hole, hole, hole]) rfl ?_
  refine c_seq (c_reg ?_)
  refine r_box (v := itemV x) (b := bxB 110 (itemC x)) (nid := 1) (H' := [rwR cItem l, bxB 110 (itemC x), hole, hole, hole, hole]) rfl rfl rfl (by kernel_rfl) (by kernel_rfl) ?_
  refine r_assign (v := .bool false) rfl rfl rfl ?_
  refine r_doneN (x_then (c_seq (c_seq (c_reg ?_))))
  refine r_move (v := slv 0 0 l.length c) rfl rfl rfl ?_
  refine r_callN (e := [some (0, 0)]) (nid := 0) (refBig_ok (G := G) l l.length c rfl (by omega) (by omega)) (vals := [slv 0 0 l.length c]) (v := .bool (bigB l)) (H' := [rwR cItem l, bxB 110 (itemC x), hole, hole, hole, hole]) rfl rfl rfl rfl rfl rfl rfl ⟨⟨⟨rfl, rfl, rfl, by first | omega | exact Nat.le_refl _, by first | omega | exact Nat.le_refl _⟩, trivial⟩, ⟨(emb_rwR rfl), trivial⟩, rfl, rfl, rfl⟩ rfl (by kernel_rfl) ?_
  refine r_move (v := .bool (bigB l)) rfl rfl rfl ?_
  rcases Bool.eq_false_or_eq_true (bigB l) with h1 | h1
  refine r_skip (by exact congrArg (fun b => some (b == false)) h1) rfl ?_
  refine r_skip (by exact congrArg (fun b => some (b == false)) h1) rfl ?_
  refine r_skip (by exact congrArg (fun b => some (b == false)) h1) rfl ?_
  refine r_skip (by exact congrArg (fun b => some (b == false)) h1) rfl ?_
  refine r_skip (by exact congrArg (fun b => some (b == false)) h1) rfl ?_
  refine r_pick (v := .bool true) rfl rfl (by show some (if _ then _ else _) = _; rw [h1] <;> rfl) ?_
  refine r_doneN (x_then ?_)
  refine c_true rfl ?_
  refine c_seq (c_reg ?_)
  refine r_assign (v := .bool true) rfl rfl rfl ?_
  refine r_doneN (x_then (c_ret (x_thenR (x_end ?_))))
  exact end_map [0] (v := .bool true) rfl (by kernel_rfl) rfl rfl (by decide) (by simp [keptB, rwR, cItem]) rfl
  refine r_fieldAddr (b := 1) (o := 0) (n := 1) (o' := 1) (by exact congrArg (fun b => some (b == false)) h1) rfl rfl rfl rfl ?_
  refine r_fieldAddr (b := 1) (o := 1) (n := 3) (o' := 4) (by exact congrArg (fun b => some (b == false)) h1) rfl rfl rfl rfl ?_
  refine r_load (p := pt 1 4) (v := .string x.entry.text) (by exact congrArg (fun b => some (b == false)) h1) rfl rfl (by kernel_rfl) ?_
  refine r_len (p := .string x.entry.text) (v := .int .i64 (x.entry.text.size : Nat)) (by exact congrArg (fun b => some (b == false)) h1) rfl rfl rfl ?_
  by_cases h2 : 1000 < (x.entry.text.size : Nat)
  refine r_bin (v := .bool true) (vx := .int .i64 (x.entry.text.size : Nat)) (vy := .int .i64 1000) (by exact congrArg (fun b => some (b == false)) h1) rfl rfl rfl (gtr_t (by omega)) ?_
  refine r_pick (v := .bool true) rfl rfl (by show some (if _ then _ else _) = _; rw [h1] <;> rfl) ?_
  refine r_doneN (x_then ?_)
  refine c_true rfl ?_
  refine c_seq (c_reg ?_)
  refine r_assign (v := .bool true) rfl rfl rfl ?_
  refine r_doneN (x_then (c_ret (x_thenR (x_end ?_))))
  exact end_map [0] (v := .bool true) rfl (by kernel_rfl) rfl rfl (by decide) (by simp [keptB, rwR, cItem]) rfl
  refine r_bin (v := .bool false) (vx := .int .i64 (x.entry.text.size : Nat)) (vy := .int .i64 1000) (by exact congrArg (fun b => some (b == false)) h1) rfl rfl rfl (gtr_f (by omega)) ?_
  refine r_pick (v := .bool false) rfl rfl (by show some (if _ then _ else _) = _; rw [h1] <;> rfl) ?_
  refine r_doneN (x_then ?_)
  refine c_false rfl ?_
  refine c_skip (x_then (c_seq (c_seq ?_)))
  have hn60 : l.length ≤ 60 := bigB_len (by assumption)
  refine c_reg ?_
  refine r_move (v := slv 0 0 l.length c) rfl rfl rfl ?_
  refine r_load (p := pt 1 0) (v := itemV x) rfl rfl rfl (by kernel_rfl) ?_
  refine r_callN (e := [some (0, 0)]) (nid := 0) (May_ok (G := G) l l.length c rfl (by omega) (by omega) x) (vals := [slv 0 0 l.length c, itemV x]) (v := .int .i64 ((mayF l l.length x))) (H' := [rwR cItem l, bxB 110 (itemC x), hole, hole, hole, hole]) rfl rfl rfl rfl rfl rfl rfl ⟨⟨⟨rfl, rfl, rfl, by first | omega | exact Nat.le_refl _, by first | omega | exact Nat.le_refl _⟩, rfl, trivial⟩, ⟨(emb_rwR rfl), trivial⟩, rfl, rfl, rfl⟩ rfl (by kernel_rfl) ?_
  by_cases h3 : ((mayF l l.length x)) ≠ 0
  refine r_bin (v := .bool true) (vx := .int .i64 ((mayF l l.length x))) (vy := .int .i64 0) rfl rfl rfl rfl (neq_t (by omega)) ?_
  refine r_doneN (x_then ?_)
  refine c_true rfl ?_
  refine c_seq (c_reg ?_)
  refine r_callP (finds_ok (G := G)) (vals := []) (res' := .bool true) rfl rfl rfl rfl rfl rfl ?_
  refine r_move (v := .bool true) rfl rfl rfl ?_
  refine r_callP (roots_ok (G := G) kk hG hG1) (vals := []) (res' := .bool true) rfl rfl rfl rfl rfl rfl ?_
  refine r_pick (v := .bool true) rfl rfl rfl ?_
  refine r_assign (v := .bool true) rfl rfl rfl ?_
  refine r_doneN (x_then (c_ret (x_thenR (x_end ?_))))
  exact end_map [0] (v := .bool true) rfl (by kernel_rfl) rfl rfl (by decide) (by simp [keptB, rwR, cItem]) rfl
  refine r_bin (v := .bool false) (vx := .int .i64 ((mayF l l.length x))) (vy := .int .i64 0) rfl rfl rfl rfl (neq_f (by omega)) ?_
  refine r_doneN (x_then ?_)
  refine c_false rfl ?_
  refine c_skip (x_then (c_seq (c_reg ?_)))
  refine r_move (v := slv 0 0 l.length c) rfl rfl rfl ?_
  refine r_callN (e := [some (0, 0)]) (nid := 2) (refOwn_ok (G := G) l l.length c rfl (by omega) (by omega)) (vals := [slv 0 0 l.length c]) (v := slv 2 0 l.length l.length) (H' := [rwR cItem l, bxB 110 (itemC x), rwB cItem l, hole, hole, hole]) rfl rfl rfl rfl rfl rfl rfl ⟨⟨⟨rfl, rfl, rfl, by first | omega | exact Nat.le_refl _, by first | omega | exact Nat.le_refl _⟩, trivial⟩, ⟨(emb_rwR rfl), trivial⟩, rfl, rfl, rfl⟩ (by kernel_rfl) (by kernel_rfl) ?_
  refine r_assign (v := slv 2 0 l.length l.length) rfl rfl rfl ?_
  refine r_doneN (x_then (c_seq (c_reg ?_)))
  refine r_move (v := slv 2 0 l.length l.length) rfl rfl rfl ?_
  refine r_load (p := pt 1 0) (v := itemV x) rfl rfl rfl (by kernel_rfl) ?_
  refine r_lit (vs := [(0, itemV x)]) (v := slv 3 0 1 1) (blk := rwB cItem [x]) (nid := 3) (H' := [rwR cItem l, bxB 110 (itemC x), rwB cItem l, rwB cItem [x], hole, hole]) rfl rfl rfl (by kernel_rfl) (by kernel_rfl) ?_
  have hl4 : (l ++ [x]).length = l.length + 1 := by have := (rfl : _ = 1); first | (rw [List.length_append]; omega) | (simp; omega) | simp
  refine r_append (p := slv 2 0 l.length l.length) (q := slv 3 0 1 1) (v := slv 2 0 ((l ++ [x]).length) ((l ++ [x]).length)) (b := 2) (blk := rwB cItem (l ++ [x])) (H' := [rwR cItem l, bxB 110 (itemC x), rwB cItem (l ++ [x]), rwB cItem [x], hole, hole]) rfl rfl rfl (.inl ⟨_, rfl⟩) rfl rfl (appD_rw cItem (by_ := 216) (k := 1) (n' := ((l ++ [x]).length)) (ms := [x]) (fun _ => rfl) rfl rfl (by kernel_rfl) rfl rfl (by omega) (by omega) (by decide) (by omega)) rfl (by kernel_rfl) ?_
  refine r_assign (v := slv 2 0 ((l ++ [x]).length) ((l ++ [x]).length)) rfl rfl rfl ?_
  refine r_doneN (x_then (c_seq (c_reg ?_)))
  refine r_move (v := slv 0 0 l.length c) rfl rfl rfl ?_
  refine r_move (v := .int .i64 n) rfl rfl rfl ?_
  refine r_callN (e := [some (0, 0)]) (nid := 0) (HRoot_ok (G := G) kk hG hG1 l l.length c rfl (by omega) (by omega) n) (vals := [slv 0 0 l.length c, .int .i64 n]) (v := .tuple #[dgV ((rootH kk l n).1), .int .i64 (((rootH kk l n).2))]) (H' := [rwR cItem l, bxB 110 (itemC x), rwB cItem (l ++ [x]), rwB cItem [x], hole, hole]) rfl rfl rfl rfl rfl rfl rfl ⟨⟨⟨rfl, rfl, rfl, by first | omega | exact Nat.le_refl _, by first | omega | exact Nat.le_refl _⟩, rfl, trivial⟩, ⟨(emb_rwR rfl), trivial⟩, rfl, rfl, rfl⟩ (by kernel_rfl) (by kernel_rfl) ?_
  refine r_move (v := .tuple #[dgV ((rootH kk l n).1), .int .i64 (((rootH kk l n).2))]) rfl rfl rfl ?_
  refine r_extract (vs := #[dgV ((rootH kk l n).1), .int .i64 (((rootH kk l n).2))]) (v := dgV ((rootH kk l n).1)) rfl rfl rfl rfl ?_
  refine r_extract (vs := #[dgV ((rootH kk l n).1), .int .i64 (((rootH kk l n).2))]) (v := .int .i64 (((rootH kk l n).2))) rfl rfl rfl rfl ?_
  refine r_alloc (b := dgB dz) (nid := 4) (H' := [rwR cItem l, bxB 110 (itemC x), rwB cItem (l ++ [x]), rwB cItem [x], dgB dz, hole]) rfl rfl (by kernel_rfl) (by kernel_rfl) ?_
  refine r_store (p := pt 4 0) (v := dgV ((rootH kk l n).1)) (b := 4) (blk := dgB ((rootH kk l n).1)) (H' := [rwR cItem l, bxB 110 (itemC x), rwB cItem (l ++ [x]), rwB cItem [x], dgB ((rootH kk l n).1), hole]) rfl rfl rfl (by kernel_rfl) (by kernel_rfl) ?_
  refine r_assign (v := .int .i64 (((rootH kk l n).2))) rfl rfl rfl ?_
  refine r_doneN (x_then (c_seq (c_reg ?_)))
  refine r_move (v := slv 2 0 ((l ++ [x]).length) ((l ++ [x]).length)) rfl rfl rfl ?_
  refine r_move (v := .int .i64 n) rfl rfl rfl ?_
  refine r_callN (e := [some (2, 0)]) (nid := 0) (HRoot_ok (G := G) kk hG hG1 (l ++ [x]) ((l ++ [x]).length) ((l ++ [x]).length) rfl (by omega) (by omega) n) (vals := [slv 2 0 ((l ++ [x]).length) ((l ++ [x]).length), .int .i64 n]) (v := .tuple #[dgV ((rootH kk (l ++ [x]) n).1), .int .i64 (((rootH kk (l ++ [x]) n).2))]) (H' := [rwR cItem l, bxB 110 (itemC x), rwB cItem (l ++ [x]), rwB cItem [x], dgB ((rootH kk l n).1), hole]) rfl rfl rfl rfl rfl rfl rfl ⟨⟨⟨rfl, rfl, rfl, by first | omega | exact Nat.le_refl _, by first | omega | exact Nat.le_refl _⟩, rfl, trivial⟩, ⟨(emb_rwB rfl), trivial⟩, rfl, rfl, rfl⟩ (by kernel_rfl) (by kernel_rfl) ?_
  refine r_move (v := .tuple #[dgV ((rootH kk (l ++ [x]) n).1), .int .i64 (((rootH kk (l ++ [x]) n).2))]) rfl rfl rfl ?_
  refine r_extract (vs := #[dgV ((rootH kk (l ++ [x]) n).1), .int .i64 (((rootH kk (l ++ [x]) n).2))]) (v := dgV ((rootH kk (l ++ [x]) n).1)) rfl rfl rfl rfl ?_
  refine r_extract (vs := #[dgV ((rootH kk (l ++ [x]) n).1), .int .i64 (((rootH kk (l ++ [x]) n).2))]) (v := .int .i64 (((rootH kk (l ++ [x]) n).2))) rfl rfl rfl rfl ?_
  refine r_alloc (b := dgB dz) (nid := 5) (H' := [rwR cItem l, bxB 110 (itemC x), rwB cItem (l ++ [x]), rwB cItem [x], dgB ((rootH kk l n).1), dgB dz]) rfl rfl (by kernel_rfl) (by kernel_rfl) ?_
  refine r_store (p := pt 5 0) (v := dgV ((rootH kk (l ++ [x]) n).1)) (b := 5) (blk := dgB ((rootH kk (l ++ [x]) n).1)) (H' := [rwR cItem l, bxB 110 (itemC x), rwB cItem (l ++ [x]), rwB cItem [x], dgB ((rootH kk l n).1), dgB ((rootH kk (l ++ [x]) n).1)]) rfl rfl rfl (by kernel_rfl) (by kernel_rfl) ?_
  refine r_assign (v := .int .i64 (((rootH kk (l ++ [x]) n).2))) rfl rfl rfl ?_
  refine r_doneN (x_then (c_seq (c_seq (c_reg ?_))))
  refine r_move (v := slv 0 0 l.length c) rfl rfl rfl ?_
  refine r_callN (e := [some (0, 0)]) (nid := 0) (LCheck_ok (G := G) l l.length c rfl (by omega) (by omega)) (vals := [slv 0 0 l.length c]) (v := .int .i64 ((chkL l))) (H' := [rwR cItem l, bxB 110 (itemC x), rwB cItem (l ++ [x]), rwB cItem [x], dgB ((rootH kk l n).1), dgB ((rootH kk (l ++ [x]) n).1)]) rfl rfl rfl rfl rfl rfl rfl ⟨⟨⟨rfl, rfl, rfl, by first | omega | exact Nat.le_refl _, by first | omega | exact Nat.le_refl _⟩, trivial⟩, ⟨(emb_rwR rfl), trivial⟩, rfl, rfl, rfl⟩ rfl (by kernel_rfl) ?_
  by_cases h4 : ((chkL l)) ≠ 0
  refine r_bin (v := .bool true) (vx := .int .i64 ((chkL l))) (vy := .int .i64 0) rfl rfl rfl rfl (neq_t (by omega)) ?_
  refine r_move (v := .bool true) rfl rfl rfl ?_
  refine r_skip rfl rfl ?_
  refine r_skip rfl rfl ?_
  refine r_skip rfl rfl ?_
  refine r_pick (v := .bool true) rfl rfl rfl ?_
  refine r_move (v := .bool true) rfl rfl rfl ?_
  refine r_skip rfl rfl ?_
  refine r_skip rfl rfl ?_
  refine r_skip rfl rfl ?_
  refine r_skip rfl rfl ?_
  refine r_skip rfl rfl ?_
  refine r_skip rfl rfl ?_
  refine r_skip rfl rfl ?_
  refine r_skip rfl rfl ?_
  refine r_skip rfl rfl ?_
  refine r_skip rfl rfl ?_
  refine r_skip rfl rfl ?_
  refine r_pick (v := .bool true) rfl rfl rfl ?_
  refine r_doneN (x_then ?_)
  refine c_true rfl ?_
  refine c_seq (c_reg ?_)
  refine r_assign (v := .bool false) rfl rfl rfl ?_
  refine r_doneN (x_then (c_ret (x_thenR (x_end ?_))))
  exfalso
  obtain ⟨g1, g2, g3, g4⟩ := grow_facts (kk := kk) (l := l) (x := x) (n := n) (by omega)
  · by_cases q0 : (rootH kk l n).2 = 0 <;> by_cases q1 : x.entry.kind = 1 <;> first | omega | (simp_all; done) | (simp_all; omega)
  refine r_bin (v := .bool false) (vx := .int .i64 ((chkL l))) (vy := .int .i64 0) rfl rfl rfl rfl (neq_f (by omega)) ?_
  refine r_move (v := .bool false) rfl rfl rfl ?_
  refine r_move (v := slv 2 0 ((l ++ [x]).length) ((l ++ [x]).length)) rfl rfl rfl ?_
  refine r_callN (e := [some (2, 0)]) (nid := 0) (LCheck_ok (G := G) (l ++ [x]) ((l ++ [x]).length) ((l ++ [x]).length) rfl (by omega) (by omega)) (vals := [slv 2 0 ((l ++ [x]).length) ((l ++ [x]).length)]) (v := .int .i64 ((chkL (l ++ [x])))) (H' := [rwR cItem l, bxB 110 (itemC x), rwB cItem (l ++ [x]), rwB cItem [x], dgB ((rootH kk l n).1), dgB ((rootH kk (l ++ [x]) n).1)]) rfl rfl rfl rfl rfl rfl rfl ⟨⟨⟨rfl, rfl, rfl, by first | omega | exact Nat.le_refl _, by first | omega | exact Nat.le_refl _⟩, trivial⟩, ⟨(emb_rwB rfl), trivial⟩, rfl, rfl, rfl⟩ rfl (by kernel_rfl) ?_
  by_cases h5 : ((chkL (l ++ [x]))) ≠ 0
  refine r_bin (v := .bool true) (vx := .int .i64 ((chkL (l ++ [x])))) (vy := .int .i64 0) rfl rfl rfl rfl (neq_t (by omega)) ?_
  refine r_pick (v := .bool true) rfl rfl rfl ?_
  refine r_move (v := .bool true) rfl rfl rfl ?_
  refine r_skip rfl rfl ?_
  refine r_skip rfl rfl ?_
  refine r_skip rfl rfl ?_
  refine r_skip rfl rfl ?_
  refine r_skip rfl rfl ?_
  refine r_skip rfl rfl ?_
  refine r_skip rfl rfl ?_
  refine r_skip rfl rfl ?_
  refine r_skip rfl rfl ?_
  refine r_skip rfl rfl ?_
  refine r_skip rfl rfl ?_
  refine r_pick (v := .bool true) rfl rfl rfl ?_
  refine r_doneN (x_then ?_)
  refine c_true rfl ?_
  refine c_seq (c_reg ?_)
  refine r_assign (v := .bool false) rfl rfl rfl ?_
  refine r_doneN (x_then (c_ret (x_thenR (x_end ?_))))
  exfalso
  obtain ⟨g1, g2, g3, g4⟩ := grow_facts (kk := kk) (l := l) (x := x) (n := n) (by omega)
  · by_cases q0 : (rootH kk l n).2 = 0 <;> by_cases q1 : x.entry.kind = 1 <;> first | omega | (simp_all; done) | (simp_all; omega)
  refine r_bin (v := .bool false) (vx := .int .i64 ((chkL (l ++ [x])))) (vy := .int .i64 0) rfl rfl rfl rfl (neq_f (by omega)) ?_
  refine r_pick (v := .bool false) rfl rfl rfl ?_
  refine r_move (v := .bool false) rfl rfl rfl ?_
  refine r_move (v := .int .i64 (((rootH kk l n).2))) rfl rfl rfl ?_
  by_cases h6 : (((rootH kk l n).2)) = 0
  refine r_bin (v := .bool true) (vx := .int .i64 (((rootH kk l n).2))) (vy := .int .i64 0) rfl rfl rfl rfl (eql_t (by omega)) ?_
  refine r_move (v := .bool true) rfl rfl rfl ?_
  refine r_move (v := .int .i64 (((rootH kk (l ++ [x]) n).2))) rfl rfl rfl ?_
  by_cases h7 : (((rootH kk (l ++ [x]) n).2)) ≠ 0
  refine r_bin (v := .bool true) (vx := .int .i64 (((rootH kk (l ++ [x]) n).2))) (vy := .int .i64 0) rfl rfl rfl rfl (neq_t (by omega)) ?_
  refine r_move (v := .bool true) rfl rfl rfl ?_
  refine r_skip rfl rfl ?_
  refine r_skip rfl rfl ?_
  refine r_skip rfl rfl ?_
  refine r_pick (v := .bool true) rfl rfl rfl ?_
  refine r_pick (v := .bool true) rfl rfl rfl ?_
  refine r_pick (v := .bool true) rfl rfl rfl ?_
  refine r_doneN (x_then ?_)
  refine c_true rfl ?_
  refine c_seq (c_reg ?_)
  refine r_assign (v := .bool false) rfl rfl rfl ?_
  refine r_doneN (x_then (c_ret (x_thenR (x_end ?_))))
  exfalso
  obtain ⟨g1, g2, g3, g4⟩ := grow_facts (kk := kk) (l := l) (x := x) (n := n) (by omega)
  · by_cases q0 : (rootH kk l n).2 = 0 <;> by_cases q1 : x.entry.kind = 1 <;> first | omega | (simp_all; done) | (simp_all; omega)
  refine r_bin (v := .bool false) (vx := .int .i64 (((rootH kk (l ++ [x]) n).2))) (vy := .int .i64 0) rfl rfl rfl rfl (neq_f (by omega)) ?_
  refine r_move (v := .bool false) rfl rfl rfl ?_
  refine r_load (p := pt 5 0) (v := dgV ((rootH kk (l ++ [x]) n).1)) rfl rfl rfl (by kernel_rfl) ?_
  refine r_load (p := pt 4 0) (v := dgV ((rootH kk l n).1)) rfl rfl rfl (by kernel_rfl) ?_
  rcases Bool.eq_false_or_eq_true (sameB 32 ((rootH kk (l ++ [x]) n).1) ((rootH kk l n).1)) with h8 | h8
  refine r_bin (v := .bool false) (vx := dgV ((rootH kk (l ++ [x]) n).1)) (vy := dgV ((rootH kk l n).1)) rfl rfl rfl rfl (Eq.trans (neq_dg (n := 32) (a := (rootH kk (l ++ [x]) n).1) (b := (rootH kk l n).1) (by kernel_rfl) rfl rfl rfl) (by rw [h8] <;> rfl)) ?_
  refine r_pick (v := .bool false) rfl rfl rfl ?_
  refine r_pick (v := .bool false) rfl rfl rfl ?_
  refine r_pick (v := .bool false) rfl rfl rfl ?_
  refine r_doneN (x_then ?_)
  refine c_false rfl ?_
  refine c_skip (x_then (c_seq (c_seq (c_reg ?_))))
  refine r_fieldAddr (b := 1) (o := 0) (n := 1) (o' := 1) rfl rfl rfl rfl rfl ?_
  refine r_fieldAddr (b := 1) (o := 1) (n := 0) (o' := 1) rfl rfl rfl rfl rfl ?_
  refine r_load (p := pt 1 1) (v := .int .i64 x.entry.kind) rfl rfl rfl (by kernel_rfl) ?_
  by_cases h9 : x.entry.kind ≠ 1
  refine r_bin (v := .bool true) (vx := .int .i64 x.entry.kind) (vy := .int .i64 1) rfl rfl rfl rfl (neq_t (by omega)) ?_
  refine r_doneN (x_then ?_)
  refine c_true rfl ?_
  refine c_seq (c_reg ?_)
  refine r_callP (finds_ok (G := G)) (vals := []) (res' := .bool true) rfl rfl rfl rfl rfl rfl ?_
  refine r_move (v := .bool true) rfl rfl rfl ?_
  refine r_callP (roots_ok (G := G) kk hG hG1) (vals := []) (res' := .bool true) rfl rfl rfl rfl rfl rfl ?_
  refine r_pick (v := .bool true) rfl rfl rfl ?_
  refine r_assign (v := .bool true) rfl rfl rfl ?_
  refine r_doneN (x_then (c_ret (x_thenR (x_end ?_))))
  exact end_map [0] (v := .bool true) rfl (by kernel_rfl) rfl rfl (by decide) (by simp [keptB, rwR, cItem]) rfl
  refine r_bin (v := .bool false) (vx := .int .i64 x.entry.kind) (vy := .int .i64 1) rfl rfl rfl rfl (neq_f (by omega)) ?_
  refine r_doneN (x_then ?_)
  refine c_false rfl ?_
  refine c_skip (x_then (c_seq (c_reg ?_)))
  refine r_move (v := slv 2 0 ((l ++ [x]).length) ((l ++ [x]).length)) rfl rfl rfl ?_
  refine r_fieldAddr (b := 1) (o := 0) (n := 1) (o' := 1) rfl rfl rfl rfl rfl ?_
  refine r_fieldAddr (b := 1) (o := 1) (n := 1) (o' := 2) rfl rfl rfl rfl rfl ?_
  refine r_load (p := pt 1 2) (v := .int .i64 x.entry.client) rfl rfl rfl (by kernel_rfl) ?_
  refine r_fieldAddr (b := 1) (o := 0) (n := 1) (o' := 1) rfl rfl rfl rfl rfl ?_
  refine r_fieldAddr (b := 1) (o := 1) (n := 2) (o' := 3) rfl rfl rfl rfl rfl ?_
  refine r_load (p := pt 1 3) (v := .int .i64 x.entry.seq) rfl rfl rfl (by kernel_rfl) ?_
  refine r_callN (e := [some (2, 0)]) (nid := 0) (Find_ok (G := G) (l ++ [x]) ((l ++ [x]).length) ((l ++ [x]).length) rfl (by omega) (by omega) x.entry.client x.entry.seq) (vals := [slv 2 0 ((l ++ [x]).length) ((l ++ [x]).length), .int .i64 x.entry.client, .int .i64 x.entry.seq]) (v := .tuple #[.int .i64 (((findL (l ++ [x]) x.entry.client x.entry.seq).1)), .bool ((findL (l ++ [x]) x.entry.client x.entry.seq).2)]) (H' := [rwR cItem l, bxB 110 (itemC x), rwB cItem (l ++ [x]), rwB cItem [x], dgB ((rootH kk l n).1), dgB ((rootH kk (l ++ [x]) n).1)]) rfl rfl rfl rfl rfl rfl rfl ⟨⟨⟨rfl, rfl, rfl, by first | omega | exact Nat.le_refl _, by first | omega | exact Nat.le_refl _⟩, rfl, rfl, trivial⟩, ⟨(emb_rwB rfl), trivial⟩, rfl, rfl, rfl⟩ (by kernel_rfl) (by kernel_rfl) ?_
  refine r_move (v := .tuple #[.int .i64 (((findL (l ++ [x]) x.entry.client x.entry.seq).1)), .bool ((findL (l ++ [x]) x.entry.client x.entry.seq).2)]) rfl rfl rfl ?_
  refine r_extract (vs := #[.int .i64 (((findL (l ++ [x]) x.entry.client x.entry.seq).1)), .bool ((findL (l ++ [x]) x.entry.client x.entry.seq).2)]) (v := .int .i64 (((findL (l ++ [x]) x.entry.client x.entry.seq).1))) rfl rfl rfl rfl ?_
  refine r_extract (vs := #[.int .i64 (((findL (l ++ [x]) x.entry.client x.entry.seq).1)), .bool ((findL (l ++ [x]) x.entry.client x.entry.seq).2)]) (v := .bool ((findL (l ++ [x]) x.entry.client x.entry.seq).2)) rfl rfl rfl rfl ?_
  refine r_assign (v := .int .i64 (((findL (l ++ [x]) x.entry.client x.entry.seq).1))) rfl rfl rfl ?_
  refine r_assign (v := .bool ((findL (l ++ [x]) x.entry.client x.entry.seq).2)) rfl rfl rfl ?_
  refine r_doneN (x_then (c_seq (c_reg ?_)))
  refine r_callP (finds_ok (G := G)) (vals := []) (res' := .bool true) rfl rfl rfl rfl rfl rfl ?_
  refine r_move (v := .bool true) rfl rfl rfl ?_
  refine r_callP (roots_ok (G := G) kk hG hG1) (vals := []) (res' := .bool true) rfl rfl rfl rfl rfl rfl ?_
  refine r_pick (v := .bool true) rfl rfl rfl ?_
  refine r_move (v := .bool true) rfl rfl rfl ?_
  refine r_move (v := .bool ((findL (l ++ [x]) x.entry.client x.entry.seq).2)) rfl rfl rfl ?_
  refine r_pick (v := .bool ((findL (l ++ [x]) x.entry.client x.entry.seq).2)) rfl rfl rfl ?_
  refine r_move (v := .bool ((findL (l ++ [x]) x.entry.client x.entry.seq).2)) rfl rfl rfl ?_
  rcases Bool.eq_false_or_eq_true ((findL (l ++ [x]) x.entry.client x.entry.seq).2) with h10 | h10
  refine r_move (v := .int .i64 (((findL (l ++ [x]) x.entry.client x.entry.seq).1))) (by exact congrArg (fun b => some (b == true)) h10) rfl rfl ?_
  refine r_move (v := slv 0 0 l.length c) (by exact congrArg (fun b => some (b == true)) h10) rfl rfl ?_
  refine r_len (p := slv 0 0 l.length c) (v := .int .i64 (l.length : Nat)) (by exact congrArg (fun b => some (b == true)) h10) rfl rfl rfl ?_
  by_cases h11 : (((findL (l ++ [x]) x.entry.client x.entry.seq).1)) = (l.length : Nat)
  refine r_bin (v := .bool true) (vx := .int .i64 (((findL (l ++ [x]) x.entry.client x.entry.seq).1))) (vy := .int .i64 (l.length : Nat)) (by exact congrArg (fun b => some (b == true)) h10) rfl rfl rfl (eql_t (by omega)) ?_
  refine r_pick (v := .bool true) rfl rfl (by show some (if _ then _ else _) = _; rw [h10] <;> rfl) ?_
  refine r_move (v := .bool true) rfl rfl rfl ?_
  refine r_move (v := slv 2 0 ((l ++ [x]).length) ((l ++ [x]).length)) rfl rfl rfl ?_
  refine r_load (p := pt 1 0) (v := itemV x) rfl rfl rfl (by kernel_rfl) ?_
  refine r_callN (e := [some (2, 0)]) (nid := 0) (May_ok (G := G) (l ++ [x]) ((l ++ [x]).length) ((l ++ [x]).length) rfl (by omega) (by omega) x) (vals := [slv 2 0 ((l ++ [x]).length) ((l ++ [x]).length), itemV x]) (v := .int .i64 ((mayF (l ++ [x]) ((l ++ [x]).length) x))) (H' := [rwR cItem l, bxB 110 (itemC x), rwB cItem (l ++ [x]), rwB cItem [x], dgB ((rootH kk l n).1), dgB ((rootH kk (l ++ [x]) n).1)]) rfl rfl rfl rfl rfl rfl rfl ⟨⟨⟨rfl, rfl, rfl, by first | omega | exact Nat.le_refl _, by first | omega | exact Nat.le_refl _⟩, rfl, trivial⟩, ⟨(emb_rwB rfl), trivial⟩, rfl, rfl, rfl⟩ rfl (by kernel_rfl) ?_
  by_cases h12 : ((mayF (l ++ [x]) ((l ++ [x]).length) x)) ≠ 0
  refine r_bin (v := .bool true) (vx := .int .i64 ((mayF (l ++ [x]) ((l ++ [x]).length) x))) (vy := .int .i64 0) rfl rfl rfl rfl (neq_t (by omega)) ?_
  refine r_pick (v := .bool true) rfl rfl rfl ?_
  refine r_assign (v := .bool true) rfl rfl rfl ?_
  refine r_doneN (x_then (c_ret (x_end ?_)))
  exact end_map [0] (v := .bool true) rfl (by kernel_rfl) rfl rfl (by decide) (by simp [keptB, rwR, cItem]) rfl
  refine r_bin (v := .bool false) (vx := .int .i64 ((mayF (l ++ [x]) ((l ++ [x]).length) x))) (vy := .int .i64 0) rfl rfl rfl rfl (neq_f (by omega)) ?_
  refine r_pick (v := .bool false) rfl rfl rfl ?_
  refine r_assign (v := .bool false) rfl rfl rfl ?_
  refine r_doneN (x_then (c_ret (x_end ?_)))
  exfalso
  obtain ⟨g1, g2, g3, g4⟩ := grow_facts (kk := kk) (l := l) (x := x) (n := n) (by omega)
  · by_cases q0 : (rootH kk l n).2 = 0 <;> by_cases q1 : x.entry.kind = 1 <;> first | omega | (simp_all; done) | (simp_all; omega)
  refine r_bin (v := .bool false) (vx := .int .i64 (((findL (l ++ [x]) x.entry.client x.entry.seq).1))) (vy := .int .i64 (l.length : Nat)) (by exact congrArg (fun b => some (b == true)) h10) rfl rfl rfl (eql_f (by omega)) ?_
  refine r_pick (v := .bool false) rfl rfl (by show some (if _ then _ else _) = _; rw [h10] <;> rfl) ?_
  refine r_move (v := .bool false) rfl rfl rfl ?_
  refine r_skip rfl rfl ?_
  refine r_skip rfl rfl ?_
  refine r_skip rfl rfl ?_
  refine r_skip rfl rfl ?_
  refine r_pick (v := .bool false) rfl rfl rfl ?_
  refine r_assign (v := .bool false) rfl rfl rfl ?_
  refine r_doneN (x_then (c_ret (x_end ?_)))
  exfalso
  obtain ⟨g1, g2, g3, g4⟩ := grow_facts (kk := kk) (l := l) (x := x) (n := n) (by omega)
  · by_cases q0 : (rootH kk l n).2 = 0 <;> by_cases q1 : x.entry.kind = 1 <;> first | omega | (simp_all; done) | (simp_all; omega)
  refine r_skip (by exact congrArg (fun b => some (b == true)) h10) rfl ?_
  refine r_skip (by exact congrArg (fun b => some (b == true)) h10) rfl ?_
  refine r_skip (by exact congrArg (fun b => some (b == true)) h10) rfl ?_
  refine r_skip (by exact congrArg (fun b => some (b == true)) h10) rfl ?_
  refine r_pick (v := .bool false) rfl rfl (by show some (if _ then _ else _) = _; rw [h10] <;> rfl) ?_
  refine r_move (v := .bool false) rfl rfl rfl ?_
  refine r_skip rfl rfl ?_
  refine r_skip rfl rfl ?_
  refine r_skip rfl rfl ?_
  refine r_skip rfl rfl ?_
  refine r_pick (v := .bool false) rfl rfl rfl ?_
  refine r_assign (v := .bool false) rfl rfl rfl ?_
  refine r_doneN (x_then (c_ret (x_end ?_)))
  exfalso
  obtain ⟨g1, g2, g3, g4⟩ := grow_facts (kk := kk) (l := l) (x := x) (n := n) (by omega)
  · by_cases q0 : (rootH kk l n).2 = 0 <;> by_cases q1 : x.entry.kind = 1 <;> first | omega | (simp_all; done) | (simp_all; omega)
  refine r_bin (v := .bool true) (vx := dgV ((rootH kk (l ++ [x]) n).1)) (vy := dgV ((rootH kk l n).1)) rfl rfl rfl rfl (Eq.trans (neq_dg (n := 32) (a := (rootH kk (l ++ [x]) n).1) (b := (rootH kk l n).1) (by kernel_rfl) rfl rfl rfl) (by rw [h8] <;> rfl)) ?_
  refine r_pick (v := .bool true) rfl rfl rfl ?_
  refine r_pick (v := .bool true) rfl rfl rfl ?_
  refine r_pick (v := .bool true) rfl rfl rfl ?_
  refine r_doneN (x_then ?_)
  refine c_true rfl ?_
  refine c_seq (c_reg ?_)
  refine r_assign (v := .bool false) rfl rfl rfl ?_
  refine r_doneN (x_then (c_ret (x_thenR (x_end ?_))))
  exfalso
  obtain ⟨g1, g2, g3, g4⟩ := grow_facts (kk := kk) (l := l) (x := x) (n := n) (by omega)
  · by_cases q0 : (rootH kk l n).2 = 0 <;> by_cases q1 : x.entry.kind = 1 <;> first | omega | (simp_all; done) | (simp_all; omega)
  refine r_bin (v := .bool false) (vx := .int .i64 (((rootH kk l n).2))) (vy := .int .i64 0) rfl rfl rfl rfl (eql_f (by omega)) ?_
  refine r_move (v := .bool false) rfl rfl rfl ?_
  refine r_skip rfl rfl ?_
  refine r_skip rfl rfl ?_
  refine r_skip rfl rfl ?_
  refine r_skip rfl rfl ?_
  refine r_skip rfl rfl ?_
  refine r_skip rfl rfl ?_
  refine r_skip rfl rfl ?_
  refine r_pick (v := .bool false) rfl rfl rfl ?_
  refine r_pick (v := .bool false) rfl rfl rfl ?_
  refine r_doneN (x_then ?_)
  refine c_false rfl ?_
  refine c_skip (x_then (c_seq (c_seq (c_reg ?_))))
  refine r_fieldAddr (b := 1) (o := 0) (n := 1) (o' := 1) rfl rfl rfl rfl rfl ?_
  refine r_fieldAddr (b := 1) (o := 1) (n := 0) (o' := 1) rfl rfl rfl rfl rfl ?_
  refine r_load (p := pt 1 1) (v := .int .i64 x.entry.kind) rfl rfl rfl (by kernel_rfl) ?_
  by_cases h13 : x.entry.kind ≠ 1
  refine r_bin (v := .bool true) (vx := .int .i64 x.entry.kind) (vy := .int .i64 1) rfl rfl rfl rfl (neq_t (by omega)) ?_
  refine r_doneN (x_then ?_)
  refine c_true rfl ?_
  refine c_seq (c_reg ?_)
  refine r_callP (finds_ok (G := G)) (vals := []) (res' := .bool true) rfl rfl rfl rfl rfl rfl ?_
  refine r_move (v := .bool true) rfl rfl rfl ?_
  refine r_callP (roots_ok (G := G) kk hG hG1) (vals := []) (res' := .bool true) rfl rfl rfl rfl rfl rfl ?_
  refine r_pick (v := .bool true) rfl rfl rfl ?_
  refine r_assign (v := .bool true) rfl rfl rfl ?_
  refine r_doneN (x_then (c_ret (x_thenR (x_end ?_))))
  exact end_map [0] (v := .bool true) rfl (by kernel_rfl) rfl rfl (by decide) (by simp [keptB, rwR, cItem]) rfl
  refine r_bin (v := .bool false) (vx := .int .i64 x.entry.kind) (vy := .int .i64 1) rfl rfl rfl rfl (neq_f (by omega)) ?_
  refine r_doneN (x_then ?_)
  refine c_false rfl ?_
  refine c_skip (x_then (c_seq (c_reg ?_)))
  refine r_move (v := slv 2 0 ((l ++ [x]).length) ((l ++ [x]).length)) rfl rfl rfl ?_
  refine r_fieldAddr (b := 1) (o := 0) (n := 1) (o' := 1) rfl rfl rfl rfl rfl ?_
  refine r_fieldAddr (b := 1) (o := 1) (n := 1) (o' := 2) rfl rfl rfl rfl rfl ?_
  refine r_load (p := pt 1 2) (v := .int .i64 x.entry.client) rfl rfl rfl (by kernel_rfl) ?_
  refine r_fieldAddr (b := 1) (o := 0) (n := 1) (o' := 1) rfl rfl rfl rfl rfl ?_
  refine r_fieldAddr (b := 1) (o := 1) (n := 2) (o' := 3) rfl rfl rfl rfl rfl ?_
  refine r_load (p := pt 1 3) (v := .int .i64 x.entry.seq) rfl rfl rfl (by kernel_rfl) ?_
  refine r_callN (e := [some (2, 0)]) (nid := 0) (Find_ok (G := G) (l ++ [x]) ((l ++ [x]).length) ((l ++ [x]).length) rfl (by omega) (by omega) x.entry.client x.entry.seq) (vals := [slv 2 0 ((l ++ [x]).length) ((l ++ [x]).length), .int .i64 x.entry.client, .int .i64 x.entry.seq]) (v := .tuple #[.int .i64 (((findL (l ++ [x]) x.entry.client x.entry.seq).1)), .bool ((findL (l ++ [x]) x.entry.client x.entry.seq).2)]) (H' := [rwR cItem l, bxB 110 (itemC x), rwB cItem (l ++ [x]), rwB cItem [x], dgB ((rootH kk l n).1), dgB ((rootH kk (l ++ [x]) n).1)]) rfl rfl rfl rfl rfl rfl rfl ⟨⟨⟨rfl, rfl, rfl, by first | omega | exact Nat.le_refl _, by first | omega | exact Nat.le_refl _⟩, rfl, rfl, trivial⟩, ⟨(emb_rwB rfl), trivial⟩, rfl, rfl, rfl⟩ (by kernel_rfl) (by kernel_rfl) ?_
  refine r_move (v := .tuple #[.int .i64 (((findL (l ++ [x]) x.entry.client x.entry.seq).1)), .bool ((findL (l ++ [x]) x.entry.client x.entry.seq).2)]) rfl rfl rfl ?_
  refine r_extract (vs := #[.int .i64 (((findL (l ++ [x]) x.entry.client x.entry.seq).1)), .bool ((findL (l ++ [x]) x.entry.client x.entry.seq).2)]) (v := .int .i64 (((findL (l ++ [x]) x.entry.client x.entry.seq).1))) rfl rfl rfl rfl ?_
  refine r_extract (vs := #[.int .i64 (((findL (l ++ [x]) x.entry.client x.entry.seq).1)), .bool ((findL (l ++ [x]) x.entry.client x.entry.seq).2)]) (v := .bool ((findL (l ++ [x]) x.entry.client x.entry.seq).2)) rfl rfl rfl rfl ?_
  refine r_assign (v := .int .i64 (((findL (l ++ [x]) x.entry.client x.entry.seq).1))) rfl rfl rfl ?_
  refine r_assign (v := .bool ((findL (l ++ [x]) x.entry.client x.entry.seq).2)) rfl rfl rfl ?_
  refine r_doneN (x_then (c_seq (c_reg ?_)))
  refine r_callP (finds_ok (G := G)) (vals := []) (res' := .bool true) rfl rfl rfl rfl rfl rfl ?_
  refine r_move (v := .bool true) rfl rfl rfl ?_
  refine r_callP (roots_ok (G := G) kk hG hG1) (vals := []) (res' := .bool true) rfl rfl rfl rfl rfl rfl ?_
  refine r_pick (v := .bool true) rfl rfl rfl ?_
  refine r_move (v := .bool true) rfl rfl rfl ?_
  refine r_move (v := .bool ((findL (l ++ [x]) x.entry.client x.entry.seq).2)) rfl rfl rfl ?_
  refine r_pick (v := .bool ((findL (l ++ [x]) x.entry.client x.entry.seq).2)) rfl rfl rfl ?_
  refine r_move (v := .bool ((findL (l ++ [x]) x.entry.client x.entry.seq).2)) rfl rfl rfl ?_
  rcases Bool.eq_false_or_eq_true ((findL (l ++ [x]) x.entry.client x.entry.seq).2) with h14 | h14
  refine r_move (v := .int .i64 (((findL (l ++ [x]) x.entry.client x.entry.seq).1))) (by exact congrArg (fun b => some (b == true)) h14) rfl rfl ?_
  refine r_move (v := slv 0 0 l.length c) (by exact congrArg (fun b => some (b == true)) h14) rfl rfl ?_
  refine r_len (p := slv 0 0 l.length c) (v := .int .i64 (l.length : Nat)) (by exact congrArg (fun b => some (b == true)) h14) rfl rfl rfl ?_
  by_cases h15 : (((findL (l ++ [x]) x.entry.client x.entry.seq).1)) = (l.length : Nat)
  refine r_bin (v := .bool true) (vx := .int .i64 (((findL (l ++ [x]) x.entry.client x.entry.seq).1))) (vy := .int .i64 (l.length : Nat)) (by exact congrArg (fun b => some (b == true)) h14) rfl rfl rfl (eql_t (by omega)) ?_
  refine r_pick (v := .bool true) rfl rfl (by show some (if _ then _ else _) = _; rw [h14] <;> rfl) ?_
  refine r_move (v := .bool true) rfl rfl rfl ?_
  refine r_move (v := slv 2 0 ((l ++ [x]).length) ((l ++ [x]).length)) rfl rfl rfl ?_
  refine r_load (p := pt 1 0) (v := itemV x) rfl rfl rfl (by kernel_rfl) ?_
  refine r_callN (e := [some (2, 0)]) (nid := 0) (May_ok (G := G) (l ++ [x]) ((l ++ [x]).length) ((l ++ [x]).length) rfl (by omega) (by omega) x) (vals := [slv 2 0 ((l ++ [x]).length) ((l ++ [x]).length), itemV x]) (v := .int .i64 ((mayF (l ++ [x]) ((l ++ [x]).length) x))) (H' := [rwR cItem l, bxB 110 (itemC x), rwB cItem (l ++ [x]), rwB cItem [x], dgB ((rootH kk l n).1), dgB ((rootH kk (l ++ [x]) n).1)]) rfl rfl rfl rfl rfl rfl rfl ⟨⟨⟨rfl, rfl, rfl, by first | omega | exact Nat.le_refl _, by first | omega | exact Nat.le_refl _⟩, rfl, trivial⟩, ⟨(emb_rwB rfl), trivial⟩, rfl, rfl, rfl⟩ rfl (by kernel_rfl) ?_
  by_cases h16 : ((mayF (l ++ [x]) ((l ++ [x]).length) x)) ≠ 0
  refine r_bin (v := .bool true) (vx := .int .i64 ((mayF (l ++ [x]) ((l ++ [x]).length) x))) (vy := .int .i64 0) rfl rfl rfl rfl (neq_t (by omega)) ?_
  refine r_pick (v := .bool true) rfl rfl rfl ?_
  refine r_assign (v := .bool true) rfl rfl rfl ?_
  refine r_doneN (x_then (c_ret (x_end ?_)))
  exact end_map [0] (v := .bool true) rfl (by kernel_rfl) rfl rfl (by decide) (by simp [keptB, rwR, cItem]) rfl
  refine r_bin (v := .bool false) (vx := .int .i64 ((mayF (l ++ [x]) ((l ++ [x]).length) x))) (vy := .int .i64 0) rfl rfl rfl rfl (neq_f (by omega)) ?_
  refine r_pick (v := .bool false) rfl rfl rfl ?_
  refine r_assign (v := .bool false) rfl rfl rfl ?_
  refine r_doneN (x_then (c_ret (x_end ?_)))
  exfalso
  obtain ⟨g1, g2, g3, g4⟩ := grow_facts (kk := kk) (l := l) (x := x) (n := n) (by omega)
  · by_cases q0 : (rootH kk l n).2 = 0 <;> by_cases q1 : x.entry.kind = 1 <;> first | omega | (simp_all; done) | (simp_all; omega)
  refine r_bin (v := .bool false) (vx := .int .i64 (((findL (l ++ [x]) x.entry.client x.entry.seq).1))) (vy := .int .i64 (l.length : Nat)) (by exact congrArg (fun b => some (b == true)) h14) rfl rfl rfl (eql_f (by omega)) ?_
  refine r_pick (v := .bool false) rfl rfl (by show some (if _ then _ else _) = _; rw [h14] <;> rfl) ?_
  refine r_move (v := .bool false) rfl rfl rfl ?_
  refine r_skip rfl rfl ?_
  refine r_skip rfl rfl ?_
  refine r_skip rfl rfl ?_
  refine r_skip rfl rfl ?_
  refine r_pick (v := .bool false) rfl rfl rfl ?_
  refine r_assign (v := .bool false) rfl rfl rfl ?_
  refine r_doneN (x_then (c_ret (x_end ?_)))
  exfalso
  obtain ⟨g1, g2, g3, g4⟩ := grow_facts (kk := kk) (l := l) (x := x) (n := n) (by omega)
  · by_cases q0 : (rootH kk l n).2 = 0 <;> by_cases q1 : x.entry.kind = 1 <;> first | omega | (simp_all; done) | (simp_all; omega)
  refine r_skip (by exact congrArg (fun b => some (b == true)) h14) rfl ?_
  refine r_skip (by exact congrArg (fun b => some (b == true)) h14) rfl ?_
  refine r_skip (by exact congrArg (fun b => some (b == true)) h14) rfl ?_
  refine r_skip (by exact congrArg (fun b => some (b == true)) h14) rfl ?_
  refine r_pick (v := .bool false) rfl rfl (by show some (if _ then _ else _) = _; rw [h14] <;> rfl) ?_
  refine r_move (v := .bool false) rfl rfl rfl ?_
  refine r_skip rfl rfl ?_
  refine r_skip rfl rfl ?_
  refine r_skip rfl rfl ?_
  refine r_skip rfl rfl ?_
  refine r_pick (v := .bool false) rfl rfl rfl ?_
  refine r_assign (v := .bool false) rfl rfl rfl ?_
  refine r_doneN (x_then (c_ret (x_end ?_)))
  exfalso
  obtain ⟨g1, g2, g3, g4⟩ := grow_facts (kk := kk) (l := l) (x := x) (n := n) (by omega)
  · by_cases q0 : (rootH kk l n).2 = 0 <;> by_cases q1 : x.entry.kind = 1 <;> first | omega | (simp_all; done) | (simp_all; omega)
end Go.Flat
