/- Walks and plain laws: what each theorem says, within the bounds that it names. -/
import Derived.Test.YtgmnjggeffdjhaaDoorA4
set_option linter.unusedVariables false
set_option linter.unusedSimpArgs false
set_option maxRecDepth 20000
namespace Go.Flat
open Go.Proofs
variable {G : Glob}
theorem goodF_last : ∀ (l : List Item) (ep : Int) (x : Item), goodF ep l = true → rightI x → (l = [] → ep ≤ x.epoch) → (l ≠ [] → (l.getD (l.length - 1) default).epoch ≤ x.epoch) → goodF ep (l ++ [x]) = true
  | [], ep, x, _, hx, h0, _ => by
    show (decide (rightI x) && decide (ep ≤ x.epoch) && true) = true
    rw [decide_eq_true hx, decide_eq_true (h0 rfl)]; rfl
  | y :: l, ep, x, h, hx, _, h1 => by
    rw [goodF, Bool.and_eq_true] at h
    show (decide (rightI y) && decide (ep ≤ y.epoch) && goodF y.epoch (l ++ [x])) = true
    rw [h.1, Bool.true_and]
    have h2 := h1 (by simp)
    refine goodF_last l y.epoch x h.2 hx (fun e => ?_) (fun e => ?_)
    · subst e; exact h2
    · have hp : 0 < l.length := by cases l with | nil => exact absurd rfl e | cons => simp
      rw [show (y :: l).length - 1 = (l.length - 1) + 1 from by simp; omega] at h2
      exact h2
theorem mayF_0 {l : List Item} {n : Nat} {x : Item} (h : mayF l n x = 0) : rightL l ∧ rightI x ∧ ¬ (0 < n ∧ x.epoch < (l.getD (n - 1) default).epoch) ∧ n < 2000 ∧ (x.entry.kind = 1 → oldL l x.entry.client x.entry.seq = false) := by
  unfold mayF at h
  split at h
  · omega
  · rename_i h1
    split at h
    · omega
    · rename_i h2
      split at h
      · omega
      · rename_i h3
        have hr : rightL l := Decidable.byContradiction fun q => h1 (.inl q)
        have hx : rightI x := Decidable.byContradiction fun q => h1 (.inr q)
        refine ⟨hr, hx, h2, by omega, fun hk => ?_⟩
        rw [if_neg (fun q => q hk)] at h
        cases ho : oldL l x.entry.client x.entry.seq with
        | false => rfl
        | true => rw [ho] at h; simp at h
theorem lat_snoc (l : List Item) (ep : Int) (s : Signed) : latL (l ++ [anI ep s]) s.head.region = (s, true) := by
  unfold latL
  rw [latG_app]
  show (if anP (anI ep s) s.head.region = true then ((anI ep s).entry.head, true) else _) = _
  rw [if_pos (show anP (anI ep s) s.head.region = true from decide_eq_true ⟨rfl, rfl⟩)]; rfl
theorem adm_right {kk : Nat → BitVec 32} {master : D} {l : List Item} {s : Signed} {m : Int} {ds : List D} (h : admE kk master l s m ds = 0) : rightL l ∧ mayS s ∧ verifyR kk master s = 0 := by
  unfold admE at h
  split at h
  · omega
  · rename_i h1
    split at h
    · rename_i h2; exact absurd h h2
    · rename_i h2
      have h2' : verifyR kk master s = 0 := Decidable.byContradiction fun q => h2 q
      exact ⟨chkL_pos (Decidable.byContradiction fun q => h1 q), verify_may h2', h2'⟩
theorem rightL_app {l : List Item} {x : Item} (h : mayF l l.length x = 0) : rightL (l ++ [x]) := by
  obtain ⟨h1, h2, h3, h4, h5⟩ := mayF_0 h
  refine ⟨by rw [List.length_append]; show l.length + 1 ≤ 2000; omega, goodF_last l 0 x h1.2 h2 (fun _ => by have := h2.1; omega) (fun e => ?_)⟩
  have hp : 0 < l.length := by cases l with | nil => exact absurd rfl e | cons => simp
  exact Int.not_lt.1 fun q => h3 ⟨hp, q⟩
theorem next_bad {l : List Item} {n : Nat} {ep : Int} {s : Signed} (h1 : rightL l) (h2 : mayS s) (hn : n < 2000) : mayF l n (anI ep s) = 0 ∨ mayF l n (anI ep s) = 102 ∨ (mayF l n (anI ep s) = 100 ∧ (ep < 1 ∨ 900000000 < ep)) := by
  unfold mayF
  split
  · rename_i q
    refine .inr (.inr ⟨rfl, ?_⟩)
    rcases q with q | q
    · exact absurd h1 q
    · refine Decidable.byContradiction fun r => q (anI_right (by omega) (by omega) h2)
  · split
    · exact .inr (.inl rfl)
    · split
      · omega
      · split
        · exact .inl rfl
        · rename_i q; exact absurd (show (2 : Int) ≠ 1 by decide) q
theorem goes_self (kk : Nat → BitVec 32) (n : Int) (old : D) (h0 : 0 ≤ n) (h1 : n ≤ 100000) : goesE kk n old n old [] = 0 ↔ (0 < n ∨ sameB 32 old (shaOf kk []) = true) := by
  unfold goesE
  rw [if_neg (by simp; omega)]
  by_cases hn : n = 0
  · rw [if_pos hn]
    subst hn
    rw [sameB_refl]
    cases sameB 32 old (shaOf kk []) <;> simp
  · rw [if_neg hn, bothF_self kk old n.toNat []]
    simp [sameB_refl]; omega
theorem next_again {kk : Nat → BitVec 32} {master : D} {l : List Item} {ep : Int} {s : Signed} (h1 : rightL l) (h2 : mayS s) (h3 : verifyR kk master s = 0) (h : mayF l l.length (anI ep s) = 0) :
    admE kk master (l ++ [anI ep s]) s s.head.size [] = 0 ↔ (0 < s.head.size ∨ sameB 32 s.head.root (shaOf kk []) = true) := by
  have hs := h2.1.2.2.1
  rw [← goes_self kk s.head.size s.head.root hs.1 hs.2]
  unfold admE
  rw [if_neg (fun q => q (if_pos (rightL_app h))), if_neg (fun q => q h3), lat_snoc]
  simp
theorem AnchorsNext_ok (kk : Nat → BitVec 32) (hG : G 1 = some (rowE w32 64 kk)) (master : D) (l : List Item) (c : Nat) (hl : l.length ≤ c) (hcc : c ≤ 9223372036854775807) (s : Signed) (m : Int) (hm : -9223372036854775808 ≤ m ∧ m ≤ 9223372036854775807) (ds : List D) (p : Nat) (hp : ds.length ≤ p) (hpp : p ≤ 9223372036854775807) (ep : Int) : CallL Tryd.prog G 7 [dgV master, slv 0 0 l.length c, signedV s, .int .i64 m, slv 1 0 ds.length p, .int .i64 ep] [rwR cItem l, dsR ds] (.bool true) [rwR cItem l, dsR ds] := by
  refine walk (fn := Tryd.f7) (nt := 107) rfl rfl rfl rfl ?_
  refine c_hole 6 (H' := [rwR cItem l, dsR ds, hole, hole, hole, hole, hole, hole]) rfl ?_
  refine c_seq ?_
  refine c_reg ?_
  refine r_box (v := dgV master) (b := dgB master) (nid := 2) (H' := [rwR cItem l, dsR ds, dgB master, hole, hole, hole, hole, hole]) rfl rfl rfl (by kernel_rfl) (by kernel_rfl) ?_
  refine r_box (v := signedV s) (b := bxB 69 (signedC s)) (nid := 3) (H' := [rwR cItem l, dsR ds, dgB master, bxB 69 (signedC s), hole, hole, hole, hole]) rfl rfl rfl (by kernel_rfl) (by kernel_rfl) ?_
  refine r_assign (v := .bool false) rfl rfl rfl ?_
  refine r_doneN ?_
  refine x_then ?_
  refine c_seq ?_
  refine c_seq ?_
  refine c_reg ?_
  refine r_move (v := slv 0 0 l.length c) rfl rfl rfl ?_
  refine r_callN (e := [some (0, 0)]) (nid := 0) (refBig_ok (G := G) l l.length c rfl (by omega) (by omega)) (vals := [slv 0 0 l.length c]) (v := .bool (bigB l)) (H' := [rwR cItem l, dsR ds, dgB master, bxB 69 (signedC s), hole, hole, hole, hole]) rfl rfl rfl rfl rfl rfl rfl ⟨⟨⟨rfl, rfl, rfl, by first | omega | exact Nat.le_refl _, by first | omega | exact Nat.le_refl _⟩, trivial⟩, ⟨(emb_rwR rfl), trivial⟩, rfl, rfl, rfl⟩ rfl (by kernel_rfl) ?_
  refine r_move (v := .bool (bigB l)) rfl rfl rfl ?_
  rcases Bool.eq_false_or_eq_true (bigB l) with h1 | h1
  · skip
    refine r_skip (by exact congrArg (fun b => some (b == false)) h1) rfl ?_
    refine r_skip (by exact congrArg (fun b => some (b == false)) h1) rfl ?_
    refine r_skip (by exact congrArg (fun b => some (b == false)) h1) rfl ?_
    refine r_pick (v := .bool true) rfl rfl (by show some (if _ then _ else _) = _; rw [h1] <;> rfl) ?_
    refine r_move (v := .bool true) rfl rfl rfl ?_
    refine r_skip rfl rfl ?_
    refine r_skip rfl rfl ?_
    refine r_skip rfl rfl ?_
    refine r_skip rfl rfl ?_
    refine r_skip rfl rfl ?_
    refine r_skip rfl rfl ?_
    refine r_skip rfl rfl ?_
    refine r_pick (v := .bool true) rfl rfl rfl ?_
    refine r_doneN ?_
    refine x_then ?_
    refine c_true rfl ?_
    refine c_seq ?_
    refine c_reg ?_
    refine r_callP (admits_ok (G := G) kk hG) (vals := []) (res' := .bool true) rfl rfl rfl rfl rfl rfl ?_
    refine r_assign (v := .bool true) rfl rfl rfl ?_
    refine r_doneN ?_
    refine x_then ?_
    refine c_ret ?_
    refine x_thenR ?_
    refine x_end ?_
    exact end_map [0, 1] (v := .bool true) rfl (by kernel_rfl) rfl rfl (by decide) (by simp [keptB, rwR, cItem, dsR]) rfl
  refine r_move (v := slv 1 0 ds.length p) (by exact congrArg (fun b => some (b == false)) h1) rfl rfl ?_
  refine r_len (p := slv 1 0 ds.length p) (v := .int .i64 (ds.length : Nat)) (by exact congrArg (fun b => some (b == false)) h1) rfl rfl rfl ?_
  by_cases h2 : 100 < (ds.length : Nat)
  · skip
    refine r_bin (v := .bool true) (vx := .int .i64 (ds.length : Nat)) (vy := .int .i64 100) (by exact congrArg (fun b => some (b == false)) h1) rfl rfl rfl (gtr_t (by omega)) ?_
    refine r_pick (v := .bool true) rfl rfl (by show some (if _ then _ else _) = _; rw [h1] <;> rfl) ?_
    refine r_move (v := .bool true) rfl rfl rfl ?_
    refine r_skip rfl rfl ?_
    refine r_skip rfl rfl ?_
    refine r_skip rfl rfl ?_
    refine r_skip rfl rfl ?_
    refine r_skip rfl rfl ?_
    refine r_skip rfl rfl ?_
    refine r_skip rfl rfl ?_
    refine r_pick (v := .bool true) rfl rfl rfl ?_
    refine r_doneN ?_
    refine x_then ?_
    refine c_true rfl ?_
    refine c_seq ?_
    refine c_reg ?_
    refine r_callP (admits_ok (G := G) kk hG) (vals := []) (res' := .bool true) rfl rfl rfl rfl rfl rfl ?_
    refine r_assign (v := .bool true) rfl rfl rfl ?_
    refine r_doneN ?_
    refine x_then ?_
    refine c_ret ?_
    refine x_thenR ?_
    refine x_end ?_
    exact end_map [0, 1] (v := .bool true) rfl (by kernel_rfl) rfl rfl (by decide) (by simp [keptB, rwR, cItem, dsR]) rfl
  refine r_bin (v := .bool false) (vx := .int .i64 (ds.length : Nat)) (vy := .int .i64 100) (by exact congrArg (fun b => some (b == false)) h1) rfl rfl rfl (gtr_f (by omega)) ?_
  refine r_pick (v := .bool false) rfl rfl (by show some (if _ then _ else _) = _; rw [h1] <;> rfl) ?_
  refine r_move (v := .bool false) rfl rfl rfl ?_
  refine r_load (p := pt 2 0) (v := dgV master) rfl rfl rfl (by kernel_rfl) ?_
  refine r_move (v := slv 0 0 l.length c) rfl rfl rfl ?_
  refine r_load (p := pt 3 0) (v := signedV s) rfl rfl rfl (by kernel_rfl) ?_
  refine r_move (v := .int .i64 m) rfl rfl rfl ?_
  refine r_move (v := slv 1 0 ds.length p) rfl rfl rfl ?_
  have hn60 : l.length ≤ 60 := bigB_len (by assumption)
  refine r_callN (e := [some (0, 0), some (1, 0)]) (nid := 0) (Admit_ok (G := G) kk hG master l l.length c rfl (by omega) (by omega) s m ds ds.length p rfl (by omega) (by omega) (by omega) (by omega)) (vals := [dgV master, slv 0 0 l.length c, signedV s, .int .i64 m, slv 1 0 ds.length p]) (v := .int .i64 ((admE kk master l s m ds))) (H' := [rwR cItem l, dsR ds, dgB master, bxB 69 (signedC s), hole, hole, hole, hole]) rfl rfl rfl rfl rfl rfl rfl ⟨⟨rfl, ⟨rfl, rfl, rfl, by first | omega | exact Nat.le_refl _, by first | omega | exact Nat.le_refl _⟩, rfl, rfl, ⟨rfl, rfl, rfl, by first | omega | exact Nat.le_refl _, by first | omega | exact Nat.le_refl _⟩, trivial⟩, ⟨(emb_rwR rfl), (emb_dsR rfl), trivial⟩, rfl, rfl, rfl⟩ rfl (by kernel_rfl) ?_
  by_cases h3 : ((admE kk master l s m ds)) ≠ 0
  · skip
    refine r_bin (v := .bool true) (vx := .int .i64 ((admE kk master l s m ds))) (vy := .int .i64 0) rfl rfl rfl rfl (neq_t (by omega)) ?_
    refine r_pick (v := .bool true) rfl rfl rfl ?_
    refine r_doneN ?_
    refine x_then ?_
    refine c_true rfl ?_
    refine c_seq ?_
    refine c_reg ?_
    refine r_callP (admits_ok (G := G) kk hG) (vals := []) (res' := .bool true) rfl rfl rfl rfl rfl rfl ?_
    refine r_assign (v := .bool true) rfl rfl rfl ?_
    refine r_doneN ?_
    refine x_then ?_
    refine c_ret ?_
    refine x_thenR ?_
    refine x_end ?_
    exact end_map [0, 1] (v := .bool true) rfl (by kernel_rfl) rfl rfl (by decide) (by simp [keptB, rwR, cItem, dsR]) rfl
  refine r_bin (v := .bool false) (vx := .int .i64 ((admE kk master l s m ds))) (vy := .int .i64 0) rfl rfl rfl rfl (neq_f (by omega)) ?_
  refine r_pick (v := .bool false) rfl rfl rfl ?_
  refine r_doneN ?_
  refine x_then ?_
  refine c_false rfl ?_
  refine c_skip ?_
  refine x_then ?_
  refine c_seq ?_
  refine c_reg ?_
  refine r_move (v := .int .i64 ep) rfl rfl rfl ?_
  refine r_load (p := pt 3 0) (v := signedV s) rfl rfl rfl (by kernel_rfl) ?_
  refine r_callP (item_ok (G := G) ep s) (vals := [.int .i64 ep, signedV s]) (res' := itemV (anI ep s)) rfl rfl rfl rfl rfl (by kernel_rfl) ?_
  refine r_alloc (b := bxB 110 (itemC (⟨0, (⟨0, 0, 0, ⟨#[]⟩, (⟨(⟨0, 0, 0, dz, 0⟩ : Head), 0, dz⟩ : Signed), (⟨0, 0, 0, 0, dz⟩ : Claim)⟩ : Entry)⟩ : Item))) (nid := 4) (H' := [rwR cItem l, dsR ds, dgB master, bxB 69 (signedC s), bxB 110 (itemC (⟨0, (⟨0, 0, 0, ⟨#[]⟩, (⟨(⟨0, 0, 0, dz, 0⟩ : Head), 0, dz⟩ : Signed), (⟨0, 0, 0, 0, dz⟩ : Claim)⟩ : Entry)⟩ : Item)), hole, hole, hole]) rfl rfl (by kernel_rfl) (by kernel_rfl) ?_
  refine r_store (p := pt 4 0) (v := itemV (anI ep s)) (b := 4) (blk := bxB 110 (itemC (anI ep s))) (H' := [rwR cItem l, dsR ds, dgB master, bxB 69 (signedC s), bxB 110 (itemC (anI ep s)), hole, hole, hole]) rfl rfl rfl (by kernel_rfl) (by kernel_rfl) ?_
  refine r_doneN ?_
  refine x_then ?_
  refine c_seq ?_
  refine c_reg ?_
  refine r_move (v := slv 0 0 l.length c) rfl rfl rfl ?_
  refine r_load (p := pt 4 0) (v := itemV (anI ep s)) rfl rfl rfl (by kernel_rfl) ?_
  refine r_callN (e := [some (0, 0)]) (nid := 0) (May_ok (G := G) l l.length c rfl (by omega) (by omega) (anI ep s)) (vals := [slv 0 0 l.length c, itemV (anI ep s)]) (v := .int .i64 ((mayF l l.length (anI ep s)))) (H' := [rwR cItem l, dsR ds, dgB master, bxB 69 (signedC s), bxB 110 (itemC (anI ep s)), hole, hole, hole]) rfl rfl rfl rfl rfl rfl rfl ⟨⟨⟨rfl, rfl, rfl, by first | omega | exact Nat.le_refl _, by first | omega | exact Nat.le_refl _⟩, rfl, trivial⟩, ⟨(emb_rwR rfl), trivial⟩, rfl, rfl, rfl⟩ rfl (by kernel_rfl) ?_
  refine r_assign (v := .int .i64 ((mayF l l.length (anI ep s)))) rfl rfl rfl ?_
  refine r_doneN ?_
  refine x_then ?_
  refine c_seq ?_
  refine c_seq ?_
  refine c_reg ?_
  refine r_move (v := .int .i64 ((mayF l l.length (anI ep s)))) rfl rfl rfl ?_
  by_cases h4 : ((mayF l l.length (anI ep s))) ≠ 0
  · skip
    refine r_bin (v := .bool true) (vx := .int .i64 ((mayF l l.length (anI ep s)))) (vy := .int .i64 0) rfl rfl rfl rfl (neq_t (by omega)) ?_
    refine r_doneN ?_
    refine x_then ?_
    refine c_true rfl ?_
    refine c_seq ?_
    refine c_reg ?_
    refine r_callP (admits_ok (G := G) kk hG) (vals := []) (res' := .bool true) rfl rfl rfl rfl rfl rfl ?_
    refine r_move (v := .bool true) rfl rfl rfl ?_
    refine r_move (v := .int .i64 ((mayF l l.length (anI ep s)))) rfl rfl rfl ?_
    by_cases h5 : ((mayF l l.length (anI ep s))) = 102
    · skip
      refine r_bin (v := .bool true) (vx := .int .i64 ((mayF l l.length (anI ep s)))) (vy := .int .i64 102) rfl rfl rfl rfl (eql_t (by omega)) ?_
      refine r_move (v := .bool true) rfl rfl rfl ?_
      refine r_skip rfl rfl ?_
      refine r_skip rfl rfl ?_
      refine r_skip rfl rfl ?_
      refine r_skip rfl rfl ?_
      refine r_skip rfl rfl ?_
      refine r_skip rfl rfl ?_
      refine r_skip rfl rfl ?_
      refine r_skip rfl rfl ?_
      refine r_skip rfl rfl ?_
      refine r_skip rfl rfl ?_
      refine r_pick (v := .bool true) rfl rfl rfl ?_
      refine r_pick (v := .bool true) rfl rfl rfl ?_
      refine r_assign (v := .bool true) rfl rfl rfl ?_
      refine r_doneN ?_
      refine x_then ?_
      refine c_ret ?_
      refine x_thenR ?_
      refine x_end ?_
      exact end_map [0, 1] (v := .bool true) rfl (by kernel_rfl) rfl rfl (by decide) (by simp [keptB, rwR, cItem, dsR]) rfl
    refine r_bin (v := .bool false) (vx := .int .i64 ((mayF l l.length (anI ep s)))) (vy := .int .i64 102) rfl rfl rfl rfl (eql_f (by omega)) ?_
    refine r_move (v := .bool false) rfl rfl rfl ?_
    refine r_move (v := .int .i64 ((mayF l l.length (anI ep s)))) rfl rfl rfl ?_
    by_cases h6 : ((mayF l l.length (anI ep s))) = 100
    · skip
      refine r_bin (v := .bool true) (vx := .int .i64 ((mayF l l.length (anI ep s)))) (vy := .int .i64 100) rfl rfl rfl rfl (eql_t (by omega)) ?_
      refine r_move (v := .bool true) rfl rfl rfl ?_
      refine r_move (v := .int .i64 ep) rfl rfl rfl ?_
      by_cases h7 : ep < 1
      · skip
        refine r_bin (v := .bool true) (vx := .int .i64 ep) (vy := .int .i64 1) rfl rfl rfl rfl (lss_t (by omega)) ?_
        refine r_move (v := .bool true) rfl rfl rfl ?_
        refine r_skip rfl rfl ?_
        refine r_skip rfl rfl ?_
        refine r_pick (v := .bool true) rfl rfl rfl ?_
        refine r_pick (v := .bool true) rfl rfl rfl ?_
        refine r_pick (v := .bool true) rfl rfl rfl ?_
        refine r_pick (v := .bool true) rfl rfl rfl ?_
        refine r_assign (v := .bool true) rfl rfl rfl ?_
        refine r_doneN ?_
        refine x_then ?_
        refine c_ret ?_
        refine x_thenR ?_
        refine x_end ?_
        exact end_map [0, 1] (v := .bool true) rfl (by kernel_rfl) rfl rfl (by decide) (by simp [keptB, rwR, cItem, dsR]) rfl
      refine r_bin (v := .bool false) (vx := .int .i64 ep) (vy := .int .i64 1) rfl rfl rfl rfl (lss_f (by omega)) ?_
      refine r_move (v := .bool false) rfl rfl rfl ?_
      refine r_move (v := .int .i64 ep) rfl rfl rfl ?_
      by_cases h8 : 900000000 < ep
      · skip
        refine r_bin (v := .bool true) (vx := .int .i64 ep) (vy := .int .i64 900000000) rfl rfl rfl rfl (gtr_t (by omega)) ?_
        refine r_pick (v := .bool true) rfl rfl rfl ?_
        refine r_pick (v := .bool true) rfl rfl rfl ?_
        refine r_pick (v := .bool true) rfl rfl rfl ?_
        refine r_pick (v := .bool true) rfl rfl rfl ?_
        refine r_assign (v := .bool true) rfl rfl rfl ?_
        refine r_doneN ?_
        refine x_then ?_
        refine c_ret ?_
        refine x_thenR ?_
        refine x_end ?_
        exact end_map [0, 1] (v := .bool true) rfl (by kernel_rfl) rfl rfl (by decide) (by simp [keptB, rwR, cItem, dsR]) rfl
      refine r_bin (v := .bool false) (vx := .int .i64 ep) (vy := .int .i64 900000000) rfl rfl rfl rfl (gtr_f (by omega)) ?_
      refine r_pick (v := .bool false) rfl rfl rfl ?_
      refine r_pick (v := .bool false) rfl rfl rfl ?_
      refine r_pick (v := .bool false) rfl rfl rfl ?_
      refine r_pick (v := .bool false) rfl rfl rfl ?_
      refine r_assign (v := .bool false) rfl rfl rfl ?_
      refine r_doneN ?_
      refine x_then ?_
      refine c_ret ?_
      refine x_thenR ?_
      refine x_end ?_
      exfalso
      have i0 : admE kk master l s m ds = 0 := by omega
      have i1 := adm_right i0
      have i2 := next_bad (l := l) (n := l.length) (ep := ep) (s := s) i1.1 i1.2.1 (by omega)
      have i3 := fun q => next_again (ep := ep) i1.1 i1.2.1 i1.2.2 (show mayF l l.length (anI ep s) = 0 from q)
      first | omega | (have i4 := i3 (by omega); simp_all; done) | (have i4 := i3 (by omega); simp_all; omega)
    refine r_bin (v := .bool false) (vx := .int .i64 ((mayF l l.length (anI ep s)))) (vy := .int .i64 100) rfl rfl rfl rfl (eql_f (by omega)) ?_
    refine r_move (v := .bool false) rfl rfl rfl ?_
    refine r_skip rfl rfl ?_
    refine r_skip rfl rfl ?_
    refine r_skip rfl rfl ?_
    refine r_skip rfl rfl ?_
    refine r_skip rfl rfl ?_
    refine r_skip rfl rfl ?_
    refine r_pick (v := .bool false) rfl rfl rfl ?_
    refine r_pick (v := .bool false) rfl rfl rfl ?_
    refine r_pick (v := .bool false) rfl rfl rfl ?_
    refine r_assign (v := .bool false) rfl rfl rfl ?_
    refine r_doneN ?_
    refine x_then ?_
    refine c_ret ?_
    refine x_thenR ?_
    refine x_end ?_
    exfalso
    have i0 : admE kk master l s m ds = 0 := by omega
    have i1 := adm_right i0
    have i2 := next_bad (l := l) (n := l.length) (ep := ep) (s := s) i1.1 i1.2.1 (by omega)
    have i3 := fun q => next_again (ep := ep) i1.1 i1.2.1 i1.2.2 (show mayF l l.length (anI ep s) = 0 from q)
    first | omega | (have i4 := i3 (by omega); simp_all; done) | (have i4 := i3 (by omega); simp_all; omega)
  refine r_bin (v := .bool false) (vx := .int .i64 ((mayF l l.length (anI ep s)))) (vy := .int .i64 0) rfl rfl rfl rfl (neq_f (by omega)) ?_
  refine r_doneN ?_
  refine x_then ?_
  refine c_false rfl ?_
  refine c_skip ?_
  refine x_then ?_
  refine c_seq ?_
  refine c_reg ?_
  refine r_move (v := slv 0 0 l.length c) rfl rfl rfl ?_
  refine r_callN (e := [some (0, 0)]) (nid := 5) (refOwn_ok (G := G) l l.length c rfl (by omega) (by omega)) (vals := [slv 0 0 l.length c]) (v := slv 5 0 l.length l.length) (H' := [rwR cItem l, dsR ds, dgB master, bxB 69 (signedC s), bxB 110 (itemC (anI ep s)), rwB cItem l, hole, hole]) rfl rfl rfl rfl rfl rfl rfl ⟨⟨⟨rfl, rfl, rfl, by first | omega | exact Nat.le_refl _, by first | omega | exact Nat.le_refl _⟩, trivial⟩, ⟨(emb_rwR rfl), trivial⟩, rfl, rfl, rfl⟩ (by kernel_rfl) (by kernel_rfl) ?_
  refine r_assign (v := slv 5 0 l.length l.length) rfl rfl rfl ?_
  refine r_doneN ?_
  refine x_then ?_
  refine c_seq ?_
  refine c_reg ?_
  refine r_move (v := slv 5 0 l.length l.length) rfl rfl rfl ?_
  refine r_load (p := pt 4 0) (v := itemV (anI ep s)) rfl rfl rfl (by kernel_rfl) ?_
  refine r_lit (vs := [(0, itemV (anI ep s))]) (v := slv 6 0 1 1) (blk := rwB cItem [(anI ep s)]) (nid := 6) (H' := [rwR cItem l, dsR ds, dgB master, bxB 69 (signedC s), bxB 110 (itemC (anI ep s)), rwB cItem l, rwB cItem [(anI ep s)], hole]) rfl rfl rfl (by kernel_rfl) (by kernel_rfl) ?_
  have hl3 : (l ++ [(anI ep s)]).length = l.length + 1 := by have := (rfl : _ = 1); first | (rw [List.length_append]; omega) | (simp; omega) | simp
  refine r_append (p := slv 5 0 l.length l.length) (q := slv 6 0 1 1) (v := slv 5 0 ((l ++ [(anI ep s)]).length) ((l ++ [(anI ep s)]).length)) (b := 5) (blk := rwB cItem (l ++ [(anI ep s)])) (H' := [rwR cItem l, dsR ds, dgB master, bxB 69 (signedC s), bxB 110 (itemC (anI ep s)), rwB cItem (l ++ [(anI ep s)]), rwB cItem [(anI ep s)], hole]) rfl rfl rfl (.inl ⟨_, rfl⟩) rfl rfl (appD_rw cItem (by_ := 216) (k := 1) (n' := ((l ++ [(anI ep s)]).length)) (ms := [(anI ep s)]) (fun _ => rfl) rfl rfl (by kernel_rfl) rfl rfl (by omega) (by omega) (by decide) (by omega)) rfl (by kernel_rfl) ?_
  refine r_assign (v := slv 5 0 ((l ++ [(anI ep s)]).length) ((l ++ [(anI ep s)]).length)) rfl rfl rfl ?_
  refine r_doneN ?_
  refine x_then ?_
  refine c_seq ?_
  refine c_reg ?_
  refine r_move (v := slv 5 0 ((l ++ [(anI ep s)]).length) ((l ++ [(anI ep s)]).length)) rfl rfl rfl ?_
  refine r_fieldAddr (b := 3) (o := 0) (n := 0) (o' := 0) rfl rfl rfl rfl rfl ?_
  refine r_fieldAddr (b := 3) (o := 0) (n := 0) (o' := 0) rfl rfl rfl rfl rfl ?_
  refine r_load (p := pt 3 0) (v := .int .i64 s.head.region) rfl rfl rfl (by kernel_rfl) ?_
  refine r_callN (e := [some (5, 0)]) (nid := 0) (lat_c (G := G) (l ++ [(anI ep s)]) ((l ++ [(anI ep s)]).length) ((l ++ [(anI ep s)]).length) rfl (by omega) (by omega) s.head.region (lat_snoc l ep s)) (vals := [slv 5 0 ((l ++ [(anI ep s)]).length) ((l ++ [(anI ep s)]).length), .int .i64 s.head.region]) (v := .tuple #[signedV s, .bool true]) (H' := [rwR cItem l, dsR ds, dgB master, bxB 69 (signedC s), bxB 110 (itemC (anI ep s)), rwB cItem (l ++ [(anI ep s)]), rwB cItem [(anI ep s)], hole]) rfl rfl rfl rfl rfl rfl rfl ⟨⟨⟨rfl, rfl, rfl, by first | omega | exact Nat.le_refl _, by first | omega | exact Nat.le_refl _⟩, rfl, trivial⟩, ⟨(emb_rwB rfl), trivial⟩, rfl, rfl, rfl⟩ (by kernel_rfl) (by kernel_rfl) ?_
  refine r_move (v := .tuple #[signedV s, .bool true]) rfl rfl rfl ?_
  refine r_extract (vs := #[signedV s, .bool true]) (v := signedV s) rfl rfl rfl rfl ?_
  refine r_extract (vs := #[signedV s, .bool true]) (v := .bool true) rfl rfl rfl rfl ?_
  refine r_alloc (b := bxB 69 (signedC (⟨(⟨0, 0, 0, dz, 0⟩ : Head), 0, dz⟩ : Signed))) (nid := 7) (H' := [rwR cItem l, dsR ds, dgB master, bxB 69 (signedC s), bxB 110 (itemC (anI ep s)), rwB cItem (l ++ [(anI ep s)]), rwB cItem [(anI ep s)], bxB 69 (signedC (⟨(⟨0, 0, 0, dz, 0⟩ : Head), 0, dz⟩ : Signed))]) rfl rfl (by kernel_rfl) (by kernel_rfl) ?_
  refine r_store (p := pt 7 0) (v := signedV s) (b := 7) (blk := bxB 69 (signedC s)) (H' := [rwR cItem l, dsR ds, dgB master, bxB 69 (signedC s), bxB 110 (itemC (anI ep s)), rwB cItem (l ++ [(anI ep s)]), rwB cItem [(anI ep s)], bxB 69 (signedC s)]) rfl rfl rfl (by kernel_rfl) (by kernel_rfl) ?_
  refine r_assign (v := .bool true) rfl rfl rfl ?_
  refine r_doneN ?_
  refine x_then ?_
  refine c_seq ?_
  refine c_reg ?_
  refine r_load (p := pt 2 0) (v := dgV master) rfl rfl rfl (by kernel_rfl) ?_
  refine r_move (v := slv 5 0 ((l ++ [(anI ep s)]).length) ((l ++ [(anI ep s)]).length)) rfl rfl rfl ?_
  refine r_load (p := pt 3 0) (v := signedV s) rfl rfl rfl (by kernel_rfl) ?_
  refine r_fieldAddr (b := 3) (o := 0) (n := 0) (o' := 0) rfl rfl rfl rfl rfl ?_
  refine r_fieldAddr (b := 3) (o := 0) (n := 2) (o' := 2) rfl rfl rfl rfl rfl ?_
  refine r_load (p := pt 3 2) (v := .int .i64 s.head.size) rfl rfl rfl (by kernel_rfl) ?_
  have i7 := adm_right (by omega : admE kk master l s m ds = 0)
  have i8 : 0 ≤ s.head.size ∧ s.head.size ≤ 100000 := i7.2.1.1.2.2.1
  refine r_callN (e := [some (5, 0), none]) (nid := 0) (Admit_ok (G := G) kk hG master (l ++ [(anI ep s)]) ((l ++ [(anI ep s)]).length) ((l ++ [(anI ep s)]).length) rfl (by omega) (by omega) s s.head.size [] 0 0 rfl (by omega) (by omega) (by omega) (by omega)) (vals := [dgV master, slv 5 0 ((l ++ [(anI ep s)]).length) ((l ++ [(anI ep s)]).length), signedV s, .int .i64 s.head.size, .slice none 0 0]) (v := .int .i64 ((admE kk master (l ++ [(anI ep s)]) s s.head.size []))) (H' := [rwR cItem l, dsR ds, dgB master, bxB 69 (signedC s), bxB 110 (itemC (anI ep s)), rwB cItem (l ++ [(anI ep s)]), rwB cItem [(anI ep s)], bxB 69 (signedC s)]) rfl rfl rfl rfl rfl rfl rfl ⟨⟨rfl, ⟨rfl, rfl, rfl, by first | omega | exact Nat.le_refl _, by first | omega | exact Nat.le_refl _⟩, rfl, rfl, ⟨rfl, rfl, rfl, rfl⟩, trivial⟩, ⟨(emb_rwB rfl), ⟨rfl, rfl, by show 0 < _; decide⟩, trivial⟩, rfl, rfl, rfl⟩ rfl (by kernel_rfl) ?_
  refine r_assign (v := .int .i64 ((admE kk master (l ++ [(anI ep s)]) s s.head.size []))) rfl rfl rfl ?_
  refine r_doneN ?_
  refine x_then ?_
  refine c_seq ?_
  refine c_draw (by kernel_rfl) ?_
  refine r_callP (admits_ok (G := G) kk hG) (vals := []) (res' := .bool true) rfl rfl rfl rfl rfl rfl ?_
  refine r_move (v := .bool true) rfl rfl rfl ?_
  refine r_move (v := .bool true) rfl rfl rfl ?_
  refine r_pick (v := .bool true) rfl rfl rfl ?_
  refine r_move (v := .bool true) rfl rfl rfl ?_
  refine r_load (p := pt 7 0) (v := signedV s) rfl rfl rfl (by kernel_rfl) ?_
  refine r_load (p := pt 3 0) (v := signedV s) rfl rfl rfl (by kernel_rfl) ?_
  refine r_bin (v := .bool true) (vx := signedV s) (vy := signedV s) rfl rfl rfl rfl (Eq.trans (eql_Signed s s) (by rw [(eqSigned_refl _)] <;> rfl)) ?_
  refine r_pick (v := .bool true) rfl rfl rfl ?_
  refine r_move (v := .bool true) rfl rfl rfl ?_
  refine r_move (v := .int .i64 ((admE kk master (l ++ [(anI ep s)]) s s.head.size []))) rfl rfl rfl ?_
  by_cases h9 : ((admE kk master (l ++ [(anI ep s)]) s s.head.size [])) = 0
  · skip
    refine r_bin (v := .bool true) (vx := .int .i64 ((admE kk master (l ++ [(anI ep s)]) s s.head.size []))) (vy := .int .i64 0) rfl rfl rfl rfl (eql_t (by omega)) ?_
    refine r_fieldAddr (b := 3) (o := 0) (n := 0) (o' := 0) rfl rfl rfl rfl rfl ?_
    refine r_fieldAddr (b := 3) (o := 0) (n := 2) (o' := 2) rfl rfl rfl rfl rfl ?_
    refine r_load (p := pt 3 2) (v := .int .i64 s.head.size) rfl rfl rfl (by kernel_rfl) ?_
    by_cases h10 : 0 < s.head.size
    · skip
      refine r_bin (v := .bool true) (vx := .int .i64 s.head.size) (vy := .int .i64 0) rfl rfl rfl rfl (gtr_t (by omega)) ?_
      refine r_move (v := .bool true) rfl rfl rfl ?_
      refine r_skip rfl rfl ?_
      refine r_skip rfl rfl ?_
      refine r_skip rfl rfl ?_
      refine r_skip rfl rfl ?_
      refine r_skip rfl rfl ?_
      refine r_pick (v := .bool true) rfl rfl rfl ?_
      refine r_bin (v := .bool true) (vx := .bool true) (vy := .bool true) rfl rfl rfl rfl (eqlB' rfl rfl rfl) ?_
      refine r_pick (v := .bool true) rfl rfl rfl ?_
      refine r_assign (v := .bool true) rfl rfl rfl ?_
      refine r_doneD (drawnT_ok [[], [0], [0, 1], [0, 1, 2], [0, 1, 2, 3], [0, 1, 2, 3, 4], [0, 1, 2, 3, 4], [0, 1, 2, 3, 4, 5, 6], [0, 1, 2, 3, 4, 5, 6, 7], [0, 1, 2, 3, 4, 5, 6, 7, 8], [0, 1, 2, 3, 4, 5, 6, 7, 8, 9], [0, 1, 2, 3, 4, 5, 6, 7, 8, 9, 10], [0, 1, 2, 3, 4, 5, 6, 7, 8, 9], [0, 1, 2, 3, 4, 5, 6, 7, 8, 9, 12], [0, 1, 2, 3, 4, 5, 6, 7, 8, 9, 12, 13], [0, 1, 2, 3, 4, 5, 6, 7, 8, 9, 12, 13, 14], [0, 1, 2, 3, 4, 5, 6, 7, 8, 9, 12, 13, 14, 15], [0, 1, 2, 3, 4, 5, 6, 7, 8, 9, 12, 13, 14, 15, 16], [0, 1, 2, 3, 4, 5, 6, 7, 8, 9, 12, 13, 14, 15, 16, 17], [0, 1, 2, 3, 4, 5, 6, 7, 8, 9, 12, 13, 14, 15, 16, 17, 18], [0, 1, 2, 3, 4, 5, 6, 7, 8, 9, 12, 13, 14, 15, 16], [0, 1, 2, 3, 4, 5, 6, 7, 8, 9, 12, 13, 14, 15, 16, 17, 18, 19, 20], [0, 1, 2, 3, 4, 5, 6, 7, 8, 9, 12, 13, 14, 15, 16, 17, 18, 19, 20, 21], [0, 1, 2, 3, 4, 5, 6, 7, 8, 9, 10, 11, 12, 13, 14, 15, 16, 17, 18, 19, 20, 21, 22], [0, 1, 2, 3, 4, 5, 6, 7, 8, 9, 10, 11, 12, 13, 14, 15, 16, 17, 18, 19, 20, 21, 22, 23], [0, 1, 2, 3, 4, 5, 6, 7, 8, 9, 10, 11, 12, 13, 14, 15, 16, 17, 18, 19, 20, 21, 22, 23, 24]] (by kernel_rfl) (by kernel_rfl)) ?_
      refine x_then ?_
      refine c_ret ?_
      refine x_end ?_
      exact end_map [0, 1] (v := .bool true) rfl (by kernel_rfl) rfl rfl (by decide) (by simp [keptB, rwR, cItem, dsR]) rfl
    refine r_bin (v := .bool false) (vx := .int .i64 s.head.size) (vy := .int .i64 0) rfl rfl rfl rfl (gtr_f (by omega)) ?_
    refine r_move (v := .bool false) rfl rfl rfl ?_
    refine r_fieldAddr (b := 3) (o := 0) (n := 0) (o' := 0) rfl rfl rfl rfl rfl ?_
    refine r_fieldAddr (b := 3) (o := 0) (n := 3) (o' := 3) rfl rfl rfl rfl rfl ?_
    refine r_load (p := pt 3 3) (v := dgV s.head.root) rfl rfl rfl (by kernel_rfl) ?_
    refine r_callP (Empty_ok (G := G) kk hG) (vals := []) (res' := dgV (shaOf kk [])) rfl rfl rfl rfl rfl (by kernel_rfl) ?_
    rcases Bool.eq_false_or_eq_true (sameB 32 s.head.root (shaOf kk [])) with h11 | h11
    · skip
      refine r_bin (v := .bool true) (vx := dgV s.head.root) (vy := dgV (shaOf kk [])) rfl rfl rfl rfl (Eq.trans (eql_dg (n := 32) (a := s.head.root) (b := (shaOf kk [])) (by kernel_rfl) rfl rfl rfl) (by rw [h11] <;> rfl)) ?_
      refine r_pick (v := .bool true) rfl rfl rfl ?_
      refine r_bin (v := .bool true) (vx := .bool true) (vy := .bool true) rfl rfl rfl rfl (eqlB' rfl rfl rfl) ?_
      refine r_pick (v := .bool true) rfl rfl rfl ?_
      refine r_assign (v := .bool true) rfl rfl rfl ?_
      refine r_doneD (drawnT_ok [[], [0], [0, 1], [0, 1, 2], [0, 1, 2, 3], [0, 1, 2, 3, 4], [0, 1, 2, 3, 4], [0, 1, 2, 3, 4, 5, 6], [0, 1, 2, 3, 4, 5, 6, 7], [0, 1, 2, 3, 4, 5, 6, 7, 8], [0, 1, 2, 3, 4, 5, 6, 7, 8, 9], [0, 1, 2, 3, 4, 5, 6, 7, 8, 9, 10], [0, 1, 2, 3, 4, 5, 6, 7, 8, 9], [0, 1, 2, 3, 4, 5, 6, 7, 8, 9, 12], [0, 1, 2, 3, 4, 5, 6, 7, 8, 9, 12, 13], [0, 1, 2, 3, 4, 5, 6, 7, 8, 9, 12, 13, 14], [0, 1, 2, 3, 4, 5, 6, 7, 8, 9, 12, 13, 14, 15], [0, 1, 2, 3, 4, 5, 6, 7, 8, 9, 12, 13, 14, 15, 16], [0, 1, 2, 3, 4, 5, 6, 7, 8, 9, 12, 13, 14, 15, 16, 17], [0, 1, 2, 3, 4, 5, 6, 7, 8, 9, 12, 13, 14, 15, 16, 17, 18], [0, 1, 2, 3, 4, 5, 6, 7, 8, 9, 12, 13, 14, 15, 16], [0, 1, 2, 3, 4, 5, 6, 7, 8, 9, 12, 13, 14, 15, 16, 17, 18, 19, 20], [0, 1, 2, 3, 4, 5, 6, 7, 8, 9, 12, 13, 14, 15, 16, 17, 18, 19, 20, 21], [0, 1, 2, 3, 4, 5, 6, 7, 8, 9, 10, 11, 12, 13, 14, 15, 16, 17, 18, 19, 20, 21, 22], [0, 1, 2, 3, 4, 5, 6, 7, 8, 9, 10, 11, 12, 13, 14, 15, 16, 17, 18, 19, 20, 21, 22, 23], [0, 1, 2, 3, 4, 5, 6, 7, 8, 9, 10, 11, 12, 13, 14, 15, 16, 17, 18, 19, 20, 21, 22, 23, 24]] (by kernel_rfl) (by kernel_rfl)) ?_
      refine x_then ?_
      refine c_ret ?_
      refine x_end ?_
      exact end_map [0, 1] (v := .bool true) rfl (by kernel_rfl) rfl rfl (by decide) (by simp [keptB, rwR, cItem, dsR]) rfl
    refine r_bin (v := .bool false) (vx := dgV s.head.root) (vy := dgV (shaOf kk [])) rfl rfl rfl rfl (Eq.trans (eql_dg (n := 32) (a := s.head.root) (b := (shaOf kk [])) (by kernel_rfl) rfl rfl rfl) (by rw [h11] <;> rfl)) ?_
    refine r_pick (v := .bool false) rfl rfl rfl ?_
    refine r_bin (v := .bool false) (vx := .bool true) (vy := .bool false) rfl rfl rfl rfl (eqlB' rfl rfl rfl) ?_
    refine r_pick (v := .bool false) rfl rfl rfl ?_
    refine r_assign (v := .bool false) rfl rfl rfl ?_
    refine r_doneD (drawnT_ok [[], [0], [0, 1], [0, 1, 2], [0, 1, 2, 3], [0, 1, 2, 3, 4], [0, 1, 2, 3, 4], [0, 1, 2, 3, 4, 5, 6], [0, 1, 2, 3, 4, 5, 6, 7], [0, 1, 2, 3, 4, 5, 6, 7, 8], [0, 1, 2, 3, 4, 5, 6, 7, 8, 9], [0, 1, 2, 3, 4, 5, 6, 7, 8, 9, 10], [0, 1, 2, 3, 4, 5, 6, 7, 8, 9], [0, 1, 2, 3, 4, 5, 6, 7, 8, 9, 12], [0, 1, 2, 3, 4, 5, 6, 7, 8, 9, 12, 13], [0, 1, 2, 3, 4, 5, 6, 7, 8, 9, 12, 13, 14], [0, 1, 2, 3, 4, 5, 6, 7, 8, 9, 12, 13, 14, 15], [0, 1, 2, 3, 4, 5, 6, 7, 8, 9, 12, 13, 14, 15, 16], [0, 1, 2, 3, 4, 5, 6, 7, 8, 9, 12, 13, 14, 15, 16, 17], [0, 1, 2, 3, 4, 5, 6, 7, 8, 9, 12, 13, 14, 15, 16, 17, 18], [0, 1, 2, 3, 4, 5, 6, 7, 8, 9, 12, 13, 14, 15, 16], [0, 1, 2, 3, 4, 5, 6, 7, 8, 9, 12, 13, 14, 15, 16, 17, 18, 19, 20], [0, 1, 2, 3, 4, 5, 6, 7, 8, 9, 12, 13, 14, 15, 16, 17, 18, 19, 20, 21], [0, 1, 2, 3, 4, 5, 6, 7, 8, 9, 10, 11, 12, 13, 14, 15, 16, 17, 18, 19, 20, 21, 22], [0, 1, 2, 3, 4, 5, 6, 7, 8, 9, 10, 11, 12, 13, 14, 15, 16, 17, 18, 19, 20, 21, 22, 23], [0, 1, 2, 3, 4, 5, 6, 7, 8, 9, 10, 11, 12, 13, 14, 15, 16, 17, 18, 19, 20, 21, 22, 23, 24]] (by kernel_rfl) (by kernel_rfl)) ?_
    refine x_then ?_
    refine c_ret ?_
    refine x_end ?_
    exfalso
    have i0 : admE kk master l s m ds = 0 := by omega
    have i1 := adm_right i0
    have i2 := next_bad (l := l) (n := l.length) (ep := ep) (s := s) i1.1 i1.2.1 (by omega)
    have i3 := fun q => next_again (ep := ep) i1.1 i1.2.1 i1.2.2 (show mayF l l.length (anI ep s) = 0 from q)
    first | omega | (have i4 := i3 (by omega); simp_all; done) | (have i4 := i3 (by omega); simp_all; omega)
  refine r_bin (v := .bool false) (vx := .int .i64 ((admE kk master (l ++ [(anI ep s)]) s s.head.size []))) (vy := .int .i64 0) rfl rfl rfl rfl (eql_f (by omega)) ?_
  refine r_fieldAddr (b := 3) (o := 0) (n := 0) (o' := 0) rfl rfl rfl rfl rfl ?_
  refine r_fieldAddr (b := 3) (o := 0) (n := 2) (o' := 2) rfl rfl rfl rfl rfl ?_
  refine r_load (p := pt 3 2) (v := .int .i64 s.head.size) rfl rfl rfl (by kernel_rfl) ?_
  by_cases h12 : 0 < s.head.size
  · skip
    refine r_bin (v := .bool true) (vx := .int .i64 s.head.size) (vy := .int .i64 0) rfl rfl rfl rfl (gtr_t (by omega)) ?_
    refine r_move (v := .bool true) rfl rfl rfl ?_
    refine r_skip rfl rfl ?_
    refine r_skip rfl rfl ?_
    refine r_skip rfl rfl ?_
    refine r_skip rfl rfl ?_
    refine r_skip rfl rfl ?_
    refine r_pick (v := .bool true) rfl rfl rfl ?_
    refine r_bin (v := .bool false) (vx := .bool false) (vy := .bool true) rfl rfl rfl rfl (eqlB' rfl rfl rfl) ?_
    refine r_pick (v := .bool false) rfl rfl rfl ?_
    refine r_assign (v := .bool false) rfl rfl rfl ?_
    refine r_doneD (drawnT_ok [[], [0], [0, 1], [0, 1, 2], [0, 1, 2, 3], [0, 1, 2, 3, 4], [0, 1, 2, 3, 4], [0, 1, 2, 3, 4, 5, 6], [0, 1, 2, 3, 4, 5, 6, 7], [0, 1, 2, 3, 4, 5, 6, 7, 8], [0, 1, 2, 3, 4, 5, 6, 7, 8, 9], [0, 1, 2, 3, 4, 5, 6, 7, 8, 9, 10], [0, 1, 2, 3, 4, 5, 6, 7, 8, 9], [0, 1, 2, 3, 4, 5, 6, 7, 8, 9, 12], [0, 1, 2, 3, 4, 5, 6, 7, 8, 9, 12, 13], [0, 1, 2, 3, 4, 5, 6, 7, 8, 9, 12, 13, 14], [0, 1, 2, 3, 4, 5, 6, 7, 8, 9, 12, 13, 14, 15], [0, 1, 2, 3, 4, 5, 6, 7, 8, 9, 12, 13, 14, 15, 16], [0, 1, 2, 3, 4, 5, 6, 7, 8, 9, 12, 13, 14, 15, 16, 17], [0, 1, 2, 3, 4, 5, 6, 7, 8, 9, 12, 13, 14, 15, 16, 17, 18], [0, 1, 2, 3, 4, 5, 6, 7, 8, 9, 12, 13, 14, 15, 16], [0, 1, 2, 3, 4, 5, 6, 7, 8, 9, 12, 13, 14, 15, 16, 17, 18, 19, 20], [0, 1, 2, 3, 4, 5, 6, 7, 8, 9, 12, 13, 14, 15, 16, 17, 18, 19, 20, 21], [0, 1, 2, 3, 4, 5, 6, 7, 8, 9, 10, 11, 12, 13, 14, 15, 16, 17, 18, 19, 20, 21, 22], [0, 1, 2, 3, 4, 5, 6, 7, 8, 9, 10, 11, 12, 13, 14, 15, 16, 17, 18, 19, 20, 21, 22, 23], [0, 1, 2, 3, 4, 5, 6, 7, 8, 9, 10, 11, 12, 13, 14, 15, 16, 17, 18, 19, 20, 21, 22, 23, 24]] (by kernel_rfl) (by kernel_rfl)) ?_
    refine x_then ?_
    refine c_ret ?_
    refine x_end ?_
    exfalso
    have i0 : admE kk master l s m ds = 0 := by omega
    have i1 := adm_right i0
    have i2 := next_bad (l := l) (n := l.length) (ep := ep) (s := s) i1.1 i1.2.1 (by omega)
    have i3 := fun q => next_again (ep := ep) i1.1 i1.2.1 i1.2.2 (show mayF l l.length (anI ep s) = 0 from q)
    first | omega | (have i4 := i3 (by omega); simp_all; done) | (have i4 := i3 (by omega); simp_all; omega)
  refine r_bin (v := .bool false) (vx := .int .i64 s.head.size) (vy := .int .i64 0) rfl rfl rfl rfl (gtr_f (by omega)) ?_
  refine r_move (v := .bool false) rfl rfl rfl ?_
  refine r_fieldAddr (b := 3) (o := 0) (n := 0) (o' := 0) rfl rfl rfl rfl rfl ?_
  refine r_fieldAddr (b := 3) (o := 0) (n := 3) (o' := 3) rfl rfl rfl rfl rfl ?_
  refine r_load (p := pt 3 3) (v := dgV s.head.root) rfl rfl rfl (by kernel_rfl) ?_
  refine r_callP (Empty_ok (G := G) kk hG) (vals := []) (res' := dgV (shaOf kk [])) rfl rfl rfl rfl rfl (by kernel_rfl) ?_
  rcases Bool.eq_false_or_eq_true (sameB 32 s.head.root (shaOf kk [])) with h13 | h13
  · skip
    refine r_bin (v := .bool true) (vx := dgV s.head.root) (vy := dgV (shaOf kk [])) rfl rfl rfl rfl (Eq.trans (eql_dg (n := 32) (a := s.head.root) (b := (shaOf kk [])) (by kernel_rfl) rfl rfl rfl) (by rw [h13] <;> rfl)) ?_
    refine r_pick (v := .bool true) rfl rfl rfl ?_
    refine r_bin (v := .bool false) (vx := .bool false) (vy := .bool true) rfl rfl rfl rfl (eqlB' rfl rfl rfl) ?_
    refine r_pick (v := .bool false) rfl rfl rfl ?_
    refine r_assign (v := .bool false) rfl rfl rfl ?_
    refine r_doneD (drawnT_ok [[], [0], [0, 1], [0, 1, 2], [0, 1, 2, 3], [0, 1, 2, 3, 4], [0, 1, 2, 3, 4], [0, 1, 2, 3, 4, 5, 6], [0, 1, 2, 3, 4, 5, 6, 7], [0, 1, 2, 3, 4, 5, 6, 7, 8], [0, 1, 2, 3, 4, 5, 6, 7, 8, 9], [0, 1, 2, 3, 4, 5, 6, 7, 8, 9, 10], [0, 1, 2, 3, 4, 5, 6, 7, 8, 9], [0, 1, 2, 3, 4, 5, 6, 7, 8, 9, 12], [0, 1, 2, 3, 4, 5, 6, 7, 8, 9, 12, 13], [0, 1, 2, 3, 4, 5, 6, 7, 8, 9, 12, 13, 14], [0, 1, 2, 3, 4, 5, 6, 7, 8, 9, 12, 13, 14, 15], [0, 1, 2, 3, 4, 5, 6, 7, 8, 9, 12, 13, 14, 15, 16], [0, 1, 2, 3, 4, 5, 6, 7, 8, 9, 12, 13, 14, 15, 16, 17], [0, 1, 2, 3, 4, 5, 6, 7, 8, 9, 12, 13, 14, 15, 16, 17, 18], [0, 1, 2, 3, 4, 5, 6, 7, 8, 9, 12, 13, 14, 15, 16], [0, 1, 2, 3, 4, 5, 6, 7, 8, 9, 12, 13, 14, 15, 16, 17, 18, 19, 20], [0, 1, 2, 3, 4, 5, 6, 7, 8, 9, 12, 13, 14, 15, 16, 17, 18, 19, 20, 21], [0, 1, 2, 3, 4, 5, 6, 7, 8, 9, 10, 11, 12, 13, 14, 15, 16, 17, 18, 19, 20, 21, 22], [0, 1, 2, 3, 4, 5, 6, 7, 8, 9, 10, 11, 12, 13, 14, 15, 16, 17, 18, 19, 20, 21, 22, 23], [0, 1, 2, 3, 4, 5, 6, 7, 8, 9, 10, 11, 12, 13, 14, 15, 16, 17, 18, 19, 20, 21, 22, 23, 24]] (by kernel_rfl) (by kernel_rfl)) ?_
    refine x_then ?_
    refine c_ret ?_
    refine x_end ?_
    exfalso
    have i0 : admE kk master l s m ds = 0 := by omega
    have i1 := adm_right i0
    have i2 := next_bad (l := l) (n := l.length) (ep := ep) (s := s) i1.1 i1.2.1 (by omega)
    have i3 := fun q => next_again (ep := ep) i1.1 i1.2.1 i1.2.2 (show mayF l l.length (anI ep s) = 0 from q)
    first | omega | (have i4 := i3 (by omega); simp_all; done) | (have i4 := i3 (by omega); simp_all; omega)
  refine r_bin (v := .bool false) (vx := dgV s.head.root) (vy := dgV (shaOf kk [])) rfl rfl rfl rfl (Eq.trans (eql_dg (n := 32) (a := s.head.root) (b := (shaOf kk [])) (by kernel_rfl) rfl rfl rfl) (by rw [h13] <;> rfl)) ?_
  refine r_pick (v := .bool false) rfl rfl rfl ?_
  refine r_bin (v := .bool true) (vx := .bool false) (vy := .bool false) rfl rfl rfl rfl (eqlB' rfl rfl rfl) ?_
  refine r_pick (v := .bool true) rfl rfl rfl ?_
  refine r_assign (v := .bool true) rfl rfl rfl ?_
  refine r_doneD (drawnT_ok [[], [0], [0, 1], [0, 1, 2], [0, 1, 2, 3], [0, 1, 2, 3, 4], [0, 1, 2, 3, 4], [0, 1, 2, 3, 4, 5, 6], [0, 1, 2, 3, 4, 5, 6, 7], [0, 1, 2, 3, 4, 5, 6, 7, 8], [0, 1, 2, 3, 4, 5, 6, 7, 8, 9], [0, 1, 2, 3, 4, 5, 6, 7, 8, 9, 10], [0, 1, 2, 3, 4, 5, 6, 7, 8, 9], [0, 1, 2, 3, 4, 5, 6, 7, 8, 9, 12], [0, 1, 2, 3, 4, 5, 6, 7, 8, 9, 12, 13], [0, 1, 2, 3, 4, 5, 6, 7, 8, 9, 12, 13, 14], [0, 1, 2, 3, 4, 5, 6, 7, 8, 9, 12, 13, 14, 15], [0, 1, 2, 3, 4, 5, 6, 7, 8, 9, 12, 13, 14, 15, 16], [0, 1, 2, 3, 4, 5, 6, 7, 8, 9, 12, 13, 14, 15, 16, 17], [0, 1, 2, 3, 4, 5, 6, 7, 8, 9, 12, 13, 14, 15, 16, 17, 18], [0, 1, 2, 3, 4, 5, 6, 7, 8, 9, 12, 13, 14, 15, 16], [0, 1, 2, 3, 4, 5, 6, 7, 8, 9, 12, 13, 14, 15, 16, 17, 18, 19, 20], [0, 1, 2, 3, 4, 5, 6, 7, 8, 9, 12, 13, 14, 15, 16, 17, 18, 19, 20, 21], [0, 1, 2, 3, 4, 5, 6, 7, 8, 9, 10, 11, 12, 13, 14, 15, 16, 17, 18, 19, 20, 21, 22], [0, 1, 2, 3, 4, 5, 6, 7, 8, 9, 10, 11, 12, 13, 14, 15, 16, 17, 18, 19, 20, 21, 22, 23], [0, 1, 2, 3, 4, 5, 6, 7, 8, 9, 10, 11, 12, 13, 14, 15, 16, 17, 18, 19, 20, 21, 22, 23, 24]] (by kernel_rfl) (by kernel_rfl)) ?_
  refine x_then ?_
  refine c_ret ?_
  refine x_end ?_
  exact end_map [0, 1] (v := .bool true) rfl (by kernel_rfl) rfl rfl (by decide) (by simp [keptB, rwR, cItem, dsR]) rfl
end Go.Flat
