/- Walks and plain laws: what each theorem says, within the bounds that it names. -/
import Derived.Test.YtgmnjggeffdjhaaDoorP2
import Derived.Test.YtgmnjggeffdjhaaDoorFlatH
import Derived.Test.YtgmnjggeffdjhaaDoorPlain
set_option linter.unusedVariables false
set_option linter.unusedSimpArgs false
set_option maxRecDepth 20000
namespace Go.Flat
open Go.Proofs
variable {G : Glob}
def cDg : Cod D := ⟨fun d => rowE w8 32 d, 32, fun _ => rfl, by decide⟩
def acL (kk : Nat → BitVec 32) (l : List Item) : Nat → List D
  | 0 => []
  | k + 1 => acL kk l k ++ [(leafI kk (l.getD k default)).1]
theorem acL_len (kk : Nat → BitVec 32) (l : List Item) : ∀ k, (acL kk l k).length = k
  | 0 => rfl
  | k + 1 => by rw [acL, List.length_append, acL_len kk l k]; rfl
theorem leaves_ok (l : List Item) (m c : Nat) (hm : m ≤ l.length) (hc : m ≤ c) (hb : m ≤ 1048576) : CallL Tryd.prog G 76 [slv 0 0 m c] [rwR cItem l] (.func (.func 99) #[] #[pt 1 0]) [rwR cItem l, rfB (slv 0 0 m c)] := by
  refine walk (fn := Tryd.f76) (nt := 4) rfl rfl rfl rfl ?_
  refine c_hole 1 (H' := [rwR cItem l, hole]) rfl ?_
  refine c_seq (c_reg ?_)
  refine r_box (v := slv 0 0 m c) (b := rfB (slv 0 0 m c)) (nid := 1) (H' := [rwR cItem l, rfB (slv 0 0 m c)]) rfl rfl rfl (by kernel_rfl) (by kernel_rfl) ?_
  refine r_assign (v := .nilFunc) rfl rfl rfl ?_
  refine r_doneN (x_then (c_seq (c_reg ?_)))
  refine r_closure (vs := []) (ws := [pt 1 0]) rfl rfl rfl rfl rfl ?_
  refine r_assign (v := .func (.func 99) #[] #[pt 1 0]) rfl rfl rfl ?_
  refine r_doneN (x_then (c_ret (x_end ?_)))
  exact end_map [0, 1] (v := .func (.func 99) #[] #[pt 1 0]) rfl (by kernel_rfl) rfl rfl (by decide) (by simp [keptB, rwR, rfB, okId, okId0, cItem]) ⟨by simp [renC, renC0, mapE, idE], by kernel_rfl⟩
theorem leaves_iter (kk : Nat → BitVec 32) (hG : G 1 = some (rowE w32 64 kk)) (l : List Item) (m c : Nat) (hm : m ≤ l.length) (hc : m ≤ c) (hb : m ≤ 1048576) : IterL Tryd.prog G 99 [pt 1 0] m (fun k => [dgV ((leafI kk (l.getD k default)).1)]) [rwR cItem l, rfB (slv 0 0 m c), rfB (slv 3 0 0 0), dsB (acL kk l 0)] (fun k => [rwR cItem l, rfB (slv 0 0 m c), rfB (slv 3 0 k k), dsB (acL kk l k), bxB 110 (itemC (l.getD k default)), dgB ((leafI kk (l.getD k default)).1)]) (fun k => [rwR cItem l, rfB (slv 0 0 m c), rfB (slv 3 0 (k + 1) (k + 1)), dsB (acL kk l (k + 1)), bxB 110 (itemC (l.getD k default)), dgB ((leafI kk (l.getD k default)).1)]) (fun _ => True) [rwR cItem l, rfB (slv 0 0 m c), rfB (slv 3 0 m m), dsB (acL kk l m)] := by
  refine iter_intro (fn := Tryd.f99) rfl rfl (nt := 23) rfl rfl rfl ?_
  intro E l' Stop hE hd hY
  refine cy_seq ?_
  refine cy_reg (by kernel_rfl) ?_
  refine r_load (p := pt 1 0) (v := slv 0 0 m c) rfl rfl rfl rfl ?_
  refine r_len (p := slv 0 0 m c) (v := .int .i64 (m : Nat)) rfl rfl rfl rfl ?_
  refine r_move (v := .int .i64 0) rfl rfl rfl ?_
  refine r_doneN (x_round (cy_block ?_))
  refine cy_loop hE (fun k : Nat => [.func (.yield l') #[] #[], pt 1 0, dead, dead, dead, dead, dead, slv 0 0 m c, .int .i64 (m : Nat), .int .i64 (k : Nat)]) (fun k : Nat => [rwR cItem l, rfB (slv 0 0 m c), rfB (slv 3 0 k k), dsB (acL kk l k)]) (fun k : Nat => k ≤ m) (fun k : Nat => m - k) 0 (Nat.zero_le _) ?_ ?_
  · refine weak_to (n := 4) rfl ?_ (by kernel_rfl) (by kernel_rfl)
    repeat (first | exact trivial | refine ⟨.inl rfl, ?_⟩ | refine ⟨.inr ⟨rfl, rfl⟩, ?_⟩ | refine ⟨.inr ⟨congrArg (Value.int .i64) (by first | omega | (dsimp only; omega)), rfl⟩, ?_⟩)
  rintro k hk
  refine cy_hole hE 2 (H' := [rwR cItem l, rfB (slv 0 0 m c), rfB (slv 3 0 k k), dsB (acL kk l k), hole, hole]) rfl ?_
  have hks : ∀ j, j < k → True := fun _ _ => trivial
  refine cy_seq ?_
  refine cy_reg (by kernel_rfl) ?_
  by_cases h1 : (k : Nat) < (m : Nat)
  refine r_bin (v := .bool true) (vx := .int .i64 (k : Nat)) (vy := .int .i64 (m : Nat)) rfl rfl rfl rfl (lss_t (by omega)) ?_
  refine r_doneN (x_round (cy_seq (cy_true rfl (cy_skip (x_round (cy_seq (cy_block (cy_seq ?_))))))))
  refine cy_reg (by kernel_rfl) ?_
  refine r_idxS (b := 0) (o := 0) (j := k * 110) (m := m) (c := c) (sz := 110) (i := (k : Nat)) (k := .i64) rfl rfl rfl rfl rfl (by omega) (by omega) (by omega) ?_
  refine r_load (p := pt 0 (k * 110)) (v := itemV (l.getD k default)) rfl rfl rfl (load_rw (n := 0) (m := 110) cItem rfl rfl rfl rfl (by omega) (by omega)) ?_
  refine r_alloc (b := bxB 110 (itemC (⟨0, (⟨0, 0, 0, ⟨#[]⟩, (⟨(⟨0, 0, 0, dz, 0⟩ : Head), 0, dz⟩ : Signed), (⟨0, 0, 0, 0, dz⟩ : Claim)⟩ : Entry)⟩ : Item))) (nid := 4) (H' := [rwR cItem l, rfB (slv 0 0 m c), rfB (slv 3 0 k k), dsB (acL kk l k), bxB 110 (itemC (⟨0, (⟨0, 0, 0, ⟨#[]⟩, (⟨(⟨0, 0, 0, dz, 0⟩ : Head), 0, dz⟩ : Signed), (⟨0, 0, 0, 0, dz⟩ : Claim)⟩ : Entry)⟩ : Item)), hole]) rfl rfl (by kernel_rfl) (by kernel_rfl) ?_
  refine r_store (p := pt 4 0) (v := itemV (l.getD k default)) (b := 4) (blk := bxB 110 (itemC (l.getD k default))) (H' := [rwR cItem l, rfB (slv 0 0 m c), rfB (slv 3 0 k k), dsB (acL kk l k), bxB 110 (itemC (l.getD k default)), hole]) rfl rfl rfl (by kernel_rfl) (by kernel_rfl) ?_
  refine r_doneN (x_round (cy_seq ?_))
  refine cy_reg (by kernel_rfl) ?_
  refine r_load (p := pt 4 0) (v := itemV (l.getD k default)) rfl rfl rfl (by kernel_rfl) ?_
  refine r_callP (Leaf_ok (G := G) kk hG (l.getD k default)) (vals := [itemV (l.getD k default)]) (res' := .tuple #[dgV ((leafI kk (l.getD k default)).1), .int .i64 (((leafI kk (l.getD k default)).2))]) rfl rfl rfl rfl rfl (by kernel_rfl) ?_
  refine r_move (v := .tuple #[dgV ((leafI kk (l.getD k default)).1), .int .i64 (((leafI kk (l.getD k default)).2))]) rfl rfl rfl ?_
  refine r_extract (vs := #[dgV ((leafI kk (l.getD k default)).1), .int .i64 (((leafI kk (l.getD k default)).2))]) (v := dgV ((leafI kk (l.getD k default)).1)) rfl rfl rfl rfl ?_
  refine r_extract (vs := #[dgV ((leafI kk (l.getD k default)).1), .int .i64 (((leafI kk (l.getD k default)).2))]) (v := .int .i64 (((leafI kk (l.getD k default)).2))) rfl rfl rfl rfl ?_
  refine r_alloc (b := dgB dz) (nid := 5) (H' := [rwR cItem l, rfB (slv 0 0 m c), rfB (slv 3 0 k k), dsB (acL kk l k), bxB 110 (itemC (l.getD k default)), dgB dz]) rfl rfl (by kernel_rfl) (by kernel_rfl) ?_
  refine r_store (p := pt 5 0) (v := dgV ((leafI kk (l.getD k default)).1)) (b := 5) (blk := dgB ((leafI kk (l.getD k default)).1)) (H' := [rwR cItem l, rfB (slv 0 0 m c), rfB (slv 3 0 k k), dsB (acL kk l k), bxB 110 (itemC (l.getD k default)), dgB ((leafI kk (l.getD k default)).1)]) rfl rfl rfl (by kernel_rfl) (by kernel_rfl) ?_
  refine r_assign (v := .int .i64 (((leafI kk (l.getD k default)).2))) rfl rfl rfl ?_
  refine r_doneN (x_round (cy_seq ?_))
  refine cy_yield (fun w' h => ⟨w', h, rfl⟩) 2 rfl rfl rfl (by kernel_rfl) ?_
  refine r_move (v := .func (.yield l') #[] #[]) rfl rfl rfl ?_
  refine r_load (p := pt 5 0) (v := dgV ((leafI kk (l.getD k default)).1)) rfl rfl rfl (by kernel_rfl) ?_
  refine r_done ?_
  show YGoal _ _ _ _ _ _ _ _ _ _ _ _ _
  unfold YGoal
  refine ⟨l', [dgV ((leafI kk (l.getD k default)).1)], [rwR cItem l, rfB (slv 0 0 m c), rfB (slv 3 0 (k + 1) (k + 1)), dsB (acL kk l (k + 1)), bxB 110 (itemC (l.getD k default)), dgB ((leafI kk (l.getD k default)).1)], True, rfl, rfl, by decide, hY k (by omega) hks, fun hok => ?_, ?_⟩
  refine r_un (v := .bool false) (vx := .bool true) rfl rfl rfl un_not ?_
  refine r_doneN (x_round (cy_false rfl (cy_skip (x_blockN (x_round ?_)))))
  refine cy_reg (by kernel_rfl) ?_
  refine r_bin (v := .int .i64 ((k : Nat) + 1)) (vx := .int .i64 (k : Nat)) (vy := .int .i64 1) rfl rfl rfl rfl (bin_add (by omega) (by omega) (by omega)) ?_
  refine r_move (v := .int .i64 ((k : Nat) + 1)) rfl rfl rfl ?_
  refine r_doneN ?_
  refine x_round ⟨(k + 1), (show k + 1 ≤ m by omega), by show m - (k + 1) < m - k; omega, ?_⟩
  refine weak_to (n := 4) rfl ?_ (by kernel_rfl) (by kernel_rfl)
  repeat (first | exact trivial | refine ⟨.inl rfl, ?_⟩ | refine ⟨.inr ⟨rfl, rfl⟩, ?_⟩ | refine ⟨.inr ⟨congrArg (Value.int .i64) (by first | omega | (dsimp only; omega)), rfl⟩, ?_⟩)
  refine r_un (v := .bool true) (vx := .bool false) rfl rfl rfl un_not ?_
  refine r_doneN (x_round (cr_true rfl (cr_ret (x_blockR (x_leaveR (x_leaveR (x_blockR ?_)))))))
  exact ⟨.inr rfl⟩
  refine r_bin (v := .bool false) (vx := .int .i64 (k : Nat)) (vy := .int .i64 (m : Nat)) rfl rfl rfl rfl (lss_f (by omega)) ?_
  refine r_doneN (x_round (cy_seq (cy_false rfl (cy_exit (x_leaveE (x_leaveE (x_block rfl ?_)))))))
  obtain rfl : k = m := by omega
  exact ⟨⟨.inl rfl, fun _ _ => trivial, _, weak_to (l := []) (n := 4) rfl trivial (by kernel_rfl) (by kernel_rfl)⟩⟩
theorem appSeq_ok (kk : Nat → BitVec 32) (hG : G 1 = some (rowE w32 64 kk)) (l : List Item) (m c : Nat) (hm : m ≤ l.length) (hc : m ≤ c) (hb : m ≤ 1048576) : CallL Tryd.prog G 98 [.slice none 0 0, .func (.func 99) #[] #[pt 1 0]] [rwR cItem l, rfB (slv 0 0 m c)] (slv 2 0 m m) [rwR cItem l, rfB (slv 0 0 m c), dsB (acL kk l m)] := by
  refine CallL.introM (fn := Tryd.f98) rfl rfl (nt := 13) rfl rfl ?_
  refine cm_seq (cm_run ?_)
  refine cr_hole 2 (H' := [rwR cItem l, rfB (slv 0 0 m c), hole, hole]) rfl ?_
  refine cr_reg (by kernel_rfl) ?_
  refine r_box (v := .slice none 0 0) (b := rfB (.slice none 0 0)) (nid := 2) (H' := [rwR cItem l, rfB (slv 0 0 m c), rfB (.slice none 0 0), hole]) rfl rfl rfl (by kernel_rfl) (by kernel_rfl) ?_
  refine r_assign (v := .slice none 0 0) rfl rfl rfl ?_
  refine r_doneN (x_round (cm_seq (cm_seq (cm_run ?_))))
  refine cr_weak (Weak.nilCell (k := 2) (j := 0) (b := 3) true 32 rfl (by decide) rfl (by show 0 < 1; decide) rfl rfl) ?_
  refine cr_reg (by kernel_rfl) ?_
  refine r_move (v := .func (.func 99) #[] #[pt 1 0]) rfl rfl rfl ?_
  refine r_doneN (x_round ?_)
  have hiter := leaves_iter (G := G) kk hG l m c hm hc hb
  refine cm_range (lbs := #[pt 1 0]) (iter := hiter) rfl rfl rfl (by intro _ _; rfl) (by kernel_rfl) ?_ ?_
  · intro lp k hk hks
    refine cr_hole 2 (H' := [rwR cItem l, rfB (slv 0 0 m c), rfB (slv 3 0 k k), dsB (acL kk l k), bxB 110 (itemC (l.getD k default)), dgB ((leafI kk (l.getD k default)).1), hole, hole]) rfl ?_
    refine cr_reg (by kernel_rfl) ?_
    refine r_alloc (b := dgB dz) (nid := 6) (H' := [rwR cItem l, rfB (slv 0 0 m c), rfB (slv 3 0 k k), dsB (acL kk l k), bxB 110 (itemC (l.getD k default)), dgB ((leafI kk (l.getD k default)).1), dgB dz, hole]) rfl rfl (by kernel_rfl) (by kernel_rfl) ?_
    refine r_store (p := pt 6 0) (v := dgV ((leafI kk (l.getD k default)).1)) (b := 6) (blk := dgB ((leafI kk (l.getD k default)).1)) (H' := [rwR cItem l, rfB (slv 0 0 m c), rfB (slv 3 0 k k), dsB (acL kk l k), bxB 110 (itemC (l.getD k default)), dgB ((leafI kk (l.getD k default)).1), dgB ((leafI kk (l.getD k default)).1), hole]) rfl rfl rfl (by kernel_rfl) (by kernel_rfl) ?_
    refine r_doneN (x_round (cr_block ?_))
    refine cr_reg (by kernel_rfl) ?_
    refine r_load (p := pt 2 0) (v := slv 3 0 k k) rfl rfl rfl rfl ?_
    refine r_load (p := pt 6 0) (v := dgV ((leafI kk (l.getD k default)).1)) rfl rfl rfl (by kernel_rfl) ?_
    refine r_lit (vs := [(0, dgV ((leafI kk (l.getD k default)).1))]) (v := slv 7 0 1 1) (blk := dsB [(leafI kk (l.getD k default)).1]) (nid := 7) (H' := [rwR cItem l, rfB (slv 0 0 m c), rfB (slv 3 0 k k), dsB (acL kk l k), bxB 110 (itemC (l.getD k default)), dgB ((leafI kk (l.getD k default)).1), dgB ((leafI kk (l.getD k default)).1), dsB [(leafI kk (l.getD k default)).1]]) rfl rfl rfl (by kernel_rfl) (by kernel_rfl) ?_
    have hl1 : ((acL kk l k) ++ [(leafI kk (l.getD k default)).1]).length = k + 1 := by have := (acL_len kk l k); have := (rfl : _ = 1); first | (rw [List.length_append]; omega) | (simp; omega) | simp
    refine r_append (p := slv 3 0 k k) (q := slv 7 0 1 1) (v := slv 3 0 (k + 1) (k + 1)) (b := 3) (blk := dsB ((acL kk l k) ++ [(leafI kk (l.getD k default)).1])) (H' := [rwR cItem l, rfB (slv 0 0 m c), rfB (dead), dsB ((acL kk l k) ++ [(leafI kk (l.getD k default)).1]), bxB 110 (itemC (l.getD k default)), dgB ((leafI kk (l.getD k default)).1), dgB ((leafI kk (l.getD k default)).1), dsB [(leafI kk (l.getD k default)).1]]) rfl rfl rfl (.inl ⟨_, rfl⟩) rfl rfl (appD_rw cDg (by_ := 32) (k := 1) (n' := k + 1) (ms := [(leafI kk (l.getD k default)).1]) (fun _ => rfl) rfl rfl (by kernel_rfl) rfl rfl (by have := (acL_len kk l k); omega) (by omega) (by decide) (by omega)) rfl (by kernel_rfl) ?_
    refine r_store (p := pt 2 0) (v := slv 3 0 (k + 1) (k + 1)) (b := 2) (blk := rfB (slv 3 0 (k + 1) (k + 1))) (H' := [rwR cItem l, rfB (slv 0 0 m c), rfB (slv 3 0 (k + 1) (k + 1)), dsB ((acL kk l k) ++ [(leafI kk (l.getD k default)).1]), bxB 110 (itemC (l.getD k default)), dgB ((leafI kk (l.getD k default)).1), dgB ((leafI kk (l.getD k default)).1), dsB [(leafI kk (l.getD k default)).1]]) rfl rfl rfl (by kernel_rfl) (by kernel_rfl) ?_
    refine r_doneN (x_blockN ?_)
    exact ⟨⟨trivial, _, weak_to (l := []) (n := 6) rfl trivial (by kernel_rfl) (by kernel_rfl)⟩⟩
  intro hall
  show CW none _ _ _ _ _ _ _
  refine cr_seq ?_
  refine cr_reg (by kernel_rfl) ?_
  refine r_load (p := pt 2 0) (v := slv 3 0 m m) rfl rfl rfl rfl ?_
  refine r_assign (v := slv 3 0 m m) rfl rfl rfl ?_
  refine r_doneN (x_round (cr_ret (x_leaveR (x_end ?_))))
  exact end_map [0, 1, 3] (v := slv 3 0 m m) rfl (by kernel_rfl) rfl rfl (by decide) (by simp [keptB, rwR, rfB, dsB, okId, okId0, cItem]) ⟨rfl, rfl, rfl, by first | omega | exact Nat.le_refl _ | exact Nat.zero_le _ | (dsimp only; omega), by first | omega | exact Nat.le_refl _ | exact Nat.zero_le _ | (dsimp only; omega)⟩
theorem collect_ok (kk : Nat → BitVec 32) (hG : G 1 = some (rowE w32 64 kk)) (l : List Item) (m c : Nat) (hm : m ≤ l.length) (hc : m ≤ c) (hb : m ≤ 1048576) : CallL Tryd.prog G 75 [.func (.func 99) #[] #[pt 1 0]] [rwR cItem l, rfB (slv 0 0 m c)] (slv 2 0 m m) [rwR cItem l, rfB (slv 0 0 m c), dsB (acL kk l m)] := by
  refine walk (fn := Tryd.f75) (nt := 5) rfl rfl rfl rfl ?_
  refine c_hole 1 (H' := [rwR cItem l, rfB (slv 0 0 m c), hole]) rfl ?_
  refine c_seq (c_reg ?_)
  refine r_assign (v := .slice none 0 0) rfl rfl rfl ?_
  refine r_doneN (x_then (c_seq (c_reg ?_)))
  refine r_move (v := .func (.func 99) #[] #[pt 1 0]) rfl rfl rfl ?_
  refine r_callN (e := [some (0, 0), some (1, 0)]) (nid := 2) (appSeq_ok (G := G) kk hG l m c hm hc hb) (vals := [.slice none 0 0, .func (.func 99) #[] #[pt 1 0]]) (v := slv 2 0 m m) (H' := [rwR cItem l, rfB (slv 0 0 m c), dsB (acL kk l m)]) rfl rfl rfl rfl rfl rfl rfl ⟨⟨rfl, ⟨by simp [renC, renC0, mapE, idE], by kernel_rfl⟩, trivial⟩, ⟨(emb_rwR rfl), (emb_wr rfl rfl rfl rfl), trivial⟩, rfl, rfl, rfl⟩ (by kernel_rfl) (by kernel_rfl) ?_
  refine r_assign (v := slv 2 0 m m) rfl rfl rfl ?_
  refine r_doneN (x_then (c_ret (x_end ?_)))
  exact end_map [0, 1, 2] (v := slv 2 0 m m) rfl (by kernel_rfl) rfl rfl (by decide) (by simp [keptB, rwR, rfB, dsB, okId, okId0, cItem]) ⟨rfl, rfl, rfl, by first | omega | exact Nat.le_refl _ | exact Nat.zero_le _ | (dsimp only; omega), by first | omega | exact Nat.le_refl _ | exact Nat.zero_le _ | (dsimp only; omega)⟩
end Go.Flat
