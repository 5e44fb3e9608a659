/- Walks and plain laws: what each theorem says, within the bounds that it names. -/
import Derived.Test.YtgmnjggeffdjhaaDoorE4
import Derived.Test.YtgmnjggeffdjhaaDoorH10
set_option linter.unusedVariables false
set_option linter.unusedSimpArgs false
set_option maxRecDepth 20000
namespace Go.Flat
open Go.Proofs
variable {G : Glob}
def anP (x : Item) (region : Int) : Bool := decide (x.entry.kind = 2 ∧ x.entry.head.head.region = region)
def latG (r : Int) : List Item → Signed × Bool → Signed × Bool
  | [], acc => acc
  | x :: l, acc => latG r l (if anP x r = true then (x.entry.head, true) else acc)
def latL (l : List Item) (r : Int) : Signed × Bool := latG r l (⟨⟨0, 0, 0, dz, 0⟩, 0, dz⟩, false)
theorem latG_skip {r : Int} {l : List Item} {acc : Signed × Bool} : ∀ (d i : Nat), l.length - i = d → (∀ j, i ≤ j → j < l.length → anP (l.getD j default) r = false) → latG r (l.drop i) acc = acc
  | 0, i, h, _ => by rw [List.drop_of_length_le (by omega)]; rfl
  | d + 1, i, h, hn => by
    rw [drop_gd l i (by omega), latG, if_neg (by rw [hn i (Nat.le_refl _) (by omega)]; decide)]
    exact latG_skip d (i + 1) (by omega) fun j h1 h2 => hn j (by omega) h2
theorem latG_app (r : Int) : ∀ (a b : List Item) (acc : Signed × Bool), latG r (a ++ b) acc = latG r b (latG r a acc)
  | [], b, acc => rfl
  | x :: a, b, acc => latG_app r a b _
theorem lat_hit {l : List Item} {r : Int} {i : Nat} (hi : i < l.length) (h : anP (l.getD i default) r = true) (hn : ∀ j, i < j → j < l.length → anP (l.getD j default) r = false) : latL l r = ((l.getD i default).entry.head, true) := by
  unfold latL
  have e : latG r l (⟨⟨0, 0, 0, dz, 0⟩, 0, dz⟩, false) = latG r (l.drop i) (latG r (l.take i) (⟨⟨0, 0, 0, dz, 0⟩, 0, dz⟩, false)) := by
    rw [← latG_app, List.take_append_drop]
  rw [e, drop_gd l i hi, latG, if_pos h]
  exact latG_skip _ (i + 1) rfl fun j h1 h2 => hn j h1 h2
theorem lat_none {l : List Item} {r : Int} (hn : ∀ j, j < l.length → anP (l.getD j default) r = false) : latL l r = (⟨⟨0, 0, 0, dz, 0⟩, 0, dz⟩, false) := latG_skip (l := l) _ 0 rfl fun j _ h => hn j h
theorem lat_conv {l : List Item} {r : Int} {n m j : Nat} (h : ∀ k, k < m → anP (l.getD (n - k - 1) default) r = false) (h1 : n - m ≤ j) (h2 : j < n) : anP (l.getD j default) r = false := by
  have := h (n - j - 1) (by omega)
  rwa [show n - (n - j - 1) - 1 = j from by omega] at this
def plF (r s : Int) : Nat → List Item → Int × Bool
  | _, [] => (0, false)
  | i, x :: l => if anP x r = true ∧ s < x.entry.head.head.size then ((i : Int), true) else plF r s (i + 1) l
def plL (l : List Item) (r s : Int) : Int × Bool := plF r s 0 l
theorem plF_no {r s : Int} {l : List Item} {i : Nat} {R : Int × Bool} (hR : plF r s i (l.drop i) = R) (hi : i < l.length) (h : ¬ (anP (l.getD i default) r = true ∧ s < (l.getD i default).entry.head.head.size)) : plF r s (i + 1) (l.drop (i + 1)) = R := by
  rw [drop_gd l i hi, plF, if_neg h] at hR; exact hR
theorem plF_yes {r s : Int} {l : List Item} {i : Nat} {R : Int × Bool} (hR : plF r s i (l.drop i) = R) (hi : i < l.length) (h : anP (l.getD i default) r = true ∧ s < (l.getD i default).entry.head.head.size) : R = ((i : Int), true) := by
  rw [drop_gd l i hi, plF, if_pos h] at hR; exact hR.symm
theorem of_ok (x : Item) (region : Int) : CallL Tryd.prog G 32 [itemV x, .int .i64 region] [] (.bool (anP x region)) [] := by
  refine walk (fn := Tryd.f32) (nt := 18) rfl rfl rfl rfl ?_
  refine c_hole 1 (H' := [hole]) rfl ?_
  refine c_seq (c_reg ?_)
  refine r_box (v := itemV x) (b := bxB 110 (itemC x)) (nid := 0) (H' := [bxB 110 (itemC x)]) rfl rfl rfl (by kernel_rfl) (by kernel_rfl) ?_
  refine r_assign (v := .bool false) rfl rfl rfl ?_
  refine r_doneN (x_then (c_seq (c_reg ?_)))
  refine r_fieldAddr (b := 0) (o := 0) (n := 1) (o' := 1) rfl rfl rfl rfl rfl ?_
  refine r_fieldAddr (b := 0) (o := 1) (n := 0) (o' := 1) rfl rfl rfl rfl rfl ?_
  refine r_load (p := pt 0 1) (v := .int .i64 x.entry.kind) rfl rfl rfl (by kernel_rfl) ?_
  by_cases h1 : x.entry.kind = 2
  refine r_bin (v := .bool true) (vx := .int .i64 x.entry.kind) (vy := .int .i64 2) rfl rfl rfl rfl (eql_t (by omega)) ?_
  refine r_move (v := .bool true) rfl rfl rfl ?_
  refine r_fieldAddr (b := 0) (o := 0) (n := 1) (o' := 1) rfl rfl rfl rfl rfl ?_
  refine r_fieldAddr (b := 0) (o := 1) (n := 4) (o' := 5) rfl rfl rfl rfl rfl ?_
  refine r_fieldAddr (b := 0) (o := 5) (n := 0) (o' := 5) rfl rfl rfl rfl rfl ?_
  refine r_fieldAddr (b := 0) (o := 5) (n := 0) (o' := 5) rfl rfl rfl rfl rfl ?_
  refine r_load (p := pt 0 5) (v := .int .i64 x.entry.head.head.region) rfl rfl rfl (by kernel_rfl) ?_
  refine r_move (v := .int .i64 region) rfl rfl rfl ?_
  by_cases h2 : x.entry.head.head.region = region
  refine r_bin (v := .bool true) (vx := .int .i64 x.entry.head.head.region) (vy := .int .i64 region) rfl rfl rfl rfl (eql_t (by omega)) ?_
  refine r_pick (v := .bool true) rfl rfl rfl ?_
  refine r_assign (v := .bool true) rfl rfl rfl ?_
  refine r_doneN (x_then (c_ret (x_end ?_)))
  rw [show anP x region = true from decide_eq_true ⟨by omega, by omega⟩]
  exact end_same (v := .bool true) rfl rfl rfl (by kernel_rfl) rfl
  refine r_bin (v := .bool false) (vx := .int .i64 x.entry.head.head.region) (vy := .int .i64 region) rfl rfl rfl rfl (eql_f (by omega)) ?_
  refine r_pick (v := .bool false) rfl rfl rfl ?_
  refine r_assign (v := .bool false) rfl rfl rfl ?_
  refine r_doneN (x_then (c_ret (x_end ?_)))
  rw [show anP x region = false from decide_eq_false (fun q => by have := q.1; have := q.2; omega)]
  exact end_same (v := .bool false) rfl rfl rfl (by kernel_rfl) rfl
  refine r_bin (v := .bool false) (vx := .int .i64 x.entry.kind) (vy := .int .i64 2) rfl rfl rfl rfl (eql_f (by omega)) ?_
  refine r_move (v := .bool false) rfl rfl rfl ?_
  refine r_skip rfl rfl (r_skip rfl rfl (r_skip rfl rfl (r_skip rfl rfl (r_skip rfl rfl (r_skip rfl rfl (r_skip rfl rfl ?_))))))
  refine r_pick (v := .bool false) rfl rfl rfl ?_
  refine r_assign (v := .bool false) rfl rfl rfl ?_
  refine r_doneN (x_then (c_ret (x_end ?_)))
  rw [show anP x region = false from decide_eq_false (fun q => by have := q.1; have := q.2; omega)]
  exact end_same (v := .bool false) rfl rfl rfl (by kernel_rfl) rfl
theorem back_ok (l : List Item) (n c : Nat) (hn : l.length = n) (hc : n ≤ c) (hb : n ≤ 1048576) : CallL Tryd.prog G 31 [slv 0 0 n c] [rwR cItem l] (.func (.func 52) #[] #[pt 1 0]) [rwR cItem l, rfB (slv 0 0 n c)] := by
  refine walk (fn := Tryd.f31) (nt := 4) rfl rfl rfl rfl ?_
  refine c_hole 1 (H' := [rwR cItem l, hole]) rfl ?_
  refine c_seq (c_reg ?_)
  refine r_box (v := slv 0 0 n c) (b := rfB (slv 0 0 n c)) (nid := 1) (H' := [rwR cItem l, rfB (slv 0 0 n c)]) rfl rfl rfl (by kernel_rfl) (by kernel_rfl) ?_
  refine r_assign (v := .nilFunc) rfl rfl rfl ?_
  refine r_doneN (x_then (c_seq (c_reg ?_)))
  refine r_closure (vs := []) (ws := [pt 1 0]) rfl rfl rfl rfl rfl ?_
  refine r_assign (v := .func (.func 52) #[] #[pt 1 0]) rfl rfl rfl ?_
  refine r_doneN (x_then (c_ret (x_end ?_)))
  exact end_map [0, 1] (v := .func (.func 52) #[] #[pt 1 0]) rfl (by kernel_rfl) rfl rfl (by decide) (by simp [keptB, rwR, rfB, okId, okId0, cItem]) ⟨by simp [renC, renC0, mapE, idE], by kernel_rfl⟩
theorem back_L (l : List Item) (n c : Nat) (hn : l.length = n) (hc : n ≤ c) (hb : n ≤ 1048576) (region : Int) (ok : Nat → Prop) : IterL Tryd.prog G 52 [pt 4 0] n (fun k => [.int .i64 (n - k - 1 : Nat), itemV (l.getD (n - k - 1) default)]) [rwR cItem l, bxB 1 ([.int .i64 region]), bxB 69 (signedC (⟨(⟨0, 0, 0, dz, 0⟩ : Head), 0, dz⟩ : Signed)), bxB 1 ([.bool false]), rfB (slv 0 0 n c)] (fun _ => [rwR cItem l, bxB 1 ([.int .i64 region]), bxB 69 (signedC (⟨(⟨0, 0, 0, dz, 0⟩ : Head), 0, dz⟩ : Signed)), bxB 1 ([.bool false]), rfB (slv 0 0 n c)]) (fun _ => [rwR cItem l, bxB 1 ([.int .i64 region]), bxB 69 (signedC (⟨(⟨0, 0, 0, dz, 0⟩ : Head), 0, dz⟩ : Signed)), bxB 1 ([.bool false]), rfB (slv 0 0 n c)]) ok [rwR cItem l, bxB 1 ([.int .i64 region]), bxB 69 (signedC (⟨(⟨0, 0, 0, dz, 0⟩ : Head), 0, dz⟩ : Signed)), bxB 1 ([.bool false]), rfB (slv 0 0 n c)] := by
  refine iter_intro (fn := Tryd.f52) rfl rfl (nt := 19) rfl rfl rfl ?_
  intro E l' Stop hE hd hY
  refine cy_seq ?_
  refine cy_reg (by kernel_rfl) ?_
  refine r_load (p := pt 4 0) (v := slv 0 0 n c) rfl rfl rfl rfl ?_
  refine r_len (p := slv 0 0 n c) (v := .int .i64 (n : Nat)) rfl rfl rfl rfl ?_
  refine r_bin (v := .int .i64 ((n : Nat) - 1)) (vx := .int .i64 (n : Nat)) (vy := .int .i64 1) rfl rfl rfl rfl (bin_sub (by omega) (by omega) (by omega)) ?_
  refine r_assign (v := .int .i64 ((n : Nat) - 1)) rfl rfl rfl ?_
  refine r_doneN (x_round (cy_block ?_))
  refine cy_loop hE (fun k : Nat => [.func (.yield l') #[] #[], pt 4 0, dead, .int .i64 (((n : Nat) : Int) - ((k : Nat) : Int) - 1), slv 0 0 n c, .int .i64 (n : Nat), .int .i64 ((n : Nat) - 1)]) (fun k : Nat => [rwR cItem l, bxB 1 ([.int .i64 region]), bxB 69 (signedC (⟨(⟨0, 0, 0, dz, 0⟩ : Head), 0, dz⟩ : Signed)), bxB 1 ([.bool false]), rfB (slv 0 0 n c)]) (fun k : Nat => (∀ j, j < k → ok j) ∧ k ≤ n) (fun k : Nat => n - k) 0 ⟨fun _ h => absurd h (by omega), by omega⟩ ?_ ?_
  · refine weak_to (n := 5) rfl ?_ (by kernel_rfl) (by kernel_rfl)
    repeat (first | exact trivial | refine ⟨.inl rfl, ?_⟩ | refine ⟨.inr ⟨rfl, rfl⟩, ?_⟩ | refine ⟨.inr ⟨congrArg (Value.int .i64) (by first | omega | (dsimp only; omega)), rfl⟩, ?_⟩)
  rintro k ⟨hks, hk⟩
  refine cy_seq (cy_seq ?_)
  refine cy_reg (by kernel_rfl) ?_
  refine r_move (v := .int .i64 (((n : Nat) : Int) - ((k : Nat) : Int) - 1)) rfl rfl rfl ?_
  by_cases h1 : 0 ≤ ((n : Nat) : Int) - ((k : Nat) : Int) - 1
  refine r_bin (v := .bool true) (vx := .int .i64 (((n : Nat) : Int) - ((k : Nat) : Int) - 1)) (vy := .int .i64 0) rfl rfl rfl rfl (geq_t (by omega)) ?_
  refine r_doneN (x_round (cy_true rfl (cy_skip (x_round (cy_seq (cy_block (cy_seq ?_)))))))
  refine cy_yield (fun w' h => ⟨w', h, rfl⟩) 6 rfl rfl rfl (by kernel_rfl) ?_
  refine r_move (v := .func (.yield l') #[] #[]) rfl rfl rfl ?_
  refine r_move (v := .int .i64 (((n : Nat) : Int) - ((k : Nat) : Int) - 1)) rfl rfl rfl ?_
  refine r_load (p := pt 4 0) (v := slv 0 0 n c) rfl rfl rfl rfl ?_
  refine r_move (v := .int .i64 (((n : Nat) : Int) - ((k : Nat) : Int) - 1)) rfl rfl rfl ?_
  refine r_idxS (b := 0) (o := 0) (j := (n - k - 1) * 110) (m := n) (c := c) (sz := 110) (i := ((n : Nat) : Int) - ((k : Nat) : Int) - 1) (k := .i64) rfl rfl rfl rfl rfl (by omega) (by omega) (by omega) ?_
  refine r_load (p := pt 0 ((n - k - 1) * 110)) (v := itemV (l.getD (n - k - 1) default)) rfl rfl rfl (load_rw (n := 0) (m := 110) cItem rfl rfl rfl rfl (by have := hn; omega) (by omega)) ?_
  refine r_done ?_
  show YGoal _ _ _ _ _ _ _ _ _ _ _ _ _
  unfold YGoal
  refine ⟨l', [.int .i64 (((n : Nat) : Int) - ((k : Nat) : Int) - 1), itemV (l.getD (n - k - 1) default)], [rwR cItem l, bxB 1 ([.int .i64 region]), bxB 69 (signedC (⟨(⟨0, 0, 0, dz, 0⟩ : Head), 0, dz⟩ : Signed)), bxB 1 ([.bool false]), rfB (slv 0 0 n c)], (ok k), rfl, rfl, by decide, (by have h := hY k (by omega) hks; rw [show ((n - k - 1 : Nat) : Int) = ((n : Nat) : Int) - ((k : Nat) : Int) - 1 from by omega] at h; exact h), fun hok => ?_, ?_⟩
  refine r_un (v := .bool false) (vx := .bool true) rfl rfl rfl un_not ?_
  refine r_doneN (x_round (cy_false rfl (cy_skip (x_blockN (x_round ?_)))))
  refine cy_reg (by kernel_rfl) ?_
  refine r_move (v := .int .i64 (((n : Nat) : Int) - ((k : Nat) : Int) - 1)) rfl rfl rfl ?_
  refine r_bin (v := .int .i64 (((n : Nat) : Int) - ((k : Nat) : Int) - 2)) (vx := .int .i64 (((n : Nat) : Int) - ((k : Nat) : Int) - 1)) (vy := .int .i64 1) rfl rfl rfl rfl (bin_sub (by omega) (by omega) (by omega)) ?_
  refine r_assign (v := .int .i64 (((n : Nat) : Int) - ((k : Nat) : Int) - 2)) rfl rfl rfl ?_
  refine r_doneN ?_
  refine x_round ⟨(k + 1), ⟨fun j hj => by rcases Nat.lt_or_ge j k with h | h; exact hks j h; obtain rfl : j = k := (by omega); exact hok, by omega⟩, by show n - (k + 1) < n - k; omega, ?_⟩
  refine weak_to (n := 5) rfl ?_ (by kernel_rfl) (by kernel_rfl)
  repeat (first | exact trivial | refine ⟨.inl rfl, ?_⟩ | refine ⟨.inr ⟨rfl, rfl⟩, ?_⟩ | refine ⟨.inr ⟨congrArg (Value.int .i64) (by first | omega | (dsimp only; omega)), rfl⟩, ?_⟩)
  refine r_un (v := .bool true) (vx := .bool false) rfl rfl rfl un_not ?_
  refine r_doneN (x_round (cr_true rfl (cr_ret (x_blockR (x_leaveR (x_leaveR (x_blockR ?_)))))))
  exact ⟨.inr rfl⟩
  refine r_bin (v := .bool false) (vx := .int .i64 (((n : Nat) : Int) - ((k : Nat) : Int) - 1)) (vy := .int .i64 0) rfl rfl rfl rfl (geq_f (by omega)) ?_
  refine r_doneN (x_round (cy_false rfl (cy_exit (x_leaveE (x_leaveE (x_block rfl ?_))))))
  exact ⟨⟨.inl rfl, fun j hj => hks j (by omega), _, weak_to (l := []) (n := 5) rfl trivial (by kernel_rfl) (by kernel_rfl)⟩⟩
theorem Latest_ok (l : List Item) (n c : Nat) (hn : l.length = n) (hc : n ≤ c) (hb : n ≤ 1048576) (region : Int) : CallL Tryd.prog G 11 [slv 0 0 n c, .int .i64 region] [rwR cItem l] (.tuple #[signedV (latL l region).1, .bool (latL l region).2]) [rwR cItem l] := by
  refine CallL.introM (fn := Tryd.f11) rfl rfl (nt := 19) rfl rfl ?_
  refine cm_seq (cm_run ?_)
  refine cr_hole 4 (H' := [rwR cItem l, hole, hole, hole, hole]) rfl ?_
  refine cr_reg (by kernel_rfl) ?_
  refine r_box (v := .int .i64 region) (b := bxB 1 ([.int .i64 region])) (nid := 1) (H' := [rwR cItem l, bxB 1 ([.int .i64 region]), hole, hole, hole]) rfl rfl rfl (by kernel_rfl) (by kernel_rfl) ?_
  refine r_alloc (b := bxB 69 (signedC (⟨(⟨0, 0, 0, dz, 0⟩ : Head), 0, dz⟩ : Signed))) (nid := 2) (H' := [rwR cItem l, bxB 1 ([.int .i64 region]), bxB 69 (signedC (⟨(⟨0, 0, 0, dz, 0⟩ : Head), 0, dz⟩ : Signed)), hole, hole]) rfl rfl (by kernel_rfl) (by kernel_rfl) ?_
  refine r_alloc (b := bxB 1 ([.bool false])) (nid := 3) (H' := [rwR cItem l, bxB 1 ([.int .i64 region]), bxB 69 (signedC (⟨(⟨0, 0, 0, dz, 0⟩ : Head), 0, dz⟩ : Signed)), bxB 1 ([.bool false]), hole]) rfl rfl (by kernel_rfl) (by kernel_rfl) ?_
  refine r_doneN (x_round (cm_seq (cm_seq (cm_run ?_))))
  refine cr_reg (by kernel_rfl) ?_
  refine r_move (v := slv 0 0 n c) rfl rfl rfl ?_
  refine r_callN (e := [some (0, 0)]) (nid := 4) (back_ok (G := G) l n c hn (by omega) (by omega)) (vals := [slv 0 0 n c]) (v := .func (.func 52) #[] #[pt 4 0]) (H' := [rwR cItem l, bxB 1 ([.int .i64 region]), bxB 69 (signedC (⟨(⟨0, 0, 0, dz, 0⟩ : Head), 0, dz⟩ : Signed)), bxB 1 ([.bool false]), rfB (slv 0 0 n c)]) rfl rfl rfl rfl rfl rfl rfl ⟨⟨⟨rfl, rfl, rfl, by first | omega | exact Nat.le_refl _, by first | omega | exact Nat.le_refl _⟩, trivial⟩, ⟨(emb_rwR rfl), trivial⟩, rfl, rfl, rfl⟩ (by kernel_rfl) (by kernel_rfl) ?_
  refine r_doneN (x_round ?_)
  have hiter := back_L (G := G) l n c hn hc hb region (fun k => anP (l.getD (n - k - 1) default) region = false)
  refine cm_range (lbs := #[pt 4 0]) (iter := hiter) rfl rfl rfl (by intro _ _; rfl) (by kernel_rfl) ?_ ?_
  · intro lp k hk hks
    refine cr_hole 2 (H' := [rwR cItem l, bxB 1 ([.int .i64 region]), bxB 69 (signedC (⟨(⟨0, 0, 0, dz, 0⟩ : Head), 0, dz⟩ : Signed)), bxB 1 ([.bool false]), rfB (slv 0 0 n c), hole, hole]) rfl ?_
    refine cr_reg (by kernel_rfl) ?_
    refine r_alloc (b := bxB 110 (itemC (⟨0, (⟨0, 0, 0, ⟨#[]⟩, (⟨(⟨0, 0, 0, dz, 0⟩ : Head), 0, dz⟩ : Signed), (⟨0, 0, 0, 0, dz⟩ : Claim)⟩ : Entry)⟩ : Item))) (nid := 5) (H' := [rwR cItem l, bxB 1 ([.int .i64 region]), bxB 69 (signedC (⟨(⟨0, 0, 0, dz, 0⟩ : Head), 0, dz⟩ : Signed)), bxB 1 ([.bool false]), rfB (slv 0 0 n c), bxB 110 (itemC (⟨0, (⟨0, 0, 0, ⟨#[]⟩, (⟨(⟨0, 0, 0, dz, 0⟩ : Head), 0, dz⟩ : Signed), (⟨0, 0, 0, 0, dz⟩ : Claim)⟩ : Entry)⟩ : Item)), hole]) rfl rfl (by kernel_rfl) (by kernel_rfl) ?_
    refine r_store (p := pt 5 0) (v := itemV (l.getD (n - k - 1) default)) (b := 5) (blk := bxB 110 (itemC (l.getD (n - k - 1) default))) (H' := [rwR cItem l, bxB 1 ([.int .i64 region]), bxB 69 (signedC (⟨(⟨0, 0, 0, dz, 0⟩ : Head), 0, dz⟩ : Signed)), bxB 1 ([.bool false]), rfB (slv 0 0 n c), bxB 110 (itemC (l.getD (n - k - 1) default)), hole]) rfl rfl rfl (by kernel_rfl) (by kernel_rfl) ?_
    refine r_doneN (x_round (cr_block (cr_seq ?_)))
    refine cr_reg (by kernel_rfl) ?_
    refine r_load (p := pt 5 0) (v := itemV (l.getD (n - k - 1) default)) rfl rfl rfl (by kernel_rfl) ?_
    refine r_load (p := pt 1 0) (v := .int .i64 region) rfl rfl rfl (by kernel_rfl) ?_
    refine r_callP (of_ok (G := G) (l.getD (n - k - 1) default) region) (vals := [itemV (l.getD (n - k - 1) default), .int .i64 region]) (res' := .bool (anP (l.getD (n - k - 1) default) region)) rfl rfl rfl rfl rfl rfl ?_
    refine r_doneN (x_round ?_)
    rcases Bool.eq_false_or_eq_true (anP (l.getD (n - k - 1) default) region) with h1 | h1
    refine cr_true (by exact congrArg Value.bool h1) ?_
    refine cr_seq ?_
    refine cr_reg (by kernel_rfl) ?_
    refine r_fieldAddr (b := 5) (o := 0) (n := 1) (o' := 1) rfl rfl rfl rfl rfl ?_
    refine r_fieldAddr (b := 5) (o := 1) (n := 4) (o' := 5) rfl rfl rfl rfl rfl ?_
    refine r_load (p := pt 5 5) (v := signedV (((l.getD (n - k - 1) default).entry).head)) rfl rfl rfl (by kernel_rfl) ?_
    refine r_store (p := pt 2 0) (v := signedV (((l.getD (n - k - 1) default).entry).head)) (b := 2) (blk := bxB 69 (signedC (((l.getD (n - k - 1) default).entry).head))) (H' := [rwR cItem l, bxB 1 ([.int .i64 region]), bxB 69 (signedC (((l.getD (n - k - 1) default).entry).head)), bxB 1 ([.bool false]), rfB (slv 0 0 n c), bxB 110 (itemC (l.getD (n - k - 1) default)), hole]) rfl rfl rfl (by kernel_rfl) (by kernel_rfl) ?_
    refine r_store (p := pt 3 0) (v := .bool true) (b := 3) (blk := bxB 1 ([.bool true])) (H' := [rwR cItem l, bxB 1 ([.int .i64 region]), bxB 69 (signedC (((l.getD (n - k - 1) default).entry).head)), bxB 1 ([.bool true]), rfB (slv 0 0 n c), bxB 110 (itemC (l.getD (n - k - 1) default)), hole]) rfl rfl rfl (by kernel_rfl) (by kernel_rfl) ?_
    refine r_doneN (x_round (cr_ret (x_blockR ?_)))
    refine ⟨?_⟩
    show ∃ v e, EndOK _ _ _ _ _ _ _ v e
    rw [show latL l region = ((l.getD (n - k - 1) default).entry.head, true) from lat_hit (by omega) (by assumption) (fun j h1 h2 => lat_conv hks (by omega) (by omega))]
    exact end_map [0] (v := .tuple #[signedV ((l.getD (n - k - 1) default).entry.head), .bool true]) (by kernel_rfl) (by kernel_rfl) rfl rfl (by decide) (by simp [keptB, rwR, cItem]) ⟨(argV_p (by kernel_rfl) rfl), rfl, trivial⟩
    refine cr_false (by exact congrArg Value.bool h1) ?_
    refine cr_skip (x_blockN ?_)
    exact ⟨⟨(by show _ = false; assumption), _, weak_to (l := []) (n := 5) rfl trivial (by kernel_rfl) (by kernel_rfl)⟩⟩
  intro hall
  show CW none _ _ _ _ _ _ _
  refine cr_seq ?_
  refine cr_reg (by kernel_rfl) ?_
  refine r_build (vs := []) (v := signedV (⟨(⟨0, 0, 0, dz, 0⟩ : Head), 0, dz⟩ : Signed)) rfl rfl rfl (by kernel_rfl) ?_
  refine r_store (p := pt 2 0) (v := signedV (⟨(⟨0, 0, 0, dz, 0⟩ : Head), 0, dz⟩ : Signed)) (b := 2) (blk := bxB 69 (signedC (⟨(⟨0, 0, 0, dz, 0⟩ : Head), 0, dz⟩ : Signed))) (H' := [rwR cItem l, bxB 1 ([.int .i64 region]), bxB 69 (signedC (⟨(⟨0, 0, 0, dz, 0⟩ : Head), 0, dz⟩ : Signed)), bxB 1 ([.bool false]), rfB (slv 0 0 n c)]) rfl rfl rfl (by kernel_rfl) (by kernel_rfl) ?_
  refine r_store (p := pt 3 0) (v := .bool false) (b := 3) (blk := bxB 1 ([.bool false])) (H' := [rwR cItem l, bxB 1 ([.int .i64 region]), bxB 69 (signedC (⟨(⟨0, 0, 0, dz, 0⟩ : Head), 0, dz⟩ : Signed)), bxB 1 ([.bool false]), rfB (slv 0 0 n c)]) rfl rfl rfl (by kernel_rfl) (by kernel_rfl) ?_
  refine r_doneN (x_round (cr_ret (x_leaveR (x_end ?_))))
  rw [show latL l region = (⟨⟨0, 0, 0, dz, 0⟩, 0, dz⟩, false) from lat_none (fun j h => lat_conv hall (by omega) (by omega))]
  exact end_map [0] (v := .tuple #[signedV (⟨(⟨0, 0, 0, dz, 0⟩ : Head), 0, dz⟩ : Signed), .bool false]) (by kernel_rfl) (by kernel_rfl) rfl rfl (by decide) (by simp [keptB, rwR, cItem]) ⟨(argV_p (by kernel_rfl) rfl), rfl, trivial⟩
theorem Place_ok (l : List Item) (n c : Nat) (hn : l.length = n) (hc : n ≤ c) (hb : n ≤ 1048576) (region size : Int) : CallL Tryd.prog G 13 [slv 0 0 n c, .int .i64 region, .int .i64 size] [rwR cItem l] (.tuple #[.int .i64 (plL l region size).1, .bool (plL l region size).2]) [rwR cItem l] := by
  refine walk (fn := Tryd.f13) (nt := 31) rfl rfl rfl rfl ?_
  refine c_seq (c_reg ?_)
  refine r_assign (v := .int .i64 0) rfl rfl rfl ?_
  refine r_assign (v := .bool false) rfl rfl rfl ?_
  refine r_doneN (x_then (c_seq (c_seq (c_reg ?_))))
  refine r_move (v := slv 0 0 n c) rfl rfl rfl ?_
  refine r_len (p := slv 0 0 n c) (v := .int .i64 (n : Nat)) rfl rfl rfl rfl ?_
  refine r_move (v := .int .i64 0) rfl rfl rfl ?_
  refine r_doneN (x_then (c_block ?_))
  refine c_loopN (fun i : Nat => [slv 0 0 n c, .int .i64 region, .int .i64 size, dead, dead, dead, dead, dead, dead, dead, slv 0 0 n c, .int .i64 (n : Nat), .int .i64 (i : Nat)]) (fun i : Nat => [rwR cItem l]) (fun i : Nat => plF region size i (l.drop i) = plL l region size ∧ i ≤ n) (fun i : Nat => n - i) 0 ⟨rfl, by omega⟩ ?_ ?_
  · refine weak_to (n := 1) rfl ?_ (by kernel_rfl) (by kernel_rfl)
    repeat (first | exact trivial | refine ⟨.inl rfl, ?_⟩ | refine ⟨.inr ⟨rfl, rfl⟩, ?_⟩ | refine ⟨.inr ⟨congrArg (Value.int .i64) (by first | omega | (dsimp only; omega)), rfl⟩, ?_⟩)
  rintro i ⟨hR, hi⟩
  refine c_hole 1 (H' := [rwR cItem l, hole]) rfl ?_
  refine c_seq (c_reg ?_)
  by_cases h1 : (i : Nat) < (n : Nat)
  refine r_bin (v := .bool true) (vx := .int .i64 (i : Nat)) (vy := .int .i64 (n : Nat)) rfl rfl rfl rfl (lss_t (by omega)) ?_
  refine r_doneN (x_then (c_seq (c_true rfl (c_skip (x_then (c_seq (c_block (c_seq (c_reg ?_)))))))))
  refine r_move (v := .int .i64 (i : Nat)) rfl rfl rfl ?_
  refine r_idxS (b := 0) (o := 0) (j := i * 110) (m := n) (c := c) (sz := 110) (i := (i : Nat)) (k := .i64) rfl rfl rfl rfl rfl (by omega) (by omega) (by omega) ?_
  refine r_load (p := pt 0 (i * 110)) (v := itemV (l.getD i default)) rfl rfl rfl (load_rw (n := 0) (m := 110) cItem rfl rfl rfl rfl (by have := hn; omega) (by omega)) ?_
  refine r_alloc (b := bxB 110 (itemC (⟨0, (⟨0, 0, 0, ⟨#[]⟩, (⟨(⟨0, 0, 0, dz, 0⟩ : Head), 0, dz⟩ : Signed), (⟨0, 0, 0, 0, dz⟩ : Claim)⟩ : Entry)⟩ : Item))) (nid := 1) (H' := [rwR cItem l, bxB 110 (itemC (⟨0, (⟨0, 0, 0, ⟨#[]⟩, (⟨(⟨0, 0, 0, dz, 0⟩ : Head), 0, dz⟩ : Signed), (⟨0, 0, 0, 0, dz⟩ : Claim)⟩ : Entry)⟩ : Item))]) rfl rfl (by kernel_rfl) (by kernel_rfl) ?_
  refine r_assign (v := .int .i64 (i : Nat)) rfl rfl rfl ?_
  refine r_store (p := pt 1 0) (v := itemV (l.getD i default)) (b := 1) (blk := bxB 110 (itemC (l.getD i default))) (H' := [rwR cItem l, bxB 110 (itemC (l.getD i default))]) rfl rfl rfl (by kernel_rfl) (by kernel_rfl) ?_
  refine r_doneN (x_then (c_seq (c_reg ?_)))
  refine r_load (p := pt 1 0) (v := itemV (l.getD i default)) rfl rfl rfl (by kernel_rfl) ?_
  refine r_move (v := .int .i64 region) rfl rfl rfl ?_
  refine r_callP (of_ok (G := G) (l.getD i default) region) (vals := [itemV (l.getD i default), .int .i64 region]) (res' := .bool (anP (l.getD i default) region)) rfl rfl rfl rfl rfl rfl ?_
  refine r_move (v := .bool (anP (l.getD i default) region)) rfl rfl rfl ?_
  rcases Bool.eq_false_or_eq_true (anP (l.getD i default) region) with h2 | h2
  refine r_fieldAddr (b := 1) (o := 0) (n := 1) (o' := 1) (by exact congrArg (fun b => some (b == true)) h2) rfl rfl rfl rfl ?_
  refine r_fieldAddr (b := 1) (o := 1) (n := 4) (o' := 5) (by exact congrArg (fun b => some (b == true)) h2) rfl rfl rfl rfl ?_
  refine r_fieldAddr (b := 1) (o := 5) (n := 0) (o' := 5) (by exact congrArg (fun b => some (b == true)) h2) rfl rfl rfl rfl ?_
  refine r_fieldAddr (b := 1) (o := 5) (n := 2) (o' := 7) (by exact congrArg (fun b => some (b == true)) h2) rfl rfl rfl rfl ?_
  refine r_load (p := pt 1 7) (v := .int .i64 ((((((l.getD i default).entry).head).head).size))) (by exact congrArg (fun b => some (b == true)) h2) rfl rfl (by kernel_rfl) ?_
  refine r_move (v := .int .i64 size) (by exact congrArg (fun b => some (b == true)) h2) rfl rfl ?_
  by_cases h3 : size < ((((((l.getD i default).entry).head).head).size))
  refine r_bin (v := .bool true) (vx := .int .i64 ((((((l.getD i default).entry).head).head).size))) (vy := .int .i64 size) (by exact congrArg (fun b => some (b == true)) h2) rfl rfl rfl (gtr_t (by omega)) ?_
  refine r_pick (v := .bool true) rfl rfl (by show some (if _ then _ else _) = _; rw [h2] <;> rfl) ?_
  refine r_doneN (x_then (c_true rfl (c_seq (c_reg ?_))))
  refine r_move (v := .int .i64 (i : Nat)) rfl rfl rfl ?_
  refine r_assign (v := .int .i64 (i : Nat)) rfl rfl rfl ?_
  refine r_assign (v := .bool true) rfl rfl rfl ?_
  refine r_doneN (x_then (c_ret (x_blockR (x_thenR (x_leaveR (x_blockR (x_thenR (x_end ?_))))))))
  rw [show plL l region size = ((i : Int), true) from plF_yes hR (by omega) ⟨by assumption, by omega⟩]
  exact end_same (v := .tuple #[.int .i64 (i : Nat), .bool true]) rfl rfl rfl (by kernel_rfl) ⟨rfl, rfl, trivial⟩
  refine r_bin (v := .bool false) (vx := .int .i64 ((((((l.getD i default).entry).head).head).size))) (vy := .int .i64 size) (by exact congrArg (fun b => some (b == true)) h2) rfl rfl rfl (gtr_f (by omega)) ?_
  refine r_pick (v := .bool false) rfl rfl (by show some (if _ then _ else _) = _; rw [h2] <;> rfl) ?_
  refine r_doneN (x_then (c_false rfl (c_skip (x_blockN (x_then (c_reg ?_))))))
  refine r_bin (v := .int .i64 ((i : Nat) + 1)) (vx := .int .i64 (i : Nat)) (vy := .int .i64 1) rfl rfl rfl rfl (bin_add (by omega) (by omega) (by omega)) ?_
  refine r_move (v := .int .i64 ((i : Nat) + 1)) rfl rfl rfl ?_
  refine r_doneN ?_
  refine x_round ⟨(i + 1), ⟨plF_no hR (by omega) (fun q => by have q1 := q.1; have q2 := q.2; first | omega | (rw [q1] at *; simp_all)), by omega⟩, by show n - (i + 1) < n - i; omega, ?_⟩
  refine weak_to (n := 1) rfl ?_ (by kernel_rfl) (by kernel_rfl)
  repeat (first | exact trivial | refine ⟨.inl rfl, ?_⟩ | refine ⟨.inr ⟨rfl, rfl⟩, ?_⟩ | refine ⟨.inr ⟨congrArg (Value.int .i64) (by first | omega | (dsimp only; omega)), rfl⟩, ?_⟩)
  refine r_skip (by exact congrArg (fun b => some (b == true)) h2) rfl ?_
  refine r_skip (by exact congrArg (fun b => some (b == true)) h2) rfl ?_
  refine r_skip (by exact congrArg (fun b => some (b == true)) h2) rfl ?_
  refine r_skip (by exact congrArg (fun b => some (b == true)) h2) rfl ?_
  refine r_skip (by exact congrArg (fun b => some (b == true)) h2) rfl ?_
  refine r_skip (by exact congrArg (fun b => some (b == true)) h2) rfl ?_
  refine r_skip (by exact congrArg (fun b => some (b == true)) h2) rfl ?_
  refine r_pick (v := .bool false) rfl rfl (by show some (if _ then _ else _) = _; rw [h2] <;> rfl) ?_
  refine r_doneN (x_then (c_false rfl (c_skip (x_blockN (x_then (c_reg ?_))))))
  refine r_bin (v := .int .i64 ((i : Nat) + 1)) (vx := .int .i64 (i : Nat)) (vy := .int .i64 1) rfl rfl rfl rfl (bin_add (by omega) (by omega) (by omega)) ?_
  refine r_move (v := .int .i64 ((i : Nat) + 1)) rfl rfl rfl ?_
  refine r_doneN ?_
  refine x_round ⟨(i + 1), ⟨plF_no hR (by omega) (fun q => by have q1 := q.1; have q2 := q.2; first | omega | (rw [q1] at *; simp_all)), by omega⟩, by show n - (i + 1) < n - i; omega, ?_⟩
  refine weak_to (n := 1) rfl ?_ (by kernel_rfl) (by kernel_rfl)
  repeat (first | exact trivial | refine ⟨.inl rfl, ?_⟩ | refine ⟨.inr ⟨rfl, rfl⟩, ?_⟩ | refine ⟨.inr ⟨congrArg (Value.int .i64) (by first | omega | (dsimp only; omega)), rfl⟩, ?_⟩)
  refine r_bin (v := .bool false) (vx := .int .i64 (i : Nat)) (vy := .int .i64 (n : Nat)) rfl rfl rfl rfl (lss_f (by omega)) ?_
  refine r_doneN (x_then (c_seq (c_false rfl (c_exit (x_thenE (x_leaveE (x_block rfl (x_then (c_seq (c_reg ?_))))))))))
  refine r_assign (v := .int .i64 0) rfl rfl rfl ?_
  refine r_assign (v := .bool false) rfl rfl rfl ?_
  refine r_doneN (x_then (c_ret (x_end ?_)))
  rw [show plL l region size = (0, false) from by rw [← hR, List.drop_of_length_le (by omega)]; rfl]
  exact end_same (v := .tuple #[.int .i64 0, .bool false]) rfl rfl rfl (by kernel_rfl) ⟨rfl, rfl, trivial⟩
end Go.Flat
