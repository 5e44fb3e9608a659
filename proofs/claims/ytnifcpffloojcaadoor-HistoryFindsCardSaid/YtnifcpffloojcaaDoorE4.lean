/- Walks and plain laws: what each theorem says, within the bounds that it names. -/
import Derived.Test.YtnifcpffloojcaaDoorE3
import Derived.Test.YtnifcpffloojcaaDoorFlatH
set_option linter.unusedVariables false
set_option linter.unusedSimpArgs false
set_option maxRecDepth 20000
namespace Go.Flat
open Go.Proofs
variable {G : Glob}
def selU (p : Nat → Bool) (n : Nat) : List Nat := (List.range n).filter p
def cntU (p : Nat → Bool) (i : Nat) : Nat := (selU p i).length
theorem selU_succ (p : Nat → Bool) (n : Nat) : selU p (n + 1) = selU p n ++ (if p n = true then [n] else []) := by
  unfold selU; rw [List.range_succ, List.filter_append]; cases h : p n <;> simp [h]
theorem cntU_succ (p : Nat → Bool) (n : Nat) : cntU p (n + 1) = cntU p n + (if p n = true then 1 else 0) := by
  unfold cntU; rw [selU_succ, List.length_append]; cases h : p n <;> simp
theorem cnt_mono {p : Nat → Bool} {i : Nat} : ∀ {j : Nat}, i ≤ j → cntU p i ≤ cntU p j
  | 0, h => by rw [Nat.le_zero.1 h]; exact Nat.le_refl _
  | j + 1, h => by
    rcases Nat.lt_or_ge j i with q | q
    · rw [show i = j + 1 by omega]; exact Nat.le_refl _
    · rw [cntU_succ]; exact Nat.le_trans (cnt_mono q) (Nat.le_add_right _ _)
theorem selU_at {p : Nat → Bool} {i : Nat} : ∀ {n : Nat}, i < n → p i = true → (selU p n).getD (cntU p i) 0 = i ∧ cntU p i < (selU p n).length
  | 0, h, _ => absurd h (by omega)
  | n + 1, h, hp => by
    rw [selU_succ]
    rcases Nat.lt_or_ge i n with q | q
    · obtain ⟨h1, h2⟩ := selU_at q hp
      refine ⟨?_, by rw [List.length_append]; omega⟩
      rw [List.getD_eq_getElem?_getD, List.getElem?_append_left h2, ← List.getD_eq_getElem?_getD]; exact h1
    · obtain rfl : i = n := by omega
      rw [if_pos hp]
      refine ⟨?_, by rw [List.length_append]; exact Nat.lt_succ_self _⟩
      show (selU p i ++ [i]).getD (selU p i).length 0 = i
      rw [List.getD_eq_getElem?_getD, List.getElem?_append_right (Nat.le_refl _), Nat.sub_self]; rfl
theorem selU_of {p : Nat → Bool} {k : Nat} : ∀ {n : Nat}, k < (selU p n).length → (selU p n).getD k 0 < n ∧ p ((selU p n).getD k 0) = true ∧ cntU p ((selU p n).getD k 0) = k
  | 0, h => absurd h (by simp [selU])
  | n + 1, h => by
    rw [selU_succ] at h ⊢
    rcases Nat.lt_or_ge k (selU p n).length with q | q
    · obtain ⟨h1, h2, h3⟩ := selU_of q
      rw [List.getD_eq_getElem?_getD, List.getElem?_append_left q, ← List.getD_eq_getElem?_getD]
      exact ⟨by omega, h2, h3⟩
    · cases hp : p n with
      | false => rw [hp] at h; simp at h; omega
      | true =>
        rw [if_pos hp, List.length_append] at h
        have e : k = (selU p n).length := by simp at h; omega
        subst e
        have e2 : (selU p n ++ [n]).getD (selU p n).length 0 = n := by
          rw [List.getD_eq_getElem?_getD, List.getElem?_append_right (Nat.le_refl _), Nat.sub_self]; rfl
        rw [if_pos rfl, e2]
        exact ⟨by omega, hp, rfl⟩
theorem cnt_yes {p : Nat → Bool} {i : Nat} {ok : Nat → Prop} (hp : p i = true) (h : ∀ j, j < cntU p i → ok j) (h1 : ok (cntU p i)) : ∀ j, j < cntU p (i + 1) → ok j := by
  intro j hj
  rw [cntU_succ, if_pos hp] at hj
  rcases Nat.lt_or_ge j (cntU p i) with q | q
  · exact h j q
  · rw [show j = cntU p i by omega]; exact h1
theorem cnt_no {p : Nat → Bool} {i : Nat} {ok : Nat → Prop} (hp : p i = false) (h : ∀ j, j < cntU p i → ok j) : ∀ j, j < cntU p (i + 1) → ok j := by
  intro j hj
  rw [cntU_succ, if_neg (by rw [hp]; decide)] at hj
  exact h j hj
theorem cnt_lt {p : Nat → Bool} {i j : Nat} (h : i < j) (hp : p i = true) : cntU p i < cntU p j := by
  have := cnt_mono (p := p) (show i + 1 ≤ j from h)
  rw [cntU_succ, if_pos hp] at this; omega
def usP (l : List Item) (cl : Int) (i : Nat) : Bool := decide ((l.getD i default).entry.kind = 1 ∧ (l.getD i default).entry.client = cl)
def findF (c s : Int) : Nat → List Item → Int × Bool
  | _, [] => (0, false)
  | i, x :: l => if x.entry.kind = 1 ∧ x.entry.client = c ∧ x.entry.seq = s then ((i : Int), true) else findF c s (i + 1) l
def findL (l : List Item) (c s : Int) : Int × Bool := findF c s 0 l
def oldP (c s : Int) (x : Item) : Bool := decide (x.entry.kind = 1 ∧ x.entry.client = c ∧ s ≤ x.entry.seq)
def oldL (l : List Item) (c s : Int) : Bool := l.any (oldP c s)
theorem findF_no {c s : Int} {l : List Item} {i : Nat} {R : Int × Bool} (hR : findF c s i (l.drop i) = R) (hi : i < l.length) (h : ¬ ((l.getD i default).entry.kind = 1 ∧ (l.getD i default).entry.client = c ∧ (l.getD i default).entry.seq = s)) : findF c s (i + 1) (l.drop (i + 1)) = R := by
  rw [drop_gd l i hi, findF, if_neg h] at hR; exact hR
theorem findF_yes {c s : Int} {l : List Item} {i : Nat} {R : Int × Bool} (hR : findF c s i (l.drop i) = R) (hi : i < l.length) (h : (l.getD i default).entry.kind = 1 ∧ (l.getD i default).entry.client = c ∧ (l.getD i default).entry.seq = s) : R = ((i : Int), true) := by
  rw [drop_gd l i hi, findF, if_pos h] at hR; exact hR.symm
theorem findF_skip {c s : Int} {l : List Item} : ∀ (i : Nat), i ≤ l.length → (∀ j, j < i → ¬ ((l.getD j default).entry.kind = 1 ∧ (l.getD j default).entry.client = c ∧ (l.getD j default).entry.seq = s)) → findF c s i (l.drop i) = findL l c s
  | 0, _, _ => rfl
  | i + 1, h, hn => findF_no (findF_skip i (by omega) fun j hj => hn j (by omega)) (by omega) (hn i (by omega))
theorem find_hit {l : List Item} {n k : Nat} {c s : Int} (hn : l.length = n) (hk : k < (selU (usP l c) n).length) (hks : ∀ j, j < k → ¬ (l.getD ((selU (usP l c) n).getD j 0) default).entry.seq = s) (h : (l.getD ((selU (usP l c) n).getD k 0) default).entry.seq = s) : findL l c s = ((((selU (usP l c) n).getD k 0 : Nat) : Int), true) := by
  obtain ⟨h1, h2, h3⟩ := selU_of hk
  have h4 := of_decide_eq_true h2
  refine findF_yes (findF_skip _ (by omega) fun j hj q => ?_) (by omega) ⟨h4.1, h4.2, h⟩
  have hp : usP l c j = true := decide_eq_true ⟨q.1, q.2.1⟩
  have hc : cntU (usP l c) j < k := by have := cnt_lt hj hp; omega
  have := hks _ hc
  rw [(selU_at (n := n) (by omega) hp).1] at this
  exact this q.2.2
theorem find_none {l : List Item} {n : Nat} {c s : Int} (hn : l.length = n) (hall : ∀ k, k < (selU (usP l c) n).length → ¬ (l.getD ((selU (usP l c) n).getD k 0) default).entry.seq = s) : findL l c s = (0, false) := by
  rw [← findF_skip (c := c) (s := s) l.length (Nat.le_refl _) fun j hj q => ?_, List.drop_of_length_le (Nat.le_refl _)]; rfl
  have hp : usP l c j = true := decide_eq_true ⟨q.1, q.2.1⟩
  have h5 := selU_at (n := n) (by omega) hp
  have := hall _ h5.2
  rw [h5.1] at this
  exact this q.2.2
theorem any_idx {l : List Item} {p : Item → Bool} : l.any p = true ↔ ∃ i, i < l.length ∧ p (l.getD i default) = true := by
  rw [List.any_eq_true]
  constructor
  · rintro ⟨x, hx, hp⟩
    obtain ⟨i, hi, rfl⟩ := List.getElem_of_mem hx
    exact ⟨i, hi, by rw [List.getD_eq_getElem?_getD, List.getElem?_eq_getElem hi]; exact hp⟩
  · rintro ⟨i, hi, hp⟩
    rw [List.getD_eq_getElem?_getD, List.getElem?_eq_getElem hi] at hp
    exact ⟨_, List.getElem_mem hi, hp⟩
theorem old_hit {l : List Item} {n k : Nat} {c s : Int} (hn : l.length = n) (hk : k < (selU (usP l c) n).length) (h : s ≤ (l.getD ((selU (usP l c) n).getD k 0) default).entry.seq) : oldL l c s = true := by
  obtain ⟨h1, h2, _⟩ := selU_of hk
  have h4 := of_decide_eq_true h2
  exact any_idx.2 ⟨_, by omega, decide_eq_true ⟨h4.1, h4.2, h⟩⟩
theorem old_none {l : List Item} {n : Nat} {c s : Int} (hn : l.length = n) (hall : ∀ k, k < (selU (usP l c) n).length → ¬ s ≤ (l.getD ((selU (usP l c) n).getD k 0) default).entry.seq) : oldL l c s = false := by
  cases h : oldL l c s with
  | false => rfl
  | true =>
    obtain ⟨i, hi, hp⟩ := any_idx.1 h
    have q := of_decide_eq_true hp
    have hu : usP l c i = true := decide_eq_true ⟨q.1, q.2.1⟩
    have h5 := selU_at (n := n) (by omega) hu
    have := hall _ h5.2
    rw [h5.1] at this
    exact absurd q.2.2 this
def mayF (l : List Item) (n : Nat) (x : Item) : Int :=
  if ¬ rightL l ∨ ¬ rightI x then 100 else if 0 < n ∧ x.epoch < (l.getD (n - 1) default).epoch then 102 else if 2000 ≤ n then 2 else if x.entry.kind ≠ 1 then 0 else if oldL l x.entry.client x.entry.seq = true then 101 else 0
section
variable {l : List Item} {n : Nat} {x : Item}
theorem may_100 (h : ¬ rightL l ∨ ¬ rightI x) : mayF l n x = 100 := if_pos h
theorem may_base (h1 : rightL l) (h2 : rightI x) : ¬ (¬ rightL l ∨ ¬ rightI x) := fun q => q.elim (fun q => q h1) fun q => q h2
theorem may_102 (h1 : rightL l) (h2 : rightI x) (h3 : 0 < n) (h4 : x.epoch < (l.getD (n - 1) default).epoch) : mayF l n x = 102 := by
  unfold mayF; rw [if_neg (may_base h1 h2), if_pos ⟨h3, h4⟩]
theorem may_2 (h1 : rightL l) (h2 : rightI x) (h3 : ¬ (0 < n ∧ x.epoch < (l.getD (n - 1) default).epoch)) (h4 : 2000 ≤ n) : mayF l n x = 2 := by
  unfold mayF; rw [if_neg (may_base h1 h2), if_neg h3, if_pos h4]
theorem may_0 (h1 : rightL l) (h2 : rightI x) (h3 : ¬ (0 < n ∧ x.epoch < (l.getD (n - 1) default).epoch)) (h4 : ¬ 2000 ≤ n) (h5 : x.entry.kind ≠ 1) : mayF l n x = 0 := by
  unfold mayF; rw [if_neg (may_base h1 h2), if_neg h3, if_neg h4, if_pos h5]
theorem may_101 (h1 : rightL l) (h2 : rightI x) (h3 : ¬ (0 < n ∧ x.epoch < (l.getD (n - 1) default).epoch)) (h4 : ¬ 2000 ≤ n) (h5 : x.entry.kind = 1) (h6 : oldL l x.entry.client x.entry.seq = true) : mayF l n x = 101 := by
  unfold mayF; rw [if_neg (may_base h1 h2), if_neg h3, if_neg h4, if_neg (fun q => q h5), if_pos h6]
theorem mayL_ok (h1 : rightL l) (h2 : rightI x) (h3 : ¬ (0 < n ∧ x.epoch < (l.getD (n - 1) default).epoch)) (h4 : ¬ 2000 ≤ n) (h5 : x.entry.kind = 1) (h6 : oldL l x.entry.client x.entry.seq = false) : mayF l n x = 0 := by
  unfold mayF; rw [if_neg (may_base h1 h2), if_neg h3, if_neg h4, if_neg (fun q => q h5), if_neg (by rw [h6]; decide)]
end
theorem users_ok (l : List Item) (n c : Nat) (hn : l.length = n) (hc : n ≤ c) (hb : n ≤ 1048576) (cl : Int) : CallL Tryd.prog G 43 [slv 0 0 n c, .int .i64 cl] [rwR cItem l] (.func (.func 69) #[] #[pt 1 0, pt 2 0]) [rwR cItem l, rfB (slv 0 0 n c), bxB 1 ([.int .i64 cl])] := by
  refine walk (fn := Tryd.f43) (nt := 6) rfl rfl rfl rfl ?_
  refine c_hole 2 (H' := [rwR cItem l, hole, hole]) rfl ?_
  refine c_seq (c_reg ?_)
  refine r_box (v := slv 0 0 n c) (b := rfB (slv 0 0 n c)) (nid := 1) (H' := [rwR cItem l, rfB (slv 0 0 n c), hole]) rfl rfl rfl (by kernel_rfl) (by kernel_rfl) ?_
  refine r_box (v := .int .i64 cl) (b := bxB 1 ([.int .i64 cl])) (nid := 2) (H' := [rwR cItem l, rfB (slv 0 0 n c), bxB 1 ([.int .i64 cl])]) rfl rfl rfl (by kernel_rfl) (by kernel_rfl) ?_
  refine r_assign (v := .nilFunc) rfl rfl rfl ?_
  refine r_doneN (x_then (c_seq (c_reg ?_)))
  refine r_closure (vs := []) (ws := [pt 1 0, pt 2 0]) rfl rfl rfl rfl rfl ?_
  refine r_assign (v := .func (.func 69) #[] #[pt 1 0, pt 2 0]) rfl rfl rfl ?_
  refine r_doneN (x_then (c_ret (x_end ?_)))
  exact end_map [0, 1, 2] (v := .func (.func 69) #[] #[pt 1 0, pt 2 0]) rfl (by kernel_rfl) rfl rfl (by decide) (by simp [keptB, rwR, rfB, bxB, okId, okId0, cItem]) ⟨by simp [renC, renC0, mapE, idE], by kernel_rfl⟩
theorem users_F (l : List Item) (n c : Nat) (hn : l.length = n) (hc : n ≤ c) (hb : n ≤ 1048576) (client seq : Int) (ok : Nat → Prop) : IterL Tryd.prog G 69 [pt 4 0, pt 5 0] (selU (usP l client) n).length (fun k => [.int .i64 ((selU (usP l client) n).getD k 0 : Nat), entV (l.getD ((selU (usP l client) n).getD k 0) default).entry]) [rwR cItem l, bxB 1 ([.int .i64 seq]), bxB 1 ([.int .i64 0]), bxB 1 ([.bool false]), rfB (slv 0 0 n c), bxB 1 ([.int .i64 client])] (fun k => [rwR cItem l, bxB 1 ([.int .i64 seq]), bxB 1 ([.int .i64 0]), bxB 1 ([.bool false]), rfB (slv 0 0 n c), bxB 1 ([.int .i64 client]), bxB 110 (itemC (l.getD ((selU (usP l client) n).getD k 0) default))]) (fun k => [rwR cItem l, bxB 1 ([.int .i64 seq]), bxB 1 ([.int .i64 0]), bxB 1 ([.bool false]), rfB (slv 0 0 n c), bxB 1 ([.int .i64 client]), bxB 110 (itemC (l.getD ((selU (usP l client) n).getD k 0) default))]) ok [rwR cItem l, bxB 1 ([.int .i64 seq]), bxB 1 ([.int .i64 0]), bxB 1 ([.bool false]), rfB (slv 0 0 n c), bxB 1 ([.int .i64 client])] := by
  refine iter_intro (fn := Tryd.f69) rfl rfl (nt := 33) rfl rfl rfl ?_
  intro E l' Stop hE hd hY
  refine cy_seq ?_
  refine cy_reg (by kernel_rfl) ?_
  refine r_load (p := pt 4 0) (v := slv 0 0 n c) rfl rfl rfl rfl ?_
  refine r_len (p := slv 0 0 n c) (v := .int .i64 (n : Nat)) rfl rfl rfl rfl ?_
  refine r_move (v := .int .i64 0) rfl rfl rfl ?_
  refine r_doneN (x_round (cy_block ?_))
  refine cy_loop hE (fun i : Nat => [.func (.yield l') #[] #[], pt 4 0, pt 5 0, dead, dead, dead, slv 0 0 n c, .int .i64 (n : Nat), .int .i64 (i : Nat)]) (fun i : Nat => [rwR cItem l, bxB 1 ([.int .i64 seq]), bxB 1 ([.int .i64 0]), bxB 1 ([.bool false]), rfB (slv 0 0 n c), bxB 1 ([.int .i64 client])]) (fun i : Nat => (∀ j, j < cntU (usP l client) i → ok j) ∧ i ≤ n) (fun i : Nat => n - i) 0 ⟨fun _ h => absurd h (by simp [cntU, selU]), by omega⟩ ?_ ?_
  · refine weak_to (n := 6) rfl ?_ (by kernel_rfl) (by kernel_rfl)
    repeat (first | exact trivial | refine ⟨.inl rfl, ?_⟩ | refine ⟨.inr ⟨rfl, rfl⟩, ?_⟩ | refine ⟨.inr ⟨congrArg (Value.int .i64) (by first | omega | (dsimp only; omega)), rfl⟩, ?_⟩)
  rintro i ⟨hks, hi⟩
  refine cy_hole hE 1 (H' := [rwR cItem l, bxB 1 ([.int .i64 seq]), bxB 1 ([.int .i64 0]), bxB 1 ([.bool false]), rfB (slv 0 0 n c), bxB 1 ([.int .i64 client]), hole]) rfl ?_
  refine cy_seq ?_
  refine cy_reg (by kernel_rfl) ?_
  by_cases h1 : (i : Nat) < (n : Nat)
  refine r_bin (v := .bool true) (vx := .int .i64 (i : Nat)) (vy := .int .i64 (n : Nat)) rfl rfl rfl rfl (lss_t (by omega)) ?_
  refine r_doneN (x_round (cy_seq (cy_true rfl (cy_skip (x_round (cy_seq (cy_block (cy_seq ?_))))))))
  refine cy_reg (by kernel_rfl) ?_
  refine r_move (v := .int .i64 (i : Nat)) rfl rfl rfl ?_
  refine r_idxS (b := 0) (o := 0) (j := i * 110) (m := n) (c := c) (sz := 110) (i := (i : Nat)) (k := .i64) rfl rfl rfl rfl rfl (by omega) (by omega) (by omega) ?_
  refine r_load (p := pt 0 (i * 110)) (v := itemV (l.getD i default)) rfl rfl rfl (load_rw (n := 0) (m := 110) cItem rfl rfl rfl rfl (by have := hn; omega) (by omega)) ?_
  refine r_alloc (b := bxB 110 (itemC (⟨0, (⟨0, 0, 0, ⟨#[]⟩, (⟨(⟨0, 0, 0, dz, 0⟩ : Head), 0, dz⟩ : Signed), (⟨0, 0, 0, 0, dz⟩ : Claim)⟩ : Entry)⟩ : Item))) (nid := 6) (H' := [rwR cItem l, bxB 1 ([.int .i64 seq]), bxB 1 ([.int .i64 0]), bxB 1 ([.bool false]), rfB (slv 0 0 n c), bxB 1 ([.int .i64 client]), bxB 110 (itemC (⟨0, (⟨0, 0, 0, ⟨#[]⟩, (⟨(⟨0, 0, 0, dz, 0⟩ : Head), 0, dz⟩ : Signed), (⟨0, 0, 0, 0, dz⟩ : Claim)⟩ : Entry)⟩ : Item))]) rfl rfl (by kernel_rfl) (by kernel_rfl) ?_
  refine r_assign (v := .int .i64 (i : Nat)) rfl rfl rfl ?_
  refine r_store (p := pt 6 0) (v := itemV (l.getD i default)) (b := 6) (blk := bxB 110 (itemC (l.getD i default))) (H' := [rwR cItem l, bxB 1 ([.int .i64 seq]), bxB 1 ([.int .i64 0]), bxB 1 ([.bool false]), rfB (slv 0 0 n c), bxB 1 ([.int .i64 client]), bxB 110 (itemC (l.getD i default))]) rfl rfl rfl (by kernel_rfl) (by kernel_rfl) ?_
  refine r_doneN (x_round (cy_seq ?_))
  by_cases h2 : ((((l.getD i default).entry).kind)) = 1
  by_cases h3 : ((((l.getD i default).entry).client)) = client
  have hlt : i < n := by omega
  have hp : (usP l client) i = true := decide_eq_true ⟨by omega, by omega⟩
  refine cy_yieldG (fun w' h => ⟨w', h, rfl⟩) 16 rfl rfl rfl (by kernel_rfl) ?_
  refine r_fieldAddr (b := 6) (o := 0) (n := 1) (o' := 1) rfl rfl rfl rfl rfl ?_
  refine r_fieldAddr (b := 6) (o := 1) (n := 0) (o' := 1) rfl rfl rfl rfl rfl ?_
  refine r_load (p := pt 6 1) (v := .int .i64 ((((l.getD i default).entry).kind))) rfl rfl rfl (by kernel_rfl) ?_
  refine r_bin (v := .bool true) (vx := .int .i64 ((((l.getD i default).entry).kind))) (vy := .int .i64 1) rfl rfl rfl rfl (eql_t (by omega)) ?_
  refine r_move (v := .bool true) rfl rfl rfl ?_
  refine r_fieldAddr (b := 6) (o := 0) (n := 1) (o' := 1) rfl rfl rfl rfl rfl ?_
  refine r_fieldAddr (b := 6) (o := 1) (n := 1) (o' := 2) rfl rfl rfl rfl rfl ?_
  refine r_load (p := pt 6 2) (v := .int .i64 ((((l.getD i default).entry).client))) rfl rfl rfl (by kernel_rfl) ?_
  refine r_load (p := pt 5 0) (v := .int .i64 client) rfl rfl rfl (by kernel_rfl) ?_
  refine r_bin (v := .bool true) (vx := .int .i64 ((((l.getD i default).entry).client))) (vy := .int .i64 client) rfl rfl rfl rfl (eql_t (by omega)) ?_
  refine r_pick (v := .bool true) rfl rfl rfl ?_
  refine r_move (v := .bool true) rfl rfl rfl ?_
  refine r_move (v := .func (.yield l') #[] #[]) rfl rfl rfl ?_
  refine r_move (v := .int .i64 (i : Nat)) rfl rfl rfl ?_
  refine r_fieldAddr (b := 6) (o := 0) (n := 1) (o' := 1) rfl rfl rfl rfl rfl ?_
  refine r_load (p := pt 6 1) (v := entV ((l.getD i default).entry)) rfl rfl rfl (by kernel_rfl) ?_
  refine r_done ?_
  show YGoalG _ _ _ _ _ _ _ _ _ _ _ _ _ _
  unfold YGoalG
  refine ⟨l', [.int .i64 (i : Nat), entV ((l.getD i default).entry)], [rwR cItem l, bxB 1 ([.int .i64 seq]), bxB 1 ([.int .i64 0]), bxB 1 ([.bool false]), rfB (slv 0 0 n c), bxB 1 ([.int .i64 client]), bxB 110 (itemC (l.getD i default))], (ok (cntU (usP l client) i)), rfl, rfl, rfl, by decide, (by have h := hY (cntU (usP l client) i) (selU_at hlt hp).2 hks; rw [(selU_at hlt hp).1] at h; exact h), fun hok => ?_, ?_⟩
  refine r_un (v := .bool false) (vx := .bool true) rfl rfl rfl un_not ?_
  refine r_pick (v := .bool false) rfl rfl rfl ?_
  refine r_doneN (x_round (cy_false rfl (cy_skip (x_blockN (x_round ?_)))))
  refine cy_reg (by kernel_rfl) ?_
  refine r_bin (v := .int .i64 ((i : Nat) + 1)) (vx := .int .i64 (i : Nat)) (vy := .int .i64 1) rfl rfl rfl rfl (bin_add (by omega) (by omega) (by omega)) ?_
  refine r_move (v := .int .i64 ((i : Nat) + 1)) rfl rfl rfl ?_
  refine r_doneN ?_
  refine x_round ⟨(i + 1), ⟨cnt_yes (by exact decide_eq_true ⟨by omega, by omega⟩) hks hok, by omega⟩, by show n - (i + 1) < n - i; omega, ?_⟩
  refine weak_to (n := 6) rfl ?_ (by kernel_rfl) (by kernel_rfl)
  repeat (first | exact trivial | refine ⟨.inl rfl, ?_⟩ | refine ⟨.inr ⟨rfl, rfl⟩, ?_⟩ | refine ⟨.inr ⟨congrArg (Value.int .i64) (by first | omega | (dsimp only; omega)), rfl⟩, ?_⟩)
  refine r_un (v := .bool true) (vx := .bool false) rfl rfl rfl un_not ?_
  refine r_pick (v := .bool true) rfl rfl rfl ?_
  refine r_doneN (x_round (cr_true rfl (cr_ret (x_blockR (x_leaveR (x_leaveR (x_blockR ?_)))))))
  exact ⟨.inr rfl⟩
  refine cy_reg (by kernel_rfl) ?_
  refine r_fieldAddr (b := 6) (o := 0) (n := 1) (o' := 1) rfl rfl rfl rfl rfl ?_
  refine r_fieldAddr (b := 6) (o := 1) (n := 0) (o' := 1) rfl rfl rfl rfl rfl ?_
  refine r_load (p := pt 6 1) (v := .int .i64 ((((l.getD i default).entry).kind))) rfl rfl rfl (by kernel_rfl) ?_
  refine r_bin (v := .bool true) (vx := .int .i64 ((((l.getD i default).entry).kind))) (vy := .int .i64 1) rfl rfl rfl rfl (eql_t (by omega)) ?_
  refine r_move (v := .bool true) rfl rfl rfl ?_
  refine r_fieldAddr (b := 6) (o := 0) (n := 1) (o' := 1) rfl rfl rfl rfl rfl ?_
  refine r_fieldAddr (b := 6) (o := 1) (n := 1) (o' := 2) rfl rfl rfl rfl rfl ?_
  refine r_load (p := pt 6 2) (v := .int .i64 ((((l.getD i default).entry).client))) rfl rfl rfl (by kernel_rfl) ?_
  refine r_load (p := pt 5 0) (v := .int .i64 client) rfl rfl rfl (by kernel_rfl) ?_
  refine r_bin (v := .bool false) (vx := .int .i64 ((((l.getD i default).entry).client))) (vy := .int .i64 client) rfl rfl rfl rfl (eql_f (by omega)) ?_
  refine r_pick (v := .bool false) rfl rfl rfl ?_
  refine r_move (v := .bool false) rfl rfl rfl ?_
  refine r_skip rfl rfl (r_skip rfl rfl (r_skip rfl rfl (r_skip rfl rfl (r_skip rfl rfl (r_skip rfl rfl ?_)))))
  refine r_pick (v := .bool false) rfl rfl rfl ?_
  refine r_doneN (x_round (cy_false rfl (cy_skip (x_blockN (x_round ?_)))))
  refine cy_reg (by kernel_rfl) ?_
  refine r_bin (v := .int .i64 ((i : Nat) + 1)) (vx := .int .i64 (i : Nat)) (vy := .int .i64 1) rfl rfl rfl rfl (bin_add (by omega) (by omega) (by omega)) ?_
  refine r_move (v := .int .i64 ((i : Nat) + 1)) rfl rfl rfl ?_
  refine r_doneN ?_
  refine x_round ⟨(i + 1), ⟨cnt_no (by exact decide_eq_false (fun q => by have := q.1; have := q.2; omega)) hks, by omega⟩, by show n - (i + 1) < n - i; omega, ?_⟩
  refine weak_to (n := 6) rfl ?_ (by kernel_rfl) (by kernel_rfl)
  repeat (first | exact trivial | refine ⟨.inl rfl, ?_⟩ | refine ⟨.inr ⟨rfl, rfl⟩, ?_⟩ | refine ⟨.inr ⟨congrArg (Value.int .i64) (by first | omega | (dsimp only; omega)), rfl⟩, ?_⟩)
  refine cy_reg (by kernel_rfl) ?_
  refine r_fieldAddr (b := 6) (o := 0) (n := 1) (o' := 1) rfl rfl rfl rfl rfl ?_
  refine r_fieldAddr (b := 6) (o := 1) (n := 0) (o' := 1) rfl rfl rfl rfl rfl ?_
  refine r_load (p := pt 6 1) (v := .int .i64 ((((l.getD i default).entry).kind))) rfl rfl rfl (by kernel_rfl) ?_
  refine r_bin (v := .bool false) (vx := .int .i64 ((((l.getD i default).entry).kind))) (vy := .int .i64 1) rfl rfl rfl rfl (eql_f (by omega)) ?_
  refine r_move (v := .bool false) rfl rfl rfl ?_
  refine r_skip rfl rfl (r_skip rfl rfl (r_skip rfl rfl (r_skip rfl rfl (r_skip rfl rfl ?_))))
  refine r_pick (v := .bool false) rfl rfl rfl ?_
  refine r_move (v := .bool false) rfl rfl rfl ?_
  refine r_skip rfl rfl (r_skip rfl rfl (r_skip rfl rfl (r_skip rfl rfl (r_skip rfl rfl (r_skip rfl rfl ?_)))))
  refine r_pick (v := .bool false) rfl rfl rfl ?_
  refine r_doneN (x_round (cy_false rfl (cy_skip (x_blockN (x_round ?_)))))
  refine cy_reg (by kernel_rfl) ?_
  refine r_bin (v := .int .i64 ((i : Nat) + 1)) (vx := .int .i64 (i : Nat)) (vy := .int .i64 1) rfl rfl rfl rfl (bin_add (by omega) (by omega) (by omega)) ?_
  refine r_move (v := .int .i64 ((i : Nat) + 1)) rfl rfl rfl ?_
  refine r_doneN ?_
  refine x_round ⟨(i + 1), ⟨cnt_no (by exact decide_eq_false (fun q => by have := q.1; have := q.2; omega)) hks, by omega⟩, by show n - (i + 1) < n - i; omega, ?_⟩
  refine weak_to (n := 6) rfl ?_ (by kernel_rfl) (by kernel_rfl)
  repeat (first | exact trivial | refine ⟨.inl rfl, ?_⟩ | refine ⟨.inr ⟨rfl, rfl⟩, ?_⟩ | refine ⟨.inr ⟨congrArg (Value.int .i64) (by first | omega | (dsimp only; omega)), rfl⟩, ?_⟩)
  refine r_bin (v := .bool false) (vx := .int .i64 (i : Nat)) (vy := .int .i64 (n : Nat)) rfl rfl rfl rfl (lss_f (by omega)) ?_
  refine r_doneN (x_round (cy_seq (cy_false rfl (cy_exit (x_leaveE (x_leaveE (x_block rfl ?_)))))))
  exact ⟨⟨.inl rfl, fun j hj => hks j (by rw [show i = n by omega]; exact hj), _, weak_to (l := []) (n := 6) rfl trivial (by kernel_rfl) (by kernel_rfl)⟩⟩
theorem Find_ok (l : List Item) (n c : Nat) (hn : l.length = n) (hc : n ≤ c) (hb : n ≤ 1048576) (client seq : Int) : CallL Tryd.prog G 26 [slv 0 0 n c, .int .i64 client, .int .i64 seq] [rwR cItem l] (.tuple #[.int .i64 (findL l client seq).1, .bool (findL l client seq).2]) [rwR cItem l] := by
  refine CallL.introM (fn := Tryd.f26) rfl rfl (nt := 20) rfl rfl ?_
  refine cm_seq (cm_run ?_)
  refine cr_hole 5 (H' := [rwR cItem l, hole, hole, hole, hole, hole]) rfl ?_
  refine cr_reg (by kernel_rfl) ?_
  refine r_box (v := .int .i64 seq) (b := bxB 1 ([.int .i64 seq])) (nid := 1) (H' := [rwR cItem l, bxB 1 ([.int .i64 seq]), hole, hole, hole, hole]) rfl rfl rfl (by kernel_rfl) (by kernel_rfl) ?_
  refine r_alloc (b := bxB 1 ([.int .i64 0])) (nid := 2) (H' := [rwR cItem l, bxB 1 ([.int .i64 seq]), bxB 1 ([.int .i64 0]), hole, hole, hole]) rfl rfl (by kernel_rfl) (by kernel_rfl) ?_
  refine r_alloc (b := bxB 1 ([.bool false])) (nid := 3) (H' := [rwR cItem l, bxB 1 ([.int .i64 seq]), bxB 1 ([.int .i64 0]), bxB 1 ([.bool false]), hole, hole]) rfl rfl (by kernel_rfl) (by kernel_rfl) ?_
  refine r_doneN (x_round (cm_seq (cm_seq (cm_run ?_))))
  refine cr_reg (by kernel_rfl) ?_
  refine r_move (v := slv 0 0 n c) rfl rfl rfl ?_
  refine r_move (v := .int .i64 client) rfl rfl rfl ?_
  refine r_callN (e := [some (0, 0)]) (nid := 4) (users_ok (G := G) l n c hn (by omega) (by omega) client) (vals := [slv 0 0 n c, .int .i64 client]) (v := .func (.func 69) #[] #[pt 4 0, pt 5 0]) (H' := [rwR cItem l, bxB 1 ([.int .i64 seq]), bxB 1 ([.int .i64 0]), bxB 1 ([.bool false]), rfB (slv 0 0 n c), bxB 1 ([.int .i64 client])]) rfl rfl rfl rfl rfl rfl rfl ⟨⟨⟨rfl, rfl, rfl, by first | omega | exact Nat.le_refl _, by first | omega | exact Nat.le_refl _⟩, rfl, trivial⟩, ⟨(emb_rwR rfl), trivial⟩, rfl, rfl, rfl⟩ (by kernel_rfl) (by kernel_rfl) ?_
  refine r_doneN (x_round ?_)
  have hiter := users_F (G := G) l n c hn hc hb client seq (fun k => ¬ (l.getD ((selU (usP l client) n).getD k 0) default).entry.seq = seq)
  refine cm_range (lbs := #[pt 4 0, pt 5 0]) (iter := hiter) rfl rfl rfl (by intro _ _; rfl) (by kernel_rfl) ?_ ?_
  · intro lp k hk hks
    have hku := selU_of hk
    refine cr_hole 2 (H' := [rwR cItem l, bxB 1 ([.int .i64 seq]), bxB 1 ([.int .i64 0]), bxB 1 ([.bool false]), rfB (slv 0 0 n c), bxB 1 ([.int .i64 client]), bxB 110 (itemC (l.getD ((selU (usP l client) n).getD k 0) default)), hole, hole]) rfl ?_
    refine cr_seq ?_
    refine cr_reg (by kernel_rfl) ?_
    refine r_assign (v := .int .i64 ((((selU (usP l client) n).getD k 0) : Nat) : Int)) rfl rfl rfl ?_
    refine r_doneN (x_round ?_)
    refine cr_reg (by kernel_rfl) ?_
    refine r_alloc (b := bxB 109 (entC (⟨0, 0, 0, ⟨#[]⟩, (⟨(⟨0, 0, 0, dz, 0⟩ : Head), 0, dz⟩ : Signed), (⟨0, 0, 0, 0, dz⟩ : Claim)⟩ : Entry))) (nid := 7) (H' := [rwR cItem l, bxB 1 ([.int .i64 seq]), bxB 1 ([.int .i64 0]), bxB 1 ([.bool false]), rfB (slv 0 0 n c), bxB 1 ([.int .i64 client]), bxB 110 (itemC (l.getD ((selU (usP l client) n).getD k 0) default)), bxB 109 (entC (⟨0, 0, 0, ⟨#[]⟩, (⟨(⟨0, 0, 0, dz, 0⟩ : Head), 0, dz⟩ : Signed), (⟨0, 0, 0, 0, dz⟩ : Claim)⟩ : Entry)), hole]) rfl rfl (by kernel_rfl) (by kernel_rfl) ?_
    refine r_store (p := pt 7 0) (v := entV ((l.getD ((selU (usP l client) n).getD k 0) default).entry)) (b := 7) (blk := bxB 109 (entC ((l.getD ((selU (usP l client) n).getD k 0) default).entry))) (H' := [rwR cItem l, bxB 1 ([.int .i64 seq]), bxB 1 ([.int .i64 0]), bxB 1 ([.bool false]), rfB (slv 0 0 n c), bxB 1 ([.int .i64 client]), bxB 110 (itemC (l.getD ((selU (usP l client) n).getD k 0) default)), bxB 109 (entC ((l.getD ((selU (usP l client) n).getD k 0) default).entry)), hole]) rfl rfl rfl (by kernel_rfl) (by kernel_rfl) ?_
    refine r_doneN (x_round (cr_block (cr_seq ?_)))
    refine cr_reg (by kernel_rfl) ?_
    refine r_fieldAddr (b := 7) (o := 0) (n := 2) (o' := 2) rfl rfl rfl rfl rfl ?_
    refine r_load (p := pt 7 2) (v := .int .i64 ((((l.getD ((selU (usP l client) n).getD k 0) default).entry).seq))) rfl rfl rfl (by kernel_rfl) ?_
    refine r_load (p := pt 1 0) (v := .int .i64 seq) rfl rfl rfl (by kernel_rfl) ?_
    by_cases h1 : ((((l.getD ((selU (usP l client) n).getD k 0) default).entry).seq)) = seq
    refine r_bin (v := .bool true) (vx := .int .i64 ((((l.getD ((selU (usP l client) n).getD k 0) default).entry).seq))) (vy := .int .i64 seq) rfl rfl rfl rfl (eql_t (by omega)) ?_
    refine r_doneN (x_round (cr_true rfl (cr_seq ?_)))
    refine cr_reg (by kernel_rfl) ?_
    refine r_move (v := .int .i64 ((((selU (usP l client) n).getD k 0) : Nat) : Int)) rfl rfl rfl ?_
    refine r_store (p := pt 2 0) (v := .int .i64 ((((selU (usP l client) n).getD k 0) : Nat) : Int)) (b := 2) (blk := bxB 1 ([.int .i64 ((((selU (usP l client) n).getD k 0) : Nat) : Int)])) (H' := [rwR cItem l, bxB 1 ([.int .i64 seq]), bxB 1 ([.int .i64 ((((selU (usP l client) n).getD k 0) : Nat) : Int)]), bxB 1 ([.bool false]), rfB (slv 0 0 n c), bxB 1 ([.int .i64 client]), bxB 110 (itemC (l.getD ((selU (usP l client) n).getD k 0) default)), bxB 109 (entC ((l.getD ((selU (usP l client) n).getD k 0) default).entry)), hole]) rfl rfl rfl (by kernel_rfl) (by kernel_rfl) ?_
    refine r_store (p := pt 3 0) (v := .bool true) (b := 3) (blk := bxB 1 ([.bool true])) (H' := [rwR cItem l, bxB 1 ([.int .i64 seq]), bxB 1 ([.int .i64 ((((selU (usP l client) n).getD k 0) : Nat) : Int)]), bxB 1 ([.bool true]), rfB (slv 0 0 n c), bxB 1 ([.int .i64 client]), bxB 110 (itemC (l.getD ((selU (usP l client) n).getD k 0) default)), bxB 109 (entC ((l.getD ((selU (usP l client) n).getD k 0) default).entry)), hole]) rfl rfl rfl (by kernel_rfl) (by kernel_rfl) ?_
    refine r_doneN (x_round (cr_ret (x_blockR ?_)))
    refine ⟨?_⟩
    show ∃ v e, EndOK _ _ _ _ _ _ _ v e
    rw [show findL l client seq = (((((selU (usP l client) n).getD k 0) : Nat) : Int), true) from find_hit hn hk hks (by omega)]
    exact end_map [0] (v := .tuple #[.int .i64 ((((selU (usP l client) n).getD k 0) : Nat) : Int), .bool true]) (by kernel_rfl) (by kernel_rfl) rfl rfl (by decide) (by simp [keptB, rwR, cItem]) ⟨rfl, rfl, trivial⟩
    refine r_bin (v := .bool false) (vx := .int .i64 ((((l.getD ((selU (usP l client) n).getD k 0) default).entry).seq))) (vy := .int .i64 seq) rfl rfl rfl rfl (eql_f (by omega)) ?_
    refine r_doneN (x_round (cr_false rfl (cr_skip (x_blockN ?_))))
    exact ⟨⟨(by show ¬ _ = _; omega), _, weak_to (l := []) (n := 7) rfl trivial (by kernel_rfl) (by kernel_rfl)⟩⟩
  intro hall
  show CW none _ _ _ _ _ _ _
  refine cr_seq ?_
  refine cr_reg (by kernel_rfl) ?_
  refine r_store (p := pt 2 0) (v := .int .i64 0) (b := 2) (blk := bxB 1 ([.int .i64 0])) (H' := [rwR cItem l, bxB 1 ([.int .i64 seq]), bxB 1 ([.int .i64 0]), bxB 1 ([.bool false]), rfB (slv 0 0 n c), bxB 1 ([.int .i64 client])]) rfl rfl rfl (by kernel_rfl) (by kernel_rfl) ?_
  refine r_store (p := pt 3 0) (v := .bool false) (b := 3) (blk := bxB 1 ([.bool false])) (H' := [rwR cItem l, bxB 1 ([.int .i64 seq]), bxB 1 ([.int .i64 0]), bxB 1 ([.bool false]), rfB (slv 0 0 n c), bxB 1 ([.int .i64 client])]) rfl rfl rfl (by kernel_rfl) (by kernel_rfl) ?_
  refine r_doneN (x_round (cr_ret (x_leaveR (x_end ?_))))
  rw [show findL l client seq = (0, false) from find_none hn hall]
  exact end_map [0] (v := .tuple #[.int .i64 0, .bool false]) rfl (by kernel_rfl) rfl rfl (by decide) (by simp [keptB, rwR, cItem]) ⟨rfl, rfl, trivial⟩
theorem users_M (l : List Item) (n c : Nat) (hn : l.length = n) (hc : n ≤ c) (hb : n ≤ 1048576) (x : Item) (ok : Nat → Prop) : IterL Tryd.prog G 69 [pt 3 0, pt 4 0] (selU (usP l x.entry.client) n).length (fun k => [.int .i64 ((selU (usP l x.entry.client) n).getD k 0 : Nat), entV (l.getD ((selU (usP l x.entry.client) n).getD k 0) default).entry]) [rwR cItem l, bxB 110 (itemC x), bxB 1 ([.int .i64 0]), rfB (slv 0 0 n c), bxB 1 ([.int .i64 x.entry.client])] (fun k => [rwR cItem l, bxB 110 (itemC x), bxB 1 ([.int .i64 0]), rfB (slv 0 0 n c), bxB 1 ([.int .i64 x.entry.client]), bxB 110 (itemC (l.getD ((selU (usP l x.entry.client) n).getD k 0) default))]) (fun k => [rwR cItem l, bxB 110 (itemC x), bxB 1 ([.int .i64 0]), rfB (slv 0 0 n c), bxB 1 ([.int .i64 x.entry.client]), bxB 110 (itemC (l.getD ((selU (usP l x.entry.client) n).getD k 0) default))]) ok [rwR cItem l, bxB 110 (itemC x), bxB 1 ([.int .i64 0]), rfB (slv 0 0 n c), bxB 1 ([.int .i64 x.entry.client])] := by
  refine iter_intro (fn := Tryd.f69) rfl rfl (nt := 33) rfl rfl rfl ?_
  intro E l' Stop hE hd hY
  refine cy_seq ?_
  refine cy_reg (by kernel_rfl) ?_
  refine r_load (p := pt 3 0) (v := slv 0 0 n c) rfl rfl rfl rfl ?_
  refine r_len (p := slv 0 0 n c) (v := .int .i64 (n : Nat)) rfl rfl rfl rfl ?_
  refine r_move (v := .int .i64 0) rfl rfl rfl ?_
  refine r_doneN (x_round (cy_block ?_))
  refine cy_loop hE (fun i : Nat => [.func (.yield l') #[] #[], pt 3 0, pt 4 0, dead, dead, dead, slv 0 0 n c, .int .i64 (n : Nat), .int .i64 (i : Nat)]) (fun i : Nat => [rwR cItem l, bxB 110 (itemC x), bxB 1 ([.int .i64 0]), rfB (slv 0 0 n c), bxB 1 ([.int .i64 x.entry.client])]) (fun i : Nat => (∀ j, j < cntU (usP l x.entry.client) i → ok j) ∧ i ≤ n) (fun i : Nat => n - i) 0 ⟨fun _ h => absurd h (by simp [cntU, selU]), by omega⟩ ?_ ?_
  · refine weak_to (n := 5) rfl ?_ (by kernel_rfl) (by kernel_rfl)
    repeat (first | exact trivial | refine ⟨.inl rfl, ?_⟩ | refine ⟨.inr ⟨rfl, rfl⟩, ?_⟩ | refine ⟨.inr ⟨congrArg (Value.int .i64) (by first | omega | (dsimp only; omega)), rfl⟩, ?_⟩)
  rintro i ⟨hks, hi⟩
  refine cy_hole hE 1 (H' := [rwR cItem l, bxB 110 (itemC x), bxB 1 ([.int .i64 0]), rfB (slv 0 0 n c), bxB 1 ([.int .i64 x.entry.client]), hole]) rfl ?_
  refine cy_seq ?_
  refine cy_reg (by kernel_rfl) ?_
  by_cases h1 : (i : Nat) < (n : Nat)
  refine r_bin (v := .bool true) (vx := .int .i64 (i : Nat)) (vy := .int .i64 (n : Nat)) rfl rfl rfl rfl (lss_t (by omega)) ?_
  refine r_doneN (x_round (cy_seq (cy_true rfl (cy_skip (x_round (cy_seq (cy_block (cy_seq ?_))))))))
  refine cy_reg (by kernel_rfl) ?_
  refine r_move (v := .int .i64 (i : Nat)) rfl rfl rfl ?_
  refine r_idxS (b := 0) (o := 0) (j := i * 110) (m := n) (c := c) (sz := 110) (i := (i : Nat)) (k := .i64) rfl rfl rfl rfl rfl (by omega) (by omega) (by omega) ?_
  refine r_load (p := pt 0 (i * 110)) (v := itemV (l.getD i default)) rfl rfl rfl (load_rw (n := 0) (m := 110) cItem rfl rfl rfl rfl (by have := hn; omega) (by omega)) ?_
  refine r_alloc (b := bxB 110 (itemC (⟨0, (⟨0, 0, 0, ⟨#[]⟩, (⟨(⟨0, 0, 0, dz, 0⟩ : Head), 0, dz⟩ : Signed), (⟨0, 0, 0, 0, dz⟩ : Claim)⟩ : Entry)⟩ : Item))) (nid := 5) (H' := [rwR cItem l, bxB 110 (itemC x), bxB 1 ([.int .i64 0]), rfB (slv 0 0 n c), bxB 1 ([.int .i64 x.entry.client]), bxB 110 (itemC (⟨0, (⟨0, 0, 0, ⟨#[]⟩, (⟨(⟨0, 0, 0, dz, 0⟩ : Head), 0, dz⟩ : Signed), (⟨0, 0, 0, 0, dz⟩ : Claim)⟩ : Entry)⟩ : Item))]) rfl rfl (by kernel_rfl) (by kernel_rfl) ?_
  refine r_assign (v := .int .i64 (i : Nat)) rfl rfl rfl ?_
  refine r_store (p := pt 5 0) (v := itemV (l.getD i default)) (b := 5) (blk := bxB 110 (itemC (l.getD i default))) (H' := [rwR cItem l, bxB 110 (itemC x), bxB 1 ([.int .i64 0]), rfB (slv 0 0 n c), bxB 1 ([.int .i64 x.entry.client]), bxB 110 (itemC (l.getD i default))]) rfl rfl rfl (by kernel_rfl) (by kernel_rfl) ?_
  refine r_doneN (x_round (cy_seq ?_))
  by_cases h2 : ((((l.getD i default).entry).kind)) = 1
  by_cases h3 : ((((l.getD i default).entry).client)) = x.entry.client
  have hlt : i < n := by omega
  have hp : (usP l x.entry.client) i = true := decide_eq_true ⟨by omega, by omega⟩
  refine cy_yieldG (fun w' h => ⟨w', h, rfl⟩) 16 rfl rfl rfl (by kernel_rfl) ?_
  refine r_fieldAddr (b := 5) (o := 0) (n := 1) (o' := 1) rfl rfl rfl rfl rfl ?_
  refine r_fieldAddr (b := 5) (o := 1) (n := 0) (o' := 1) rfl rfl rfl rfl rfl ?_
  refine r_load (p := pt 5 1) (v := .int .i64 ((((l.getD i default).entry).kind))) rfl rfl rfl (by kernel_rfl) ?_
  refine r_bin (v := .bool true) (vx := .int .i64 ((((l.getD i default).entry).kind))) (vy := .int .i64 1) rfl rfl rfl rfl (eql_t (by omega)) ?_
  refine r_move (v := .bool true) rfl rfl rfl ?_
  refine r_fieldAddr (b := 5) (o := 0) (n := 1) (o' := 1) rfl rfl rfl rfl rfl ?_
  refine r_fieldAddr (b := 5) (o := 1) (n := 1) (o' := 2) rfl rfl rfl rfl rfl ?_
  refine r_load (p := pt 5 2) (v := .int .i64 ((((l.getD i default).entry).client))) rfl rfl rfl (by kernel_rfl) ?_
  refine r_load (p := pt 4 0) (v := .int .i64 x.entry.client) rfl rfl rfl (by kernel_rfl) ?_
  refine r_bin (v := .bool true) (vx := .int .i64 ((((l.getD i default).entry).client))) (vy := .int .i64 x.entry.client) rfl rfl rfl rfl (eql_t (by omega)) ?_
  refine r_pick (v := .bool true) rfl rfl rfl ?_
  refine r_move (v := .bool true) rfl rfl rfl ?_
  refine r_move (v := .func (.yield l') #[] #[]) rfl rfl rfl ?_
  refine r_move (v := .int .i64 (i : Nat)) rfl rfl rfl ?_
  refine r_fieldAddr (b := 5) (o := 0) (n := 1) (o' := 1) rfl rfl rfl rfl rfl ?_
  refine r_load (p := pt 5 1) (v := entV ((l.getD i default).entry)) rfl rfl rfl (by kernel_rfl) ?_
  refine r_done ?_
  show YGoalG _ _ _ _ _ _ _ _ _ _ _ _ _ _
  unfold YGoalG
  refine ⟨l', [.int .i64 (i : Nat), entV ((l.getD i default).entry)], [rwR cItem l, bxB 110 (itemC x), bxB 1 ([.int .i64 0]), rfB (slv 0 0 n c), bxB 1 ([.int .i64 x.entry.client]), bxB 110 (itemC (l.getD i default))], (ok (cntU (usP l x.entry.client) i)), rfl, rfl, rfl, by decide, (by have h := hY (cntU (usP l x.entry.client) i) (selU_at hlt hp).2 hks; rw [(selU_at hlt hp).1] at h; exact h), fun hok => ?_, ?_⟩
  refine r_un (v := .bool false) (vx := .bool true) rfl rfl rfl un_not ?_
  refine r_pick (v := .bool false) rfl rfl rfl ?_
  refine r_doneN (x_round (cy_false rfl (cy_skip (x_blockN (x_round ?_)))))
  refine cy_reg (by kernel_rfl) ?_
  refine r_bin (v := .int .i64 ((i : Nat) + 1)) (vx := .int .i64 (i : Nat)) (vy := .int .i64 1) rfl rfl rfl rfl (bin_add (by omega) (by omega) (by omega)) ?_
  refine r_move (v := .int .i64 ((i : Nat) + 1)) rfl rfl rfl ?_
  refine r_doneN ?_
  refine x_round ⟨(i + 1), ⟨cnt_yes (by exact decide_eq_true ⟨by omega, by omega⟩) hks hok, by omega⟩, by show n - (i + 1) < n - i; omega, ?_⟩
  refine weak_to (n := 5) rfl ?_ (by kernel_rfl) (by kernel_rfl)
  repeat (first | exact trivial | refine ⟨.inl rfl, ?_⟩ | refine ⟨.inr ⟨rfl, rfl⟩, ?_⟩ | refine ⟨.inr ⟨congrArg (Value.int .i64) (by first | omega | (dsimp only; omega)), rfl⟩, ?_⟩)
  refine r_un (v := .bool true) (vx := .bool false) rfl rfl rfl un_not ?_
  refine r_pick (v := .bool true) rfl rfl rfl ?_
  refine r_doneN (x_round (cr_true rfl (cr_ret (x_blockR (x_leaveR (x_leaveR (x_blockR ?_)))))))
  exact ⟨.inr rfl⟩
  refine cy_reg (by kernel_rfl) ?_
  refine r_fieldAddr (b := 5) (o := 0) (n := 1) (o' := 1) rfl rfl rfl rfl rfl ?_
  refine r_fieldAddr (b := 5) (o := 1) (n := 0) (o' := 1) rfl rfl rfl rfl rfl ?_
  refine r_load (p := pt 5 1) (v := .int .i64 ((((l.getD i default).entry).kind))) rfl rfl rfl (by kernel_rfl) ?_
  refine r_bin (v := .bool true) (vx := .int .i64 ((((l.getD i default).entry).kind))) (vy := .int .i64 1) rfl rfl rfl rfl (eql_t (by omega)) ?_
  refine r_move (v := .bool true) rfl rfl rfl ?_
  refine r_fieldAddr (b := 5) (o := 0) (n := 1) (o' := 1) rfl rfl rfl rfl rfl ?_
  refine r_fieldAddr (b := 5) (o := 1) (n := 1) (o' := 2) rfl rfl rfl rfl rfl ?_
  refine r_load (p := pt 5 2) (v := .int .i64 ((((l.getD i default).entry).client))) rfl rfl rfl (by kernel_rfl) ?_
  refine r_load (p := pt 4 0) (v := .int .i64 x.entry.client) rfl rfl rfl (by kernel_rfl) ?_
  refine r_bin (v := .bool false) (vx := .int .i64 ((((l.getD i default).entry).client))) (vy := .int .i64 x.entry.client) rfl rfl rfl rfl (eql_f (by omega)) ?_
  refine r_pick (v := .bool false) rfl rfl rfl ?_
  refine r_move (v := .bool false) rfl rfl rfl ?_
  refine r_skip rfl rfl (r_skip rfl rfl (r_skip rfl rfl (r_skip rfl rfl (r_skip rfl rfl (r_skip rfl rfl ?_)))))
  refine r_pick (v := .bool false) rfl rfl rfl ?_
  refine r_doneN (x_round (cy_false rfl (cy_skip (x_blockN (x_round ?_)))))
  refine cy_reg (by kernel_rfl) ?_
  refine r_bin (v := .int .i64 ((i : Nat) + 1)) (vx := .int .i64 (i : Nat)) (vy := .int .i64 1) rfl rfl rfl rfl (bin_add (by omega) (by omega) (by omega)) ?_
  refine r_move (v := .int .i64 ((i : Nat) + 1)) rfl rfl rfl ?_
  refine r_doneN ?_
  refine x_round ⟨(i + 1), ⟨cnt_no (by exact decide_eq_false (fun q => by have := q.1; have := q.2; omega)) hks, by omega⟩, by show n - (i + 1) < n - i; omega, ?_⟩
  refine weak_to (n := 5) rfl ?_ (by kernel_rfl) (by kernel_rfl)
  repeat (first | exact trivial | refine ⟨.inl rfl, ?_⟩ | refine ⟨.inr ⟨rfl, rfl⟩, ?_⟩ | refine ⟨.inr ⟨congrArg (Value.int .i64) (by first | omega | (dsimp only; omega)), rfl⟩, ?_⟩)
  refine cy_reg (by kernel_rfl) ?_
  refine r_fieldAddr (b := 5) (o := 0) (n := 1) (o' := 1) rfl rfl rfl rfl rfl ?_
  refine r_fieldAddr (b := 5) (o := 1) (n := 0) (o' := 1) rfl rfl rfl rfl rfl ?_
  refine r_load (p := pt 5 1) (v := .int .i64 ((((l.getD i default).entry).kind))) rfl rfl rfl (by kernel_rfl) ?_
  refine r_bin (v := .bool false) (vx := .int .i64 ((((l.getD i default).entry).kind))) (vy := .int .i64 1) rfl rfl rfl rfl (eql_f (by omega)) ?_
  refine r_move (v := .bool false) rfl rfl rfl ?_
  refine r_skip rfl rfl (r_skip rfl rfl (r_skip rfl rfl (r_skip rfl rfl (r_skip rfl rfl ?_))))
  refine r_pick (v := .bool false) rfl rfl rfl ?_
  refine r_move (v := .bool false) rfl rfl rfl ?_
  refine r_skip rfl rfl (r_skip rfl rfl (r_skip rfl rfl (r_skip rfl rfl (r_skip rfl rfl (r_skip rfl rfl ?_)))))
  refine r_pick (v := .bool false) rfl rfl rfl ?_
  refine r_doneN (x_round (cy_false rfl (cy_skip (x_blockN (x_round ?_)))))
  refine cy_reg (by kernel_rfl) ?_
  refine r_bin (v := .int .i64 ((i : Nat) + 1)) (vx := .int .i64 (i : Nat)) (vy := .int .i64 1) rfl rfl rfl rfl (bin_add (by omega) (by omega) (by omega)) ?_
  refine r_move (v := .int .i64 ((i : Nat) + 1)) rfl rfl rfl ?_
  refine r_doneN ?_
  refine x_round ⟨(i + 1), ⟨cnt_no (by exact decide_eq_false (fun q => by have := q.1; have := q.2; omega)) hks, by omega⟩, by show n - (i + 1) < n - i; omega, ?_⟩
  refine weak_to (n := 5) rfl ?_ (by kernel_rfl) (by kernel_rfl)
  repeat (first | exact trivial | refine ⟨.inl rfl, ?_⟩ | refine ⟨.inr ⟨rfl, rfl⟩, ?_⟩ | refine ⟨.inr ⟨congrArg (Value.int .i64) (by first | omega | (dsimp only; omega)), rfl⟩, ?_⟩)
  refine r_bin (v := .bool false) (vx := .int .i64 (i : Nat)) (vy := .int .i64 (n : Nat)) rfl rfl rfl rfl (lss_f (by omega)) ?_
  refine r_doneN (x_round (cy_seq (cy_false rfl (cy_exit (x_leaveE (x_leaveE (x_block rfl ?_)))))))
  exact ⟨⟨.inl rfl, fun j hj => hks j (by rw [show i = n by omega]; exact hj), _, weak_to (l := []) (n := 5) rfl trivial (by kernel_rfl) (by kernel_rfl)⟩⟩
theorem May_ok (l : List Item) (n c : Nat) (hn : l.length = n) (hc : n ≤ c) (hb : n ≤ 1048576) (x : Item) : CallL Tryd.prog G 25 [slv 0 0 n c, itemV x] [rwR cItem l] (.int .i64 (mayF l n x)) [rwR cItem l] := by
  refine CallL.introM (fn := Tryd.f25) rfl rfl (nt := 54) rfl rfl ?_
  refine cm_seq (cm_run ?_)
  refine cr_hole 4 (H' := [rwR cItem l, hole, hole, hole, hole]) rfl ?_
  refine cr_reg (by kernel_rfl) ?_
  refine r_box (v := itemV x) (b := bxB 110 (itemC x)) (nid := 1) (H' := [rwR cItem l, bxB 110 (itemC x), hole, hole, hole]) rfl rfl rfl (by kernel_rfl) (by kernel_rfl) ?_
  refine r_alloc (b := bxB 1 ([.int .i64 0])) (nid := 2) (H' := [rwR cItem l, bxB 110 (itemC x), bxB 1 ([.int .i64 0]), hole, hole]) rfl rfl (by kernel_rfl) (by kernel_rfl) ?_
  refine r_doneN (x_round (cm_seq (cm_run (cr_block (cr_seq ?_)))))
  refine cr_reg (by kernel_rfl) ?_
  refine r_move (v := slv 0 0 n c) rfl rfl rfl ?_
  refine r_callN (e := [some (0, 0)]) (nid := 0) (LCheck_ok (G := G) l n c hn (by omega) (by omega)) (vals := [slv 0 0 n c]) (v := .int .i64 ((chkL l))) (H' := [rwR cItem l, bxB 110 (itemC x), bxB 1 ([.int .i64 0]), hole, hole]) rfl rfl rfl rfl rfl rfl rfl ⟨⟨⟨rfl, rfl, rfl, by first | omega | exact Nat.le_refl _, by first | omega | exact Nat.le_refl _⟩, trivial⟩, ⟨(emb_rwR rfl), trivial⟩, rfl, rfl, rfl⟩ rfl (by kernel_rfl) ?_
  by_cases h1 : ((chkL l)) ≠ 0
  refine r_bin (v := .bool true) (vx := .int .i64 ((chkL l))) (vy := .int .i64 0) rfl rfl rfl rfl (neq_t (by omega)) ?_
  refine r_move (v := .bool true) rfl rfl rfl ?_
  refine r_skip rfl rfl (r_skip rfl rfl (r_skip rfl rfl ?_))
  refine r_pick (v := .bool true) rfl rfl rfl ?_
  refine r_assign (v := .bool true) rfl rfl rfl ?_
  refine r_doneN (x_round (cr_true rfl (cr_seq ?_)))
  refine cr_reg (by kernel_rfl) ?_
  refine r_store (p := pt 2 0) (v := .int .i64 100) (b := 2) (blk := bxB 1 ([.int .i64 100])) (H' := [rwR cItem l, bxB 110 (itemC x), bxB 1 ([.int .i64 100]), hole, hole]) rfl rfl rfl (by kernel_rfl) (by kernel_rfl) ?_
  refine r_doneN (x_round (cr_ret (x_blockR (x_leaveR (x_end ?_)))))
  rw [show mayF l n x = 100 from may_100 (by first | exact .inl (chkL_neg (by omega)) | exact .inl (of_decide_eq_false (by assumption)) | exact .inr (of_decide_eq_false (by assumption)))]
  exact end_map [0] (v := .int .i64 100) rfl (by kernel_rfl) rfl rfl (by decide) (by simp [keptB, rwR, cItem]) rfl
  refine r_bin (v := .bool false) (vx := .int .i64 ((chkL l))) (vy := .int .i64 0) rfl rfl rfl rfl (neq_f (by omega)) ?_
  refine r_move (v := .bool false) rfl rfl rfl ?_
  refine r_load (p := pt 1 0) (v := itemV x) rfl rfl rfl (by kernel_rfl) ?_
  refine r_callP (right_ok (G := G) x) (vals := [itemV x]) (res' := .bool (decide (rightI x))) rfl rfl rfl rfl rfl rfl ?_
  rcases Bool.eq_false_or_eq_true (decide (rightI x)) with h2 | h2
  refine r_un (v := .bool false) (vx := .bool (decide (rightI x))) rfl rfl rfl (Eq.trans un_not (congrArg (fun b => some (Value.bool !b)) h2)) ?_
  refine r_pick (v := .bool false) rfl rfl rfl ?_
  refine r_assign (v := .bool false) rfl rfl rfl ?_
  refine r_doneN (x_round (cr_false rfl (cr_seq ?_)))
  refine cr_draw (by kernel_rfl) (by kernel_rfl) ?_
  refine r_move (v := slv 0 0 n c) rfl rfl rfl ?_
  refine r_len (p := slv 0 0 n c) (v := .int .i64 (n : Nat)) rfl rfl rfl rfl ?_
  by_cases h3 : 0 < (n : Nat)
  refine r_bin (v := .bool true) (vx := .int .i64 (n : Nat)) (vy := .int .i64 0) rfl rfl rfl rfl (gtr_t (by omega)) ?_
  refine r_move (v := .bool true) rfl rfl rfl ?_
  refine r_fieldAddr (b := 1) (o := 0) (n := 0) (o' := 0) rfl rfl rfl rfl rfl ?_
  refine r_load (p := pt 1 0) (v := .int .i64 x.epoch) rfl rfl rfl (by kernel_rfl) ?_
  refine r_move (v := slv 0 0 n c) rfl rfl rfl ?_
  refine r_move (v := slv 0 0 n c) rfl rfl rfl ?_
  refine r_len (p := slv 0 0 n c) (v := .int .i64 (n : Nat)) rfl rfl rfl rfl ?_
  refine r_bin (v := .int .i64 ((n : Nat) - 1)) (vx := .int .i64 (n : Nat)) (vy := .int .i64 1) rfl rfl rfl rfl (bin_sub (by omega) (by omega) (by omega)) ?_
  refine r_idxS (b := 0) (o := 0) (j := (n - 1) * 110) (m := n) (c := c) (sz := 110) (i := (n : Nat) - 1) (k := .i64) rfl rfl rfl rfl rfl (by omega) (by omega) (by omega) ?_
  refine r_fieldAddr (b := 0) (o := (n - 1) * 110) (n := 0) (o' := (n - 1) * 110) rfl rfl rfl rfl (by omega) ?_
  refine r_load (p := pt 0 ((n - 1) * 110)) (v := .int .i64 (((l.getD (n - 1) default).epoch))) rfl rfl rfl (load_fld1 cItem (l := l) (i := n - 1) (k := 0) (m := 110) rfl rfl rfl rfl (by have := hn; omega) (by omega) (by kernel_rfl) rfl) ?_
  by_cases h4 : x.epoch < (((l.getD (n - 1) default).epoch))
  refine r_bin (v := .bool true) (vx := .int .i64 x.epoch) (vy := .int .i64 (((l.getD (n - 1) default).epoch))) rfl rfl rfl rfl (lss_t (by omega)) ?_
  refine r_pick (v := .bool true) rfl rfl rfl ?_
  refine r_assign (v := .bool true) rfl rfl rfl ?_
  refine r_doneD (drawnT_ok [[], [0], [0, 1], [0, 1, 2], [0, 1, 2, 3], [0, 1, 2, 3, 4], [0, 1, 2, 3], [0, 1, 2, 3], [0, 1, 2, 3, 7], [0, 1, 2, 3, 7, 8], [0, 1, 2, 3, 6, 7, 8, 9], [0, 1, 2, 3, 6, 7, 8, 9, 10], [0, 1, 2, 3, 6, 7, 8, 9, 10, 11], [0, 1, 2, 3, 4, 5, 6, 7, 8, 9, 10, 11, 12], [0, 1, 2, 3, 4, 5, 6, 7, 8, 9, 10, 11, 12, 13], [0, 1, 2, 3, 4, 5, 6, 7, 8, 9, 10, 11, 12, 13, 14]] (by kernel_rfl) (by kernel_rfl)) ?_
  refine x_round (cr_true rfl (cr_seq ?_))
  refine cr_reg (by kernel_rfl) ?_
  refine r_store (p := pt 2 0) (v := .int .i64 102) (b := 2) (blk := bxB 1 ([.int .i64 102])) (H' := [rwR cItem l, bxB 110 (itemC x), bxB 1 ([.int .i64 102]), hole, hole]) rfl rfl rfl (by kernel_rfl) (by kernel_rfl) ?_
  refine r_doneN (x_round (cr_ret (x_blockR (x_leaveR (x_end ?_)))))
  rw [show mayF l n x = 102 from may_102 (by first | exact chkL_pos (by omega) | exact of_decide_eq_true (by assumption)) (of_decide_eq_true (by assumption)) (by omega) (by omega)]
  exact end_map [0] (v := .int .i64 102) rfl (by kernel_rfl) rfl rfl (by decide) (by simp [keptB, rwR, cItem]) rfl
  refine r_bin (v := .bool false) (vx := .int .i64 x.epoch) (vy := .int .i64 (((l.getD (n - 1) default).epoch))) rfl rfl rfl rfl (lss_f (by omega)) ?_
  refine r_pick (v := .bool false) rfl rfl rfl ?_
  refine r_assign (v := .bool false) rfl rfl rfl ?_
  refine r_doneD (drawnT_ok [[], [0], [0, 1], [0, 1, 2], [0, 1, 2, 3], [0, 1, 2, 3, 4], [0, 1, 2, 3], [0, 1, 2, 3], [0, 1, 2, 3, 7], [0, 1, 2, 3, 7, 8], [0, 1, 2, 3, 6, 7, 8, 9], [0, 1, 2, 3, 6, 7, 8, 9, 10], [0, 1, 2, 3, 6, 7, 8, 9, 10, 11], [0, 1, 2, 3, 4, 5, 6, 7, 8, 9, 10, 11, 12], [0, 1, 2, 3, 4, 5, 6, 7, 8, 9, 10, 11, 12, 13], [0, 1, 2, 3, 4, 5, 6, 7, 8, 9, 10, 11, 12, 13, 14]] (by kernel_rfl) (by kernel_rfl)) ?_
  refine x_round (cr_false rfl (cr_seq ?_))
  refine cr_reg (by kernel_rfl) ?_
  refine r_move (v := slv 0 0 n c) rfl rfl rfl ?_
  refine r_len (p := slv 0 0 n c) (v := .int .i64 (n : Nat)) rfl rfl rfl rfl ?_
  by_cases h5 : 2000 ≤ (n : Nat)
  refine r_bin (v := .bool true) (vx := .int .i64 (n : Nat)) (vy := .int .i64 2000) rfl rfl rfl rfl (geq_t (by omega)) ?_
  refine r_assign (v := .bool true) rfl rfl rfl ?_
  refine r_doneN (x_round (cr_true rfl (cr_seq ?_)))
  refine cr_reg (by kernel_rfl) ?_
  refine r_store (p := pt 2 0) (v := .int .i64 2) (b := 2) (blk := bxB 1 ([.int .i64 2])) (H' := [rwR cItem l, bxB 110 (itemC x), bxB 1 ([.int .i64 2]), hole, hole]) rfl rfl rfl (by kernel_rfl) (by kernel_rfl) ?_
  refine r_doneN (x_round (cr_ret (x_blockR (x_leaveR (x_end ?_)))))
  rw [show mayF l n x = 2 from may_2 (by first | exact chkL_pos (by omega) | exact of_decide_eq_true (by assumption)) (of_decide_eq_true (by assumption)) (fun q => by have := q.1; have := q.2; omega) (by omega)]
  exact end_map [0] (v := .int .i64 2) rfl (by kernel_rfl) rfl rfl (by decide) (by simp [keptB, rwR, cItem]) rfl
  refine r_bin (v := .bool false) (vx := .int .i64 (n : Nat)) (vy := .int .i64 2000) rfl rfl rfl rfl (geq_f (by omega)) ?_
  refine r_assign (v := .bool false) rfl rfl rfl ?_
  refine r_doneN (x_round (cr_false rfl (cr_seq ?_)))
  refine cr_reg (by kernel_rfl) ?_
  refine r_fieldAddr (b := 1) (o := 0) (n := 1) (o' := 1) rfl rfl rfl rfl rfl ?_
  refine r_fieldAddr (b := 1) (o := 1) (n := 0) (o' := 1) rfl rfl rfl rfl rfl ?_
  refine r_load (p := pt 1 1) (v := .int .i64 x.entry.kind) rfl rfl rfl (by kernel_rfl) ?_
  by_cases h6 : x.entry.kind ≠ 1
  refine r_bin (v := .bool true) (vx := .int .i64 x.entry.kind) (vy := .int .i64 1) rfl rfl rfl rfl (neq_t (by omega)) ?_
  refine r_assign (v := .bool true) rfl rfl rfl ?_
  refine r_doneN (x_round (cr_true rfl (cr_seq ?_)))
  refine cr_reg (by kernel_rfl) ?_
  refine r_store (p := pt 2 0) (v := .int .i64 0) (b := 2) (blk := bxB 1 ([.int .i64 0])) (H' := [rwR cItem l, bxB 110 (itemC x), bxB 1 ([.int .i64 0]), hole, hole]) rfl rfl rfl (by kernel_rfl) (by kernel_rfl) ?_
  refine r_doneN (x_round (cr_ret (x_blockR (x_leaveR (x_end ?_)))))
  rw [show mayF l n x = 0 from (by first | exact may_0 (by first | exact chkL_pos (by omega) | exact of_decide_eq_true (by assumption)) (of_decide_eq_true (by assumption)) (fun q => by have := q.1; have := q.2; omega) (by omega) (by omega) | exact mayL_ok (by first | exact chkL_pos (by omega) | exact of_decide_eq_true (by assumption)) (of_decide_eq_true (by assumption)) (fun q => by have := q.1; have := q.2; omega) (by omega) (by omega) (old_none hn hall))]
  exact end_map [0] (v := .int .i64 0) rfl (by kernel_rfl) rfl rfl (by decide) (by simp [keptB, rwR, cItem]) rfl
  refine r_bin (v := .bool false) (vx := .int .i64 x.entry.kind) (vy := .int .i64 1) rfl rfl rfl rfl (neq_f (by omega)) ?_
  refine r_assign (v := .bool false) rfl rfl rfl ?_
  refine r_doneN (x_round (cr_false rfl (cr_skip (x_blockN (x_round (cm_seq (cm_seq (cm_run ?_))))))))
  refine cr_reg (by kernel_rfl) ?_
  refine r_move (v := slv 0 0 n c) rfl rfl rfl ?_
  refine r_fieldAddr (b := 1) (o := 0) (n := 1) (o' := 1) rfl rfl rfl rfl rfl ?_
  refine r_fieldAddr (b := 1) (o := 1) (n := 1) (o' := 2) rfl rfl rfl rfl rfl ?_
  refine r_load (p := pt 1 2) (v := .int .i64 x.entry.client) rfl rfl rfl (by kernel_rfl) ?_
  refine r_callN (e := [some (0, 0)]) (nid := 3) (users_ok (G := G) l n c hn (by omega) (by omega) x.entry.client) (vals := [slv 0 0 n c, .int .i64 x.entry.client]) (v := .func (.func 69) #[] #[pt 3 0, pt 4 0]) (H' := [rwR cItem l, bxB 110 (itemC x), bxB 1 ([.int .i64 0]), rfB (slv 0 0 n c), bxB 1 ([.int .i64 x.entry.client])]) rfl rfl rfl rfl rfl rfl rfl ⟨⟨⟨rfl, rfl, rfl, by first | omega | exact Nat.le_refl _, by first | omega | exact Nat.le_refl _⟩, rfl, trivial⟩, ⟨(emb_rwR rfl), trivial⟩, rfl, rfl, rfl⟩ (by kernel_rfl) (by kernel_rfl) ?_
  refine r_doneN (x_round ?_)
  have hiter := users_M (G := G) l n c hn hc hb x (fun k => ¬ x.entry.seq ≤ (l.getD ((selU (usP l x.entry.client) n).getD k 0) default).entry.seq)
  refine cm_range (lbs := #[pt 3 0, pt 4 0]) (iter := hiter) rfl rfl rfl (by intro _ _; rfl) (by kernel_rfl) ?_ ?_
  · intro lp k hk hks
    have hku := selU_of hk
    refine cr_hole 2 (H' := [rwR cItem l, bxB 110 (itemC x), bxB 1 ([.int .i64 0]), rfB (slv 0 0 n c), bxB 1 ([.int .i64 x.entry.client]), bxB 110 (itemC (l.getD ((selU (usP l x.entry.client) n).getD k 0) default)), hole, hole]) rfl ?_
    refine cr_reg (by kernel_rfl) ?_
    refine r_alloc (b := bxB 109 (entC (⟨0, 0, 0, ⟨#[]⟩, (⟨(⟨0, 0, 0, dz, 0⟩ : Head), 0, dz⟩ : Signed), (⟨0, 0, 0, 0, dz⟩ : Claim)⟩ : Entry))) (nid := 6) (H' := [rwR cItem l, bxB 110 (itemC x), bxB 1 ([.int .i64 0]), rfB (slv 0 0 n c), bxB 1 ([.int .i64 x.entry.client]), bxB 110 (itemC (l.getD ((selU (usP l x.entry.client) n).getD k 0) default)), bxB 109 (entC (⟨0, 0, 0, ⟨#[]⟩, (⟨(⟨0, 0, 0, dz, 0⟩ : Head), 0, dz⟩ : Signed), (⟨0, 0, 0, 0, dz⟩ : Claim)⟩ : Entry)), hole]) rfl rfl (by kernel_rfl) (by kernel_rfl) ?_
    refine r_store (p := pt 6 0) (v := entV ((l.getD ((selU (usP l x.entry.client) n).getD k 0) default).entry)) (b := 6) (blk := bxB 109 (entC ((l.getD ((selU (usP l x.entry.client) n).getD k 0) default).entry))) (H' := [rwR cItem l, bxB 110 (itemC x), bxB 1 ([.int .i64 0]), rfB (slv 0 0 n c), bxB 1 ([.int .i64 x.entry.client]), bxB 110 (itemC (l.getD ((selU (usP l x.entry.client) n).getD k 0) default)), bxB 109 (entC ((l.getD ((selU (usP l x.entry.client) n).getD k 0) default).entry)), hole]) rfl rfl rfl (by kernel_rfl) (by kernel_rfl) ?_
    refine r_doneN (x_round (cr_block (cr_seq ?_)))
    refine cr_reg (by kernel_rfl) ?_
    refine r_fieldAddr (b := 6) (o := 0) (n := 2) (o' := 2) rfl rfl rfl rfl rfl ?_
    refine r_load (p := pt 6 2) (v := .int .i64 ((((l.getD ((selU (usP l x.entry.client) n).getD k 0) default).entry).seq))) rfl rfl rfl (by kernel_rfl) ?_
    refine r_fieldAddr (b := 1) (o := 0) (n := 1) (o' := 1) rfl rfl rfl rfl rfl ?_
    refine r_fieldAddr (b := 1) (o := 1) (n := 2) (o' := 3) rfl rfl rfl rfl rfl ?_
    refine r_load (p := pt 1 3) (v := .int .i64 x.entry.seq) rfl rfl rfl (by kernel_rfl) ?_
    by_cases h7 : x.entry.seq ≤ ((((l.getD ((selU (usP l x.entry.client) n).getD k 0) default).entry).seq))
    refine r_bin (v := .bool true) (vx := .int .i64 ((((l.getD ((selU (usP l x.entry.client) n).getD k 0) default).entry).seq))) (vy := .int .i64 x.entry.seq) rfl rfl rfl rfl (geq_t (by omega)) ?_
    refine r_doneN (x_round (cr_true rfl (cr_seq ?_)))
    refine cr_reg (by kernel_rfl) ?_
    refine r_store (p := pt 2 0) (v := .int .i64 101) (b := 2) (blk := bxB 1 ([.int .i64 101])) (H' := [rwR cItem l, bxB 110 (itemC x), bxB 1 ([.int .i64 101]), rfB (slv 0 0 n c), bxB 1 ([.int .i64 x.entry.client]), bxB 110 (itemC (l.getD ((selU (usP l x.entry.client) n).getD k 0) default)), bxB 109 (entC ((l.getD ((selU (usP l x.entry.client) n).getD k 0) default).entry)), hole]) rfl rfl rfl (by kernel_rfl) (by kernel_rfl) ?_
    refine r_doneN (x_round (cr_ret (x_blockR ?_)))
    refine ⟨?_⟩
    show ∃ v e, EndOK _ _ _ _ _ _ _ v e
    rw [show mayF l n x = 101 from may_101 (by first | exact chkL_pos (by omega) | exact of_decide_eq_true (by assumption)) (of_decide_eq_true (by assumption)) (fun q => by have := q.1; have := q.2; omega) (by omega) (by omega) (old_hit hn hk (by omega))]
    exact end_map [0] (v := .int .i64 101) rfl (by kernel_rfl) rfl rfl (by decide) (by simp [keptB, rwR, cItem]) rfl
    refine r_bin (v := .bool false) (vx := .int .i64 ((((l.getD ((selU (usP l x.entry.client) n).getD k 0) default).entry).seq))) (vy := .int .i64 x.entry.seq) rfl rfl rfl rfl (geq_f (by omega)) ?_
    refine r_doneN (x_round (cr_false rfl (cr_skip (x_blockN ?_))))
    exact ⟨⟨(by show ¬ _ ≤ _; omega), _, weak_to (l := []) (n := 6) rfl trivial (by kernel_rfl) (by kernel_rfl)⟩⟩
  intro hall
  show CW none _ _ _ _ _ _ _
  refine cr_seq ?_
  refine cr_reg (by kernel_rfl) ?_
  refine r_store (p := pt 2 0) (v := .int .i64 0) (b := 2) (blk := bxB 1 ([.int .i64 0])) (H' := [rwR cItem l, bxB 110 (itemC x), bxB 1 ([.int .i64 0]), rfB (slv 0 0 n c), bxB 1 ([.int .i64 x.entry.client])]) rfl rfl rfl (by kernel_rfl) (by kernel_rfl) ?_
  refine r_doneN (x_round (cr_ret (x_leaveR (x_end ?_))))
  rw [show mayF l n x = 0 from (by first | exact may_0 (by first | exact chkL_pos (by omega) | exact of_decide_eq_true (by assumption)) (of_decide_eq_true (by assumption)) (fun q => by have := q.1; have := q.2; omega) (by omega) (by omega) | exact mayL_ok (by first | exact chkL_pos (by omega) | exact of_decide_eq_true (by assumption)) (of_decide_eq_true (by assumption)) (fun q => by have := q.1; have := q.2; omega) (by omega) (by omega) (old_none hn hall))]
  exact end_map [0] (v := .int .i64 0) rfl (by kernel_rfl) rfl rfl (by decide) (by simp [keptB, rwR, cItem]) rfl
  refine r_bin (v := .bool false) (vx := .int .i64 (n : Nat)) (vy := .int .i64 0) rfl rfl rfl rfl (gtr_f (by omega)) ?_
  refine r_move (v := .bool false) rfl rfl rfl ?_
  refine r_skip rfl rfl (r_skip rfl rfl (r_skip rfl rfl (r_skip rfl rfl (r_skip rfl rfl (r_skip rfl rfl (r_skip rfl rfl (r_skip rfl rfl (r_skip rfl rfl (r_skip rfl rfl ?_)))))))))
  refine r_pick (v := .bool false) rfl rfl rfl ?_
  refine r_assign (v := .bool false) rfl rfl rfl ?_
  refine r_doneD (drawnT_ok [[], [0], [0, 1], [0, 1, 2], [0, 1, 2, 3], [0, 1, 2, 3, 4], [0, 1, 2, 3], [0, 1, 2, 3], [0, 1, 2, 3, 7], [0, 1, 2, 3, 7, 8], [0, 1, 2, 3, 6, 7, 8, 9], [0, 1, 2, 3, 6, 7, 8, 9, 10], [0, 1, 2, 3, 6, 7, 8, 9, 10, 11], [0, 1, 2, 3, 4, 5, 6, 7, 8, 9, 10, 11, 12], [0, 1, 2, 3, 4, 5, 6, 7, 8, 9, 10, 11, 12, 13], [0, 1, 2, 3, 4, 5, 6, 7, 8, 9, 10, 11, 12, 13, 14]] (by kernel_rfl) (by kernel_rfl)) ?_
  refine x_round (cr_false rfl (cr_seq ?_))
  refine cr_reg (by kernel_rfl) ?_
  refine r_move (v := slv 0 0 n c) rfl rfl rfl ?_
  refine r_len (p := slv 0 0 n c) (v := .int .i64 (n : Nat)) rfl rfl rfl rfl ?_
  refine r_bin (v := .bool false) (vx := .int .i64 (n : Nat)) (vy := .int .i64 2000) rfl rfl rfl rfl (geq_f (by omega)) ?_
  refine r_assign (v := .bool false) rfl rfl rfl ?_
  refine r_doneN (x_round (cr_false rfl (cr_seq ?_)))
  refine cr_reg (by kernel_rfl) ?_
  refine r_fieldAddr (b := 1) (o := 0) (n := 1) (o' := 1) rfl rfl rfl rfl rfl ?_
  refine r_fieldAddr (b := 1) (o := 1) (n := 0) (o' := 1) rfl rfl rfl rfl rfl ?_
  refine r_load (p := pt 1 1) (v := .int .i64 x.entry.kind) rfl rfl rfl (by kernel_rfl) ?_
  by_cases h8 : x.entry.kind ≠ 1
  refine r_bin (v := .bool true) (vx := .int .i64 x.entry.kind) (vy := .int .i64 1) rfl rfl rfl rfl (neq_t (by omega)) ?_
  refine r_assign (v := .bool true) rfl rfl rfl ?_
  refine r_doneN (x_round (cr_true rfl (cr_seq ?_)))
  refine cr_reg (by kernel_rfl) ?_
  refine r_store (p := pt 2 0) (v := .int .i64 0) (b := 2) (blk := bxB 1 ([.int .i64 0])) (H' := [rwR cItem l, bxB 110 (itemC x), bxB 1 ([.int .i64 0]), hole, hole]) rfl rfl rfl (by kernel_rfl) (by kernel_rfl) ?_
  refine r_doneN (x_round (cr_ret (x_blockR (x_leaveR (x_end ?_)))))
  rw [show mayF l n x = 0 from (by first | exact may_0 (by first | exact chkL_pos (by omega) | exact of_decide_eq_true (by assumption)) (of_decide_eq_true (by assumption)) (fun q => by have := q.1; have := q.2; omega) (by omega) (by omega) | exact mayL_ok (by first | exact chkL_pos (by omega) | exact of_decide_eq_true (by assumption)) (of_decide_eq_true (by assumption)) (fun q => by have := q.1; have := q.2; omega) (by omega) (by omega) (old_none hn hall))]
  exact end_map [0] (v := .int .i64 0) rfl (by kernel_rfl) rfl rfl (by decide) (by simp [keptB, rwR, cItem]) rfl
  refine r_bin (v := .bool false) (vx := .int .i64 x.entry.kind) (vy := .int .i64 1) rfl rfl rfl rfl (neq_f (by omega)) ?_
  refine r_assign (v := .bool false) rfl rfl rfl ?_
  refine r_doneN (x_round (cr_false rfl (cr_skip (x_blockN (x_round (cm_seq (cm_seq (cm_run ?_))))))))
  refine cr_reg (by kernel_rfl) ?_
  refine r_move (v := slv 0 0 n c) rfl rfl rfl ?_
  refine r_fieldAddr (b := 1) (o := 0) (n := 1) (o' := 1) rfl rfl rfl rfl rfl ?_
  refine r_fieldAddr (b := 1) (o := 1) (n := 1) (o' := 2) rfl rfl rfl rfl rfl ?_
  refine r_load (p := pt 1 2) (v := .int .i64 x.entry.client) rfl rfl rfl (by kernel_rfl) ?_
  refine r_callN (e := [some (0, 0)]) (nid := 3) (users_ok (G := G) l n c hn (by omega) (by omega) x.entry.client) (vals := [slv 0 0 n c, .int .i64 x.entry.client]) (v := .func (.func 69) #[] #[pt 3 0, pt 4 0]) (H' := [rwR cItem l, bxB 110 (itemC x), bxB 1 ([.int .i64 0]), rfB (slv 0 0 n c), bxB 1 ([.int .i64 x.entry.client])]) rfl rfl rfl rfl rfl rfl rfl ⟨⟨⟨rfl, rfl, rfl, by first | omega | exact Nat.le_refl _, by first | omega | exact Nat.le_refl _⟩, rfl, trivial⟩, ⟨(emb_rwR rfl), trivial⟩, rfl, rfl, rfl⟩ (by kernel_rfl) (by kernel_rfl) ?_
  refine r_doneN (x_round ?_)
  have hiter := users_M (G := G) l n c hn hc hb x (fun k => ¬ x.entry.seq ≤ (l.getD ((selU (usP l x.entry.client) n).getD k 0) default).entry.seq)
  refine cm_range (lbs := #[pt 3 0, pt 4 0]) (iter := hiter) rfl rfl rfl (by intro _ _; rfl) (by kernel_rfl) ?_ ?_
  · intro lp k hk hks
    have hku := selU_of hk
    refine cr_hole 2 (H' := [rwR cItem l, bxB 110 (itemC x), bxB 1 ([.int .i64 0]), rfB (slv 0 0 n c), bxB 1 ([.int .i64 x.entry.client]), bxB 110 (itemC (l.getD ((selU (usP l x.entry.client) n).getD k 0) default)), hole, hole]) rfl ?_
    refine cr_reg (by kernel_rfl) ?_
    refine r_alloc (b := bxB 109 (entC (⟨0, 0, 0, ⟨#[]⟩, (⟨(⟨0, 0, 0, dz, 0⟩ : Head), 0, dz⟩ : Signed), (⟨0, 0, 0, 0, dz⟩ : Claim)⟩ : Entry))) (nid := 6) (H' := [rwR cItem l, bxB 110 (itemC x), bxB 1 ([.int .i64 0]), rfB (slv 0 0 n c), bxB 1 ([.int .i64 x.entry.client]), bxB 110 (itemC (l.getD ((selU (usP l x.entry.client) n).getD k 0) default)), bxB 109 (entC (⟨0, 0, 0, ⟨#[]⟩, (⟨(⟨0, 0, 0, dz, 0⟩ : Head), 0, dz⟩ : Signed), (⟨0, 0, 0, 0, dz⟩ : Claim)⟩ : Entry)), hole]) rfl rfl (by kernel_rfl) (by kernel_rfl) ?_
    refine r_store (p := pt 6 0) (v := entV ((l.getD ((selU (usP l x.entry.client) n).getD k 0) default).entry)) (b := 6) (blk := bxB 109 (entC ((l.getD ((selU (usP l x.entry.client) n).getD k 0) default).entry))) (H' := [rwR cItem l, bxB 110 (itemC x), bxB 1 ([.int .i64 0]), rfB (slv 0 0 n c), bxB 1 ([.int .i64 x.entry.client]), bxB 110 (itemC (l.getD ((selU (usP l x.entry.client) n).getD k 0) default)), bxB 109 (entC ((l.getD ((selU (usP l x.entry.client) n).getD k 0) default).entry)), hole]) rfl rfl rfl (by kernel_rfl) (by kernel_rfl) ?_
    refine r_doneN (x_round (cr_block (cr_seq ?_)))
    refine cr_reg (by kernel_rfl) ?_
    refine r_fieldAddr (b := 6) (o := 0) (n := 2) (o' := 2) rfl rfl rfl rfl rfl ?_
    refine r_load (p := pt 6 2) (v := .int .i64 ((((l.getD ((selU (usP l x.entry.client) n).getD k 0) default).entry).seq))) rfl rfl rfl (by kernel_rfl) ?_
    refine r_fieldAddr (b := 1) (o := 0) (n := 1) (o' := 1) rfl rfl rfl rfl rfl ?_
    refine r_fieldAddr (b := 1) (o := 1) (n := 2) (o' := 3) rfl rfl rfl rfl rfl ?_
    refine r_load (p := pt 1 3) (v := .int .i64 x.entry.seq) rfl rfl rfl (by kernel_rfl) ?_
    by_cases h9 : x.entry.seq ≤ ((((l.getD ((selU (usP l x.entry.client) n).getD k 0) default).entry).seq))
    refine r_bin (v := .bool true) (vx := .int .i64 ((((l.getD ((selU (usP l x.entry.client) n).getD k 0) default).entry).seq))) (vy := .int .i64 x.entry.seq) rfl rfl rfl rfl (geq_t (by omega)) ?_
    refine r_doneN (x_round (cr_true rfl (cr_seq ?_)))
    refine cr_reg (by kernel_rfl) ?_
    refine r_store (p := pt 2 0) (v := .int .i64 101) (b := 2) (blk := bxB 1 ([.int .i64 101])) (H' := [rwR cItem l, bxB 110 (itemC x), bxB 1 ([.int .i64 101]), rfB (slv 0 0 n c), bxB 1 ([.int .i64 x.entry.client]), bxB 110 (itemC (l.getD ((selU (usP l x.entry.client) n).getD k 0) default)), bxB 109 (entC ((l.getD ((selU (usP l x.entry.client) n).getD k 0) default).entry)), hole]) rfl rfl rfl (by kernel_rfl) (by kernel_rfl) ?_
    refine r_doneN (x_round (cr_ret (x_blockR ?_)))
    refine ⟨?_⟩
    show ∃ v e, EndOK _ _ _ _ _ _ _ v e
    rw [show mayF l n x = 101 from may_101 (by first | exact chkL_pos (by omega) | exact of_decide_eq_true (by assumption)) (of_decide_eq_true (by assumption)) (fun q => by have := q.1; have := q.2; omega) (by omega) (by omega) (old_hit hn hk (by omega))]
    exact end_map [0] (v := .int .i64 101) rfl (by kernel_rfl) rfl rfl (by decide) (by simp [keptB, rwR, cItem]) rfl
    refine r_bin (v := .bool false) (vx := .int .i64 ((((l.getD ((selU (usP l x.entry.client) n).getD k 0) default).entry).seq))) (vy := .int .i64 x.entry.seq) rfl rfl rfl rfl (geq_f (by omega)) ?_
    refine r_doneN (x_round (cr_false rfl (cr_skip (x_blockN ?_))))
    exact ⟨⟨(by show ¬ _ ≤ _; omega), _, weak_to (l := []) (n := 6) rfl trivial (by kernel_rfl) (by kernel_rfl)⟩⟩
  intro hall
  show CW none _ _ _ _ _ _ _
  refine cr_seq ?_
  refine cr_reg (by kernel_rfl) ?_
  refine r_store (p := pt 2 0) (v := .int .i64 0) (b := 2) (blk := bxB 1 ([.int .i64 0])) (H' := [rwR cItem l, bxB 110 (itemC x), bxB 1 ([.int .i64 0]), rfB (slv 0 0 n c), bxB 1 ([.int .i64 x.entry.client])]) rfl rfl rfl (by kernel_rfl) (by kernel_rfl) ?_
  refine r_doneN (x_round (cr_ret (x_leaveR (x_end ?_))))
  rw [show mayF l n x = 0 from (by first | exact may_0 (by first | exact chkL_pos (by omega) | exact of_decide_eq_true (by assumption)) (of_decide_eq_true (by assumption)) (fun q => by have := q.1; have := q.2; omega) (by omega) (by omega) | exact mayL_ok (by first | exact chkL_pos (by omega) | exact of_decide_eq_true (by assumption)) (of_decide_eq_true (by assumption)) (fun q => by have := q.1; have := q.2; omega) (by omega) (by omega) (old_none hn hall))]
  exact end_map [0] (v := .int .i64 0) rfl (by kernel_rfl) rfl rfl (by decide) (by simp [keptB, rwR, cItem]) rfl
  refine r_un (v := .bool true) (vx := .bool (decide (rightI x))) rfl rfl rfl (Eq.trans un_not (congrArg (fun b => some (Value.bool !b)) h2)) ?_
  refine r_pick (v := .bool true) rfl rfl rfl ?_
  refine r_assign (v := .bool true) rfl rfl rfl ?_
  refine r_doneN (x_round (cr_true rfl (cr_seq ?_)))
  refine cr_reg (by kernel_rfl) ?_
  refine r_store (p := pt 2 0) (v := .int .i64 100) (b := 2) (blk := bxB 1 ([.int .i64 100])) (H' := [rwR cItem l, bxB 110 (itemC x), bxB 1 ([.int .i64 100]), hole, hole]) rfl rfl rfl (by kernel_rfl) (by kernel_rfl) ?_
  refine r_doneN (x_round (cr_ret (x_blockR (x_leaveR (x_end ?_)))))
  rw [show mayF l n x = 100 from may_100 (by first | exact .inl (chkL_neg (by omega)) | exact .inl (of_decide_eq_false (by assumption)) | exact .inr (of_decide_eq_false (by assumption)))]
  exact end_map [0] (v := .int .i64 100) rfl (by kernel_rfl) rfl rfl (by decide) (by simp [keptB, rwR, cItem]) rfl
end Go.Flat
